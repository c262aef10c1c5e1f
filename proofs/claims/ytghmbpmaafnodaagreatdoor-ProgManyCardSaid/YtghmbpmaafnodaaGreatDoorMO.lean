/-
  Texts of one proof, laid together: Qe Qf Qg Qh ShA L1.
-/
import Derived.Test.YtghmbpmaafnodaaGreatDoorMN
import Derived.Test.YtghmbpmaafnodaaGreatDoorMD
import Derived.Test.YtghmbpmaafnodaaGreatDoorMG
import Derived.Test.YtghmbpmaafnodaaGreatDoorML
set_option linter.unusedVariables false
set_option linter.unusedSimpArgs false
namespace Go.Proofs.YtghmbpmaafnodaaGreatDoor
open Go.Ev
def kRc : Kd Rc := ⟨3, fun H ok x cs => ∃ v, cs = [.str x.name, v, .int .i64 x.pos] ∧ Sl kPm H ok x.fields v, fun ⟨v, h, k⟩ => by rw [h]; exact ⟨rfl, by simp only [List.all_cons, List.all_nil, one_str, one_int, k.one, Bool.and_self]⟩, fun p ⟨v, h, k⟩ => ⟨v, h, k.keep p⟩⟩
def kFn : Kd Fn := ⟨7, fun H ok x cs => ∃ v w, cs = [.str x.name, v, .bool x.has, .str x.rn, .int .i64 x.rd, w, .int .i64 x.pos] ∧ Sl kPm H ok x.params v ∧ SsV H ok x.body w, fun ⟨v, w, h, k, q⟩ => by rw [h]; exact ⟨rfl, by simp only [List.all_cons, List.all_nil, one_str, one_int, one_bool, k.one, q.oneAV, Bool.and_self]⟩, fun p ⟨v, w, h, k, q⟩ => ⟨v, w, h, k.keep p, q.keep p.s⟩⟩
theorem ltyRc : LTy 22 41 3 := ⟨by kernel_rfl, ts41, ⟨_, (by kernel_rfl : tyBytes P 41 = some 48), by decide⟩, ⟨_, (by kernel_rfl : azero P 41 = some (.agg [.str [], .nilSl, .int .i64 0])), rfl, rfl⟩, by decide⟩
theorem ltyFn : LTy 24 46 7 := ⟨by kernel_rfl, ts46, ⟨_, (by kernel_rfl : tyBytes P 46 = some 104), by decide⟩, ⟨_, (by kernel_rfl : azero P 46 = some (.agg [.str [], .nilSl, .bool false, .str [], .int .i64 0, .nilSl, .int .i64 0])), rfl, rfl⟩, by decide⟩
section
variable {H H' H1 : AHeap} {r : Nat} {T : List Tok} {tv rv gv fv : AV} {s s' : St}
theorem Bl.len22 {ok : Nat → Prop} {l : List Rc} {v : AV} (h : Bl kRc ok H l v) (H' : AHeap) : abuiltin P H' .len [22] [v] = some (.int .i64 l.length) := by
 rcases h with ⟨rfl, rfl⟩ | ⟨L, els, rfl, _⟩
 ·exact ln22n
 ·exact ln22
theorem Bl.len24 {ok : Nat → Prop} {l : List Fn} {v : AV} (h : Bl kFn ok H l v) (H' : AHeap) : abuiltin P H' .len [24] [v] = some (.int .i64 l.length) := by
 rcases h with ⟨rfl, rfl⟩ | ⟨L, els, rfl, _⟩
 ·exact ln24n
 ·exact ln24
theorem grow {α : Type} {K : Kd α} {t e : Nat} (y : LTy t e K.esz) {k1 : Nat → Prop} {l : List α} {v : AV} (hb : Bl K k1 H1 l v) (m : Mr r H1.next H1 H) (hr : ∀ k, k1 k → r < k) (hrn : r < H1.next) {a : α} {cs : List AV} {n2 : Nat} (he : K.V H (Ge n2) a cs) (hn2 : H1.next ≤ n2) (hl : l.length ≤ 1000000000) :
  ∃ v' H', aappend P (H.push (.row false K.esz [cs])) [t, t] v (.sl H.next 0 1 K.esz (some 1)) = some (v', H') ∧ v'.one = true ∧ (∀ b, Bl K (fun k => k1 k ∨ H1.next ≤ k) (H'.set r b) (l ++ [a]) v') ∧ H.next + 1 ≤ H'.next ∧ H'.get r = H.get r ∧
   (∀ k x, ¬ k1 k → k < H1.next → k ≠ r → H1.get k = some x → ∀ b, (H'.set r b).get k = some x) ∧ ∀ b, Mut (fun k => r ≤ k) H1 (H'.set r b) := by
 have hm := m.1
 have kp : KeepA H1 k1 H k1 := fun k x hk g => by
  have := AHeap.get_lt g
  have := hr k hk
  exact ⟨hk, m.get g (by omega)⟩
 have hb' := hb.keep kp
 have hL : ∀ L n c, v = .sl L 0 n K.esz c → k1 L ∧ L < H1.next := by
  intro L n c hv
  rcases hb with ⟨rfl, _⟩ | ⟨L', els, rfl, q1, q2, _⟩
  ·cases hv
  ·cases hv; exact ⟨q1, AHeap.get_lt q2⟩
 obtain ⟨v', H', a1, a2, a3, a4⟩ := hb'.app y (ok' := fun k => k1 k ∨ H1.next ≤ k) he (fun k x hk g => ⟨.inr (by unfold Ge at hk; omega), fun L hv => by have := (hL L _ _ hv).2; unfold Ge at hk; omega⟩) (fun k x hk _ => .inl hk) (.inr (by omega)) hl
 refine ⟨v', H', a1, a2.one, fun b => a2.keep fun k x hk g => ⟨hk, ?_⟩, a3, a4 r (by omega) (fun L hv => by have := hr L (hL L _ _ hv).1; omega), fun k x hk hlt hne g b => ?_, fun b => ⟨by simp only [AHeap.next_set]; omega, fun k hk hs => ?_⟩⟩
 ·rw [AHeap.get_set_other]
  ·exact g
  ·rintro rfl
   rcases hk with hk | hk
   ·have := hr _ hk; omega
   ·omega
 ·rw [AHeap.get_set_other (Ne.symm hne), a4 k (by omega) (fun L hv e => hk (e ▸ (hL L _ _ hv).1))]
  exact m.get g (by omega)
 ·have hk' : k < r := by simpa using hs
  rw [AHeap.get_set_other (by omega), a4 k (by omega) (fun L hv e => by have := hr L (hL L _ _ hv).1; omega)]
  exact m.2 k hk (by omega)
def Rs (H : AHeap) (r : Nat) (T : List Tok) (tv : AV) (g : Pg) (s : St) : Prop := ∃ rv gv fv, ∃ k1 k2 k3 : Nat → Prop, Rp H r T tv rv gv fv s ∧ (∀ l i n e c, tv = .sl l i n e c → l < r) ∧ Bl kRc k1 H g.recs rv ∧ Bl kPm k2 H g.globals gv ∧ Bl kFn k3 H g.funcs fv ∧ (∀ k, k1 k → r < k ∧ ¬ k2 k ∧ ¬ k3 k) ∧ (∀ k, k2 k → r < k ∧ ¬ k3 k) ∧ ∀ k, k3 k → r < k
abbrev Mg (r : Nat) : AHeap → AHeap → Prop := Mut fun k => r ≤ k
theorem Rp.fin3 {rv' gv' fv' : AV} (h : Rp H r T tv rv gv fv s) (ht : ∀ l i n e c, tv = .sl l i n e c → l < r) (m : Mg r H H') (hg : H'.get r = some (r7 tv rv' gv' fv' s')) (a0 : 0 ≤ s'.at_) (a1 : s'.at_ < T.length) (z : s'.fe = 0 → s'.fa = 0) (o : s'.opn = 0) (one : rv'.one = true ∧ gv'.one = true ∧ fv'.one = true) : Rp H' r T tv rv' gv' fv' s' := by
 refine ⟨hg, ?_, a0, a1, h.n, z, o, one⟩
 rcases h.tk with hh | ⟨l, i, cap, rfl, hh⟩
 ·exact .inl hh
 ·refine .inr ⟨l, i, cap, rfl, hh.imp id fun ⟨ro, els, q1, q2⟩ => ⟨ro, els, m.get q1 ?_, q2⟩⟩
  have := ht _ _ _ _ _ rfl
  omega
theorem Rs.mut {g : Pg} {rv gv fv : AV} {k1 k2 k3 : Nat → Prop} (ht : ∀ l i n e c, tv = .sl l i n e c → l < r) (b1 : Bl kRc k1 H g.recs rv) (b2 : Bl kPm k2 H g.globals gv) (b3 : Bl kFn k3 H g.funcs fv) (c1 : ∀ k, k1 k → r < k ∧ ¬ k2 k ∧ ¬ k3 k) (c2 : ∀ k, k2 k → r < k ∧ ¬ k3 k) (c3 : ∀ k, k3 k → r < k) (m : Mt r H H') (rp : Rp H' r T tv rv gv fv s') : Rs H' r T tv g s' :=
 ⟨rv, gv, fv, k1, k2, k3, rp, ht, b1.keep (KeepA.mut m fun k hk => by have := (c1 k hk).1; omega), b2.keep (KeepA.mut m fun k hk => by have := (c2 k hk).1; omega), b3.keep (KeepA.mut m fun k hk => by have := c3 k hk; omega), c1, c2, c3⟩
theorem Mt.mg (m : Mt r H H') : Mg r H H' := ⟨m.1, fun l hl hs => m.2 l hl fun e => hs (by omega)⟩
theorem Mr.mg {n : Nat} (m : Mr r n H H') (h : r < n) : Mg r H H' := ⟨m.1, fun l hl hs => m.2 l hl fun e => hs (by omega)⟩
def recordP (T : List Tok) (n : Nat) (g : Pg) (s : St) : R Pg :=
 (fieldsP T n [] (wantsS T [123] (nameP T (goS (moreS T true g.recs.length 12 s))).2).2).bind fun p =>
  some ({ g with recs := g.recs ++ [⟨(nameP T (goS (moreS T true g.recs.length 12 s))).1.text, p.1, (nameP T (goS (moreS T true g.recs.length 12 s))).1.pos⟩] }, (wantsS T [125] p.2).2)
def globalP (T : List Tok) (g : Pg) (s : St) : Pg × St :=
 ({ g with globals := g.globals ++ [(typedP T (goS (moreS T true g.globals.length 8 s))).1] }, (wantsS T [59] (typedP T (goS (moreS T true g.globals.length 8 s))).2).2)
theorem more_at {b : Bool} {x y : Int} : (moreS T b x y s).at_ = s.at_ := by
 unfold moreS
 cases b && decide (y ≤ x)
 ·rfl
 ·rw [cond_true]; unfold failS; split <;> rfl
theorem at_go (hT : Toks T) (h : Rp H r T tv rv gv fv s) (hk : (tokAt T s.at_).kind ≠ 0) : Mt r H (H.set r (.row false 7 [[tv, .int .i64 (IntKind.i64.wrap (s.at_ + 1)), rv, gv, fv, .int .i64 s.fe, .int .i64 s.fa]])) ∧ Rp (H.set r (.row false 7 [[tv, .int .i64 (IntKind.i64.wrap (s.at_ + 1)), rv, gv, fv, .int .i64 s.fe, .int .i64 s.fa]])) r T tv rv gv fv (goS s) := by
 obtain ⟨-, g0, g1⟩ := rp_go hT h hk
 exact h.set (goS s) g0 g1 h.z h.o
theorem precord_spec (hT : Toks T) {g : Pg} {n : Nat} (hn : n ≤ 900000000) (h : Rs H r T tv g s) (hl : g.recs.length ≤ 900000000) (hk : (tokAt T s.at_).kind ≠ 0) {g' : Pg} (hf : recordP T n g s = some (g', s')) : W (evw P orc 20 [.ptr r 0 0] H) fun _ H' => Mg r H H' ∧ Rs H' r T tv g' s' := by
 refine W_of (fun _ => run20 (n + 1)) ?_
 obtain ⟨rv, gv, fv, k1, k2, k3, rp, ht, b1, b2, b3, c1, c2, c3⟩ := h
 have hr0 := rp.rd
 unfold r7 at hr0
 have hln := fun H' => b1.len22 H'
 have hlr := rp.lt
 simp -implicitDefEqProofs (disch := first | assumption | omega | (simp only [nxB]; omega) | (simp only [oneB])) only [s20, xlen, AV.cells, splice, aload, astore, Nat.reduceAdd, Nat.reduceLeDiff, reduceIte, allB, hr0, hln]
 refine W_call (pmore_spec rp true _ _) ?_
 rintro _ H2 ⟨rfl, m2, r2⟩
 refine ⟨m2.1, ?_⟩
 unfold recordP at hf
 have hk2 : (tokAt T (moreS T true (g.recs.length : Int) 12 s).at_).kind ≠ 0 := by rw [more_at]; exact hk
 generalize moreS T true (g.recs.length : Int) 12 s = s2 at r2 hf hk2
 have hr2 := r2.rd
 unfold r7 at hr2
 have ho1 := r2.tk.one
 obtain ⟨o2, o3, o4⟩ := r2.one
 have hl2 := r2.lt
 obtain ⟨m3, r3⟩ := at_go hT r2 hk2
 simp -implicitDefEqProofs (disch := first | assumption | omega | (simp only [nxB]; omega) | (simp only [oneB])) only [xlen, AV.cells, splice, aload, astore, Nat.reduceAdd, Nat.reduceLeDiff, reduceIte, allB, hr2, ho1, o2, o3, o4]
 generalize goS s2 = s3 at r3 hf
 generalize H2.set r (.row false 7 [[tv, .int .i64 (IntKind.i64.wrap (s2.at_ + 1)), rv, gv, fv, .int .i64 s2.fe, .int .i64 s2.fa]]) = H3 at m3 r3 ⊢
 refine W_call (pname_spec hT r3) ?_
 rintro _ H4 ⟨rfl, m4, r4⟩
 refine ⟨m4.1, ?_⟩
 generalize nameP T s3 = q at r4 hf ⊢
 obtain ⟨⟨k, x, z, p⟩, s4⟩ := q
 simp only at r4 hf
 have q5 := Pur.push H4 (.row false 4 [[.int .i64 k, .str x, .int .i64 z, .int .i64 p]])
 have hc5 := AHeap.get_push_same H4 (.row false 4 [[.int .i64 k, .str x, .int .i64 z, .int .i64 p]])
 simp -implicitDefEqProofs (disch := first | assumption | omega | (simp only [nxB]; omega) | (simp only [oneB])) only [xlen, evB, aload, tyB, astore, tyB, Nat.reduceAdd, Nat.reduceLeDiff, reduceIte, AV.cells, splice, lsB, heapB, tabB, tabB, AHeap.push_set_lt, Tok.v]
 have m234 := (m2.trans m3).trans m4
 have hn4 := m234.1
 have r5 := r4.pur q5
 have n5 : (H4.push (.row false 4 [[.int .i64 k, .str x, .int .i64 z, .int .i64 p]])).next = H4.next + 1 := by simp only [AHeap.next_push]
 generalize H4.push (.row false 4 [[.int .i64 k, .str x, .int .i64 z, .int .i64 p]]) = H5 at q5 hc5 r5 n5 ⊢
 have q6 := Pur.push H5 (.row false 3 [[.str x, .nilSl, .int .i64 p]])
 have hn5 := q5.1
 have lp : Lp H (H5.push (.row false 3 [[.str x, .nilSl, .int .i64 p]])) r (H4.next + 1) (H4.next + 2) 3 T tv rv gv fv (.str x) [.int .i64 p] [] .nilSl s4 :=
  ⟨r5.pur q6, by rw [← n5]; exact AHeap.get_push_same _ _, Bl.nil, Mt.mr (m234.trans ((q5.trans q6).mut _)), hlr, by omega, by omega, by simp only [AHeap.next_push]; omega⟩
 refine W_call (pwants_spec hT lp.rp [123]) ?_
 rintro _ H7 ⟨rfl, m7, r7'⟩
 refine ⟨m7.1, ?_⟩
 have lp7 := lp.mut m7 r7'
 obtain ⟨⟨l', s7⟩, g1, g2⟩ := bindS hf
 simp only [Option.some.injEq, Prod.mk.injEq] at g2
 obtain ⟨rfl, rfl⟩ := g2
 refine fields_loop hT rp (fun H8 v lp8 => ?_) n (n + 1) H7 _ [] .nilSl (by omega) (by simp; omega) lp7 g1
 rw [s20_j0]
 refine W_call (pwants_spec hT lp8.rp [125]) ?_
 rintro _ H9 ⟨rfl, m9, r9⟩
 refine ⟨m9.1, ?_⟩
 have lp9 := lp8.mut m9 r9
 generalize (wantsS T [125] s7).2 = s9 at r9 lp9 ⊢
 have hc9 := lp9.cell
 have hr9 := r9.rd
 unfold r7 at hr9
 have hvo := lp9.bl.one
 have o9 := lp9.o4
 have hl9 := r9.lt
 obtain ⟨v', H', ea, eo, f1, f2, f3, f4, f5⟩ := grow (r := r) (K := kRc) ltyRc b1 lp9.m (fun k hk => (c1 k hk).1) hlr (a := ⟨x, l', p⟩) (cs := [.str x, v, .int .i64 p]) (n2 := H4.next + 2) ⟨v, rfl, lp9.bl.sl⟩ (by omega) (by omega)
 have hsl := sl_one ltyRc H9.next (cs := [.str x, v, .int .i64 p]) rfl (by simp only [List.all_cons, List.all_nil, one_str, one_int, hvo, Bool.and_self])
 have kz : kRc.esz = 3 := rfl
 rw [kz] at ea
 have hb1 : rdIs (some rv) rv = true := b1.rd
 have hcv := cells_one eo
 simp only [AV.cells] at hcv
 have hr' : H'.get r = some (.row false 7 [[tv, .int .i64 s9.at_, rv, gv, fv, .int .i64 s9.fe, .int .i64 s9.fa]]) := by rw [f3]; exact hr9
 have hlr' := AHeap.get_lt hr'
 have en' : (H9.push (.row false 3 [[.str x, v, .int .i64 p]])).next ≤ H'.next := by simp only [AHeap.next_push]; exact f2
 simp -implicitDefEqProofs (disch := first | assumption | omega | (simp only [nxB]; omega) | (simp only [oneB])) only [xlen, evB, aload, tyB, astore, tyB, Nat.reduceAdd, Nat.reduceLeDiff, reduceIte, AV.cells, splice, lsB, heapB, tabB, hc9, hr9, hsl, ea, xcall_some, hb1, hcv, hr', eo, ho1, o2, o3, o4, hvo]
 have mg := f5 (.row false 7 [[tv, .int .i64 s9.at_, v', gv, fv, .int .i64 s9.fe, .int .i64 s9.fa]])
 refine W_some.2 ⟨mg, v', gv, fv, _, (fun k => k2 k ∧ k < H.next), (fun k => k3 k ∧ k < H.next), ?_, ht, f1 _, ?_, ?_, ?_, ?_, ?_⟩
 ·exact rp.fin3 ht mg (AHeap.get_set_same hlr') r9.a0 r9.a1 r9.z r9.o ⟨eo, o3, o4⟩
 ·exact b2.keep fun k b hk g => by
   have := AHeap.get_lt g
   have := (c2 k hk).1
   exact ⟨⟨hk, by omega⟩, f4 k b (fun h => (c1 k h).2.1 hk) (by omega) (by omega) g _⟩
 ·exact b3.keep fun k b hk g => by
   have := AHeap.get_lt g
   have := c3 k hk
   exact ⟨⟨hk, by omega⟩, f4 k b (fun h => (c1 k h).2.2 hk) (by omega) (by omega) g _⟩
 ·rintro k (hk | hk)
  ·exact ⟨(c1 k hk).1, fun h => (c1 k hk).2.1 h.1, fun h => (c1 k hk).2.2 h.1⟩
  ·exact ⟨by omega, fun h => by omega, fun h => by omega⟩
 ·exact fun k hk => ⟨(c2 k hk.1).1, fun h => (c2 k hk.1).2 h.1⟩
 ·exact fun k hk => c3 k hk.1
end
end Go.Proofs.YtghmbpmaafnodaaGreatDoor

namespace Go.Proofs.YtghmbpmaafnodaaGreatDoor
open Go.Ev
section
variable {H H' H1 : AHeap} {r : Nat} {T : List Tok} {tv rv gv fv : AV} {s s' : St}
theorem pglobal_spec (hT : Toks T) {g : Pg} (h : Rs H r T tv g s) (hl : g.globals.length ≤ 900000000) (hk : (tokAt T s.at_).kind ≠ 0) : W (evw P orc 21 [.ptr r 0 0] H) fun _ H' => Mg r H H' ∧ Rs H' r T tv (globalP T g s).1 (globalP T g s).2 := by
 refine W_of (fun _ => run21 0) ?_
 obtain ⟨rv, gv, fv, k1, k2, k3, rp, ht, b1, b2, b3, c1, c2, c3⟩ := h
 have hr0 := rp.rd
 unfold r7 at hr0
 have hln := fun H' => b2.len23 H'
 have hlr := rp.lt
 simp -implicitDefEqProofs (disch := first | assumption | omega | (simp only [nxB]; omega) | (simp only [oneB])) only [s21, xlen, AV.cells, splice, aload, astore, Nat.reduceAdd, Nat.reduceLeDiff, reduceIte, allB, hr0, hln]
 refine W_call (pmore_spec rp true _ _) ?_
 rintro _ H2 ⟨rfl, m2, r2⟩
 refine ⟨m2.1, ?_⟩
 unfold globalP
 have hk2 : (tokAt T (moreS T true (g.globals.length : Int) 8 s).at_).kind ≠ 0 := by rw [more_at]; exact hk
 generalize moreS T true (g.globals.length : Int) 8 s = s2 at r2 hk2
 have hr2 := r2.rd
 unfold r7 at hr2
 have ho1 := r2.tk.one
 obtain ⟨o2, o3, o4⟩ := r2.one
 have hl2 := r2.lt
 obtain ⟨m3, r3⟩ := at_go hT r2 hk2
 simp -implicitDefEqProofs (disch := first | assumption | omega | (simp only [nxB]; omega) | (simp only [oneB])) only [xlen, AV.cells, splice, aload, astore, Nat.reduceAdd, Nat.reduceLeDiff, reduceIte, allB, hr2, ho1, o2, o3, o4]
 generalize goS s2 = s3 at r3 ⊢
 generalize H2.set r (.row false 7 [[tv, .int .i64 (IntKind.i64.wrap (s2.at_ + 1)), rv, gv, fv, .int .i64 s2.fe, .int .i64 s2.fa]]) = H3 at m3 r3 ⊢
 refine W_call (ptyped_spec hT r3) ?_
 rintro _ H4 ⟨rfl, m4, r4⟩
 refine ⟨m4.1, ?_⟩
 generalize typedP T s3 = q at r4 ⊢
 obtain ⟨p, s4⟩ := q
 simp only at r4 ⊢
 have q5 := Pur.push H4 (.row false 4 [p.cells])
 have hc5 := AHeap.get_push_same H4 (.row false 4 [p.cells])
 have m234 := (m2.trans m3).trans m4
 have hn4 := m234.1
 have r5 := r4.pur q5
 have n5 : (H4.push (.row false 4 [p.cells])).next = H4.next + 1 := by simp only [AHeap.next_push]
 simp only [Pm.cells] at q5 hc5 r5 n5 ⊢
 simp -implicitDefEqProofs (disch := first | assumption | omega | (simp only [nxB]; omega) | (simp only [oneB])) only [xlen, evB, aload, tyB, astore, tyB, Nat.reduceAdd, Nat.reduceLeDiff, reduceIte, AV.cells, splice, lsB, heapB, tabB, AHeap.push_set_lt]
 generalize H4.push (.row false 4 [[.str p.name, .str p.ofn, .int .i64 p.ofd, .int .i64 p.pos]]) = H5 at q5 hc5 r5 n5 ⊢
 refine W_call (pwants_spec hT r5 [59]) ?_
 rintro _ H9 ⟨rfl, m9, r9⟩
 refine ⟨m9.1, ?_⟩
 generalize (wantsS T [59] s4).2 = s9 at r9 ⊢
 have hn9 := m9.1
 have hc9 := m9.get hc5 (by omega)
 have hr9 := r9.rd
 unfold r7 at hr9
 have hl9 := r9.lt
 have mA : Mt r H H9 := (m234.trans (q5.mut _)).trans m9
 obtain ⟨v', H', ea, eo, f1, f2, f3, f4, f5⟩ := grow (r := r) (K := kPm) ltyPm b2 mA.mr (fun k hk => (c2 k hk).1) hlr (a := p) (cs := p.cells) (n2 := H.next) rfl (Nat.le_refl _) (by omega)
 have hsl := sl_one ltyPm H9.next (cs := p.cells) rfl rfl
 have kz : kPm.esz = 4 := rfl
 rw [kz] at ea
 have hb1 : rdIs (some gv) gv = true := b2.rd
 have hcv := cells_one eo
 simp only [AV.cells] at hcv
 have hr' : H'.get r = some (.row false 7 [[tv, .int .i64 s9.at_, rv, gv, fv, .int .i64 s9.fe, .int .i64 s9.fa]]) := by rw [f3]; exact hr9
 have hlr' := AHeap.get_lt hr'
 have en' : (H9.push (.row false 4 [p.cells])).next ≤ H'.next := by simp only [AHeap.next_push]; exact f2
 simp only [Pm.cells] at hsl ea en'
 simp -implicitDefEqProofs (disch := first | assumption | omega | (simp only [nxB]; omega) | (simp only [oneB])) only [xlen, evB, aload, tyB, astore, tyB, Nat.reduceAdd, Nat.reduceLeDiff, reduceIte, AV.cells, splice, lsB, heapB, tabB, hc9, hr9, hsl, ea, xcall_some, hb1, hcv, hr', eo, ho1, o2, o3, o4]
 have mg := f5 (.row false 7 [[tv, .int .i64 s9.at_, rv, v', fv, .int .i64 s9.fe, .int .i64 s9.fa]])
 refine W_some.2 ⟨mg, rv, v', fv, (fun k => k1 k ∧ k < H.next), _, (fun k => k3 k ∧ k < H.next), ?_, ht, ?_, f1 _, ?_, ?_, ?_, ?_⟩
 ·exact rp.fin3 ht mg (AHeap.get_set_same hlr') r9.a0 r9.a1 r9.z r9.o ⟨o2, eo, o4⟩
 ·exact b1.keep fun k b hk g => by
   have := AHeap.get_lt g
   have := (c1 k hk).1
   exact ⟨⟨hk, by omega⟩, f4 k b (fun h => (c1 k hk).2.1 h) (by omega) (by omega) g _⟩
 ·exact b3.keep fun k b hk g => by
   have := AHeap.get_lt g
   have := c3 k hk
   exact ⟨⟨hk, by omega⟩, f4 k b (fun h => (c2 k h).2 hk) (by omega) (by omega) g _⟩
 ·exact fun k hk => ⟨(c1 k hk.1).1, fun h => h.elim (c1 k hk.1).2.1 (fun h => by have := hk.2; omega), fun h => (c1 k hk.1).2.2 h.1⟩
 ·rintro k (hk | hk)
  ·exact ⟨(c2 k hk).1, fun h => (c2 k hk).2 h.1⟩
  ·exact ⟨by omega, fun h => by omega⟩
 ·exact fun k hk => c3 k hk.1
def paramP (T : List Tok) (l : List Pm) (s : St) : List Pm × St := (l ++ [(typedP T (moreS T ((tokAt T s.at_).kind == 1) l.length 6 s)).1], (typedP T (moreS T ((tokAt T s.at_).kind == 1) l.length 6 s)).2)
theorem pparam_spec (hT : Toks T) {c n2 : Nat} {x : AV} {rest : List AV} (hlen : rest.length = 5) {s0 : St} (h1 : Rp H1 r T tv rv gv fv s0) {l : List Pm} {v : AV} (h : Lp H1 H r c n2 7 T tv rv gv fv x rest l v s) (hl : l.length ≤ 900000000) :
  W (evw P orc 52 [.ptr r 0 0, .ptr c 0 0] H) fun _ H' => H.next ≤ H'.next ∧ ∃ v', Lp H1 H' r c n2 7 T tv rv gv fv x rest (paramP T l s).1 v' (paramP T l s).2 := by
 refine W_of (fun _ => run52 0) ?_
 rw [s52]
 refine W_call (ptok_spec h.rp) ?_
 rintro _ H4 ⟨rfl, p4⟩
 refine ⟨p4.1, ?_⟩
 have h4 := h.mut (p4.mut _) (h.rp.pur p4)
 have hln := fun H' => h4.bl.len23 H'
 have hrd := h4.bl.rd
 have hc4 := h4.cell
 have hc3 := h.cell
 simp -implicitDefEqProofs (disch := first | assumption | omega | (simp only [nxB]; omega) | (simp only [oneB])) only [xlen, AV.cells, splice, aload, astore, Nat.reduceAdd, Nat.reduceLeDiff, reduceIte, allB, Tok.v, hc4, hln]
 refine W_call (pmore_spec h4.rp _ _ _) ?_
 rintro _ H5 ⟨rfl, m5, r5⟩
 refine ⟨m5.1, ?_⟩
 have h5 := h4.mut m5 r5
 have hc5 := h5.cell
 unfold paramP
 generalize moreS T ((tokAt T s.at_).kind == 1) l.length 6 s = s5 at h5 ⊢
 refine W_bif (dchk_true (by kernel_rfl) ?_) ?_
 ·have key : ∀ HH : AHeap, HH.get c = some (.row false 7 [x :: v :: rest]) → rdIs (aload P HH 23 (.ptr c 0 1)) v = true := fun HH hh => by
   simp -implicitDefEqProofs (disch := first | assumption | omega | (simp only [nxB]; omega) | (simp only [oneB])) only [aload, tyB, Nat.reduceAdd, Nat.reduceLeDiff, reduceIte, AV.cells, splice, lsB, hh, hrd]
  simp only [winsP, traceH, K_heap_pure, K_heap_read, K_heap_eff, List.forall_mem_cons]
  refine ⟨(fun v hv => by cases hv), (fun v hv => by cases hv), (fun v hv => by cases hv), (fun v hv => by cases hv), (fun v hv => by cases hv), (fun v hv => by cases hv), (fun v hv => by cases hv), (fun v hv => by cases hv), (fun v hv => .inr ?_), (fun v hv => by cases hv), (fun v hv => by cases hv), trivial⟩
  cases hv
  simp [key _ hc3, key _ hc4, key _ hc5]
 ·refine W_call (ptyped_spec hT h5.rp) ?_
  rintro _ H6 ⟨rfl, m6, r6⟩
  refine ⟨m6.1, ?_⟩
  have h6 := h5.mut m6 r6
  have hc6 := h6.cell
  have hrd6 := h6.bl.rd
  generalize typedP T s5 = q at h6 ⊢
  obtain ⟨p, s6⟩ := q
  obtain ⟨v', H7, ea, en, eo, e1, e2, h7⟩ := h6.add h1 (by omega) p
  have hsl := sl_one ltyPm H6.next (cs := p.cells) rfl rfl
  have en' : (H6.push (.row false 4 [p.cells])).next ≤ H7.next := by simp only [AHeap.next_push]; exact en
  have hcv := cells_one eo
  simp only [AV.cells] at hcv
  simp -implicitDefEqProofs (disch := first | assumption | omega | (simp only [nxB]; omega) | (simp only [oneB])) only [xlen, evB, aload, tyB, astore, tyB, Nat.reduceAdd, Nat.reduceLeDiff, reduceIte, AV.cells, splice, lsB, heapB, tabB, hcv, hc6, hsl, ea, xcall_some, e1, e2, eo, hrd6, hc5]
  refine W_some.2 ⟨?_, v', h7⟩
  have a1 := p4.1
  have a2 := m5.1
  have a3 := m6.1
  simp only [AHeap.next_set]
  omega
end
end Go.Proofs.YtghmbpmaafnodaaGreatDoor

namespace Go.Proofs.YtghmbpmaafnodaaGreatDoor
open Go.Ev
def paramsP (T : List Tok) : Nat → List Pm → St → R (List Pm)
 | 0, _, _ => none
 | n + 1, l, s => bif (takesS T 4 [44] s).1 then paramsP T n (paramP T l (takesS T 4 [44] s).2).1 (paramP T l (takesS T 4 [44] s).2).2 else some (l, (takesS T 4 [44] s).2)
def blockP (T : List Tok) (s : St) : List Stm × St := match blockF T 800000000 (startS s.at_ 0) with
 | some p => ((parseB p.1 p.2).1, goesP (parseB p.1 p.2).2.1 (parseB p.1 p.2).2.2.1 (parseB p.1 p.2).2.2.2 s)
 | none => ([], s)
def fnEnd (T : List Tok) (g : Pg) (nm : Bs) (ps : Int) (l : List Pm) (q : Bool × Bs × Int) (s : St) : Pg × St := if s.fe ≠ 0 then (g, s) else ({ g with funcs := g.funcs ++ [⟨nm, l, q.1, q.2.1, q.2.2, (blockP T s).1, ps⟩] }, (blockP T s).2)
def fnRes (T : List Tok) (s : St) : (Bool × Bs × Int) × St := bif (takesS T 4 [58] (wantsS T [41] s).2).1 then ((true, (ofPp T (takesS T 4 [58] (wantsS T [41] s).2).2).1), (ofPp T (takesS T 4 [58] (wantsS T [41] s).2).2).2) else ((false, [], 0), (takesS T 4 [58] (wantsS T [41] s).2).2)
def fnParams (T : List Tok) (n : Nat) (s : St) : R (List Pm) := bif isB T s 4 [41] then some ([], s) else paramsP T n (paramP T [] s).1 (paramP T [] s).2
def functionP (T : List Tok) (n : Nat) (g : Pg) (s : St) : R Pg :=
 (fnParams T n (wantsS T [40] (nameP T (goS (moreS T true g.funcs.length 16 s))).2).2).bind fun p =>
  some (fnEnd T g (nameP T (goS (moreS T true g.funcs.length 16 s))).1.text (nameP T (goS (moreS T true g.funcs.length 16 s))).1.pos p.1 (fnRes T p.2).1 (fnRes T p.2).2)
section
variable {H H' H1 : AHeap} {r : Nat} {T : List Tok} {tv rv gv fv : AV} {s s' : St}
theorem ans (hT : T.length ≤ 20000000) : Ans T := fun s => by
 obtain ⟨p, q, -, h2, -, -⟩ := rows_both (T := T) (by omega) T.length s (left_le _ _) 0 800000000 800000000 (by omega) (by omega) (by omega)
 exact ⟨q, h2⟩
theorem block_rg (hT : Toks T) {at_ : Int} (h0 : 0 ≤ at_) (h1 : at_ < T.length) : ∃ p, blockF T 800000000 (startS at_ 0) = some p ∧ (p.2.fe = 0 → 0 ≤ p.2.at_ ∧ p.2.at_ < T.length) := by
 obtain ⟨p, q, e1, e2, -, ag⟩ := both_block hT.n at_ 0
 refine ⟨p, e1, fun hf => ?_⟩
 have eq := ag.1.eq hf
 have e : startS at_ 0 = ⟨at_, 0, 0, 0⟩ := rfl
 obtain ⟨fw, -, -⟩ := (ps_all hT.g (ans hT.n) 800000000).block _ q (fun _ => ⟨h0, by rw [e]; simp only; omega, by rw [e]; exact Int.le_refl 0, by rw [e]; exact (by decide : (0 : Int) ≤ 50)⟩) e2 (by rw [eq]; exact hf)
 rw [eq, e] at fw
 have a := fw.a
 have b := fw.b
 simp only at a
 exact ⟨by omega, by omega⟩
theorem Lp.rest {c n2 esz : Nat} {x : AV} {rest rest' : List AV} {l : List Pm} {v : AV} {s0 : St} (h1 : Rp H1 r T tv rv gv fv s0) (h : Lp H1 H r c n2 esz T tv rv gv fv x rest l v s) : Lp H1 (H.set c (.row false esz [x :: v :: rest'])) r c n2 esz T tv rv gv fv x rest' l v s := by
 have o1 := h.o1
 have o2 := h.o2
 have o3 := h.o3
 have o4 := h.o4
 have mm : Mr r H1.next H1 (H.set c (.row false esz [x :: v :: rest'])) := h.m.then_set (.inl (.inr o2)) _
 exact ⟨h1.fin2 mm (by rw [AHeap.get_set_other (by omega)]; exact h.rp.rd) h.rp.a0 h.rp.a1 h.rp.z h.rp.o, AHeap.get_set_same (by omega), h.bl.keep fun k x hk g => ⟨hk, by unfold Ge at hk; rw [AHeap.get_set_other (by omega)]; exact g⟩, mm, o1, o2, o3, by simp; omega⟩
theorem fn_j1 {N : Nat} (hT : Toks T) {g : Pg} {k1 k2 k3 : Nat → Prop} {s0 : St} (rp : Rp H1 r T tv rv gv fv s0) (ht : ∀ l i n e c, tv = .sl l i n e c → l < r) (b1 : Bl kRc k1 H1 g.recs rv) (b2 : Bl kPm k2 H1 g.globals gv) (b3 : Bl kFn k3 H1 g.funcs fv) (c1 : ∀ k, k1 k → r < k ∧ ¬ k2 k ∧ ¬ k3 k) (c2 : ∀ k, k2 k → r < k ∧ ¬ k3 k) (c3 : ∀ k, k3 k → r < k) (hl : g.funcs.length ≤ 900000000)
  {c n2 : Nat} {nm rn : Bs} {ps rd : Int} {hs : Bool} {l : List Pm} {v : AV} (h : Lp H1 H r c n2 7 T tv rv gv fv (.str nm) [.bool hs, .str rn, .int .i64 rd, .nilSl, .int .i64 ps] l v s) :
  W (s22_j1 (evw P orc) N (.ptr r 0 0) (.ptr c 0 0) H) fun _ H' => Mg r H1 H' ∧ Rs H' r T tv (fnEnd T g nm ps l (hs, rn, rd) s).1 (fnEnd T g nm ps l (hs, rn, rd) s).2 := by
 rw [s22_j1]
 have hlr := h.o1
 have o2 := h.o2
 have o3 := h.o3
 have o4 := h.o4
 refine W_call (pfailed_spec h.rp) ?_
 rintro _ H2 ⟨rfl, rfl⟩
 refine ⟨Nat.le_refl _, ?_⟩
 by_cases h0 : s.fe = 0
 ·have h0' : (s.fe != 0) = false := by simpa using h0
  have hrt := h.rp.tk.rd
  have hr0 := h.rp.rd
  unfold r7 at hr0
  rw [show fnEnd T g nm ps l (hs, rn, rd) s = ({ g with funcs := g.funcs ++ [⟨nm, l, hs, rn, rd, (blockP T s).1, ps⟩] }, (blockP T s).2) from if_neg (fun h => h h0)]
  obtain ⟨⟨bl, bs⟩, e1, rg⟩ := block_rg hT h.rp.a0 h.rp.a1
  have spec := kblock_spec (n := 800000000) (by decide) hT.n h.rp.tk s.at_ 0 e1
  simp -implicitDefEqProofs (disch := first | assumption | omega | (simp only [nxB]; omega) | (simp only [oneB])) only [xlen, evB, aload, tyB, Nat.reduceAdd, Nat.reduceLeDiff, reduceIte, AV.cells, splice, lsB, tabB, h0', hr0]
  refine W_call spec ?_
  rintro _ H3 ⟨bv, rfl, hbv, p3⟩
  refine ⟨p3.1, ?_⟩
  have eb : blockP T s = ((parseB bl bs).1, goesP (parseB bl bs).2.1 (parseB bl bs).2.2.1 (parseB bl bs).2.2.2 s) := by simp only [blockP, e1]
  have rg' : (parseB bl bs).2.2.1 = 0 → 0 ≤ (parseB bl bs).2.1 ∧ (parseB bl bs).2.1 < T.length := fun hz => by
   unfold parseB at hz ⊢
   by_cases hf : bs.fe = 0
   ·rw [if_pos hf]; exact rg hf
   ·rw [if_neg hf] at hz; exact absurd hz hf
  rw [eb]
  generalize parseB bl bs = pb at hbv rg' ⊢
  obtain ⟨bb, at_, e, a⟩ := pb
  simp only at hbv rg' ⊢
  have p4 := p3.then_push (.row false 2 [[.int .i64 e, .int .i64 a]])
  have h4 := h.mut (p4.mut _) (h.rp.pur p4)
  simp -implicitDefEqProofs (disch := first | assumption | omega | (simp only [nxB]; omega) | (simp only [oneB])) only [xlen, evB, aload, tyB, astore, tyB, Nat.reduceAdd, Nat.reduceLeDiff, reduceIte, AV.cells, splice, lsB, heapB, tabB, AHeap.push_set_lt, hr0, hrt]
  refine W_call (pgoes_spec h4.rp at_ e a rg') ?_
  rintro _ H5 ⟨rfl, m5, r5⟩
  refine ⟨m5.1, ?_⟩
  have h5 := h4.mut m5 r5
  have hb5 : SsV H5 (Ge n2) bb bv := (hbv.keep (KeepS.pur (Pur.push H3 _) fun l hl => (by unfold Ge at *; omega : Ge n2 l))).keep (KeepS.mut m5 (by unfold Ge; omega) fun _ h => h)
  generalize goesP at_ e a s = s9 at r5 h5 ⊢
  have hc5 := h5.cell
  have hr5 := r5.rd
  unfold r7 at hr5
  have h6 := h5.rest rp (rest' := [.bool hs, .str rn, .int .i64 rd, bv, .int .i64 ps])
  have hb6 : SsV (H5.set c (.row false 7 [.str nm :: v :: [.bool hs, .str rn, .int .i64 rd, bv, .int .i64 ps]])) (Ge n2) bb bv := hb5.keep (KeepS.set _ (by unfold Ge; omega) fun _ h => h)
  have hbo := hb6.oneAV
  have hcb := cells_one hbo
  simp only [AV.cells] at hcb
  have l5 := AHeap.get_lt hc5
  simp -implicitDefEqProofs (disch := first | assumption | omega | (simp only [nxB]; omega) | (simp only [oneB])) only [xlen, evB, aload, tyB, astore, tyB, Nat.reduceAdd, Nat.reduceLeDiff, reduceIte, AV.cells, splice, lsB, heapB, tabB, hc5, hcb, hbo]
  have hc9 := h6.cell
  have hr9 := h6.rp.rd
  unfold r7 at hr9
  generalize H5.set c (.row false 7 [.str nm :: v :: [.bool hs, .str rn, .int .i64 rd, bv, .int .i64 ps]]) = H9 at h6 hb6 hc9 hr9 ⊢
  have hvo := h6.bl.one
  have ho1 := rp.tk.one
  obtain ⟨q2, q3, q4⟩ := rp.one
  have hl9 := h6.rp.lt
  obtain ⟨v', H', ea, eo, f1, f2, f3, f4, f5⟩ := grow (r := r) (K := kFn) ltyFn b3 h6.m c3 hlr (a := ⟨nm, l, hs, rn, rd, bb, ps⟩) (cs := [.str nm, v, .bool hs, .str rn, .int .i64 rd, bv, .int .i64 ps]) (n2 := n2) ⟨v, bv, rfl, h6.bl.sl, hb6⟩ (by omega) (by omega)
  have hsl := sl_one ltyFn H9.next (cs := [.str nm, v, .bool hs, .str rn, .int .i64 rd, bv, .int .i64 ps]) rfl (by simp only [List.all_cons, List.all_nil, one_str, one_int, one_bool, hvo, hbo, Bool.and_self])
  have kz : kFn.esz = 7 := rfl
  rw [kz] at ea
  have hb1 : rdIs (some fv) fv = true := b3.rd
  have hcv := cells_one eo
  simp only [AV.cells] at hcv
  have hr' : H'.get r = some (.row false 7 [[tv, .int .i64 s9.at_, rv, gv, fv, .int .i64 s9.fe, .int .i64 s9.fa]]) := by rw [f3]; exact hr9
  have hlr' := AHeap.get_lt hr'
  have en' : (H9.push (.row false 7 [[.str nm, v, .bool hs, .str rn, .int .i64 rd, bv, .int .i64 ps]])).next ≤ H'.next := by simp only [AHeap.next_push]; exact f2
  simp -implicitDefEqProofs (disch := first | assumption | omega | (simp only [nxB]; omega) | (simp only [oneB])) only [xlen, evB, aload, tyB, astore, tyB, Nat.reduceAdd, Nat.reduceLeDiff, reduceIte, AV.cells, splice, lsB, heapB, tabB, hr5, hc9, hr9, hsl, ea, xcall_some, hb1, hcv, hr', eo, ho1, q2, q3, q4, hvo]
  have mg := f5 (.row false 7 [[tv, .int .i64 s9.at_, rv, gv, v', .int .i64 s9.fe, .int .i64 s9.fa]])
  refine W_some.2 ⟨mg, rv, gv, v', (fun k => k1 k ∧ k < H1.next), (fun k => k2 k ∧ k < H1.next), _, ?_, ht, ?_, ?_, f1 _, ?_, ?_, ?_⟩
  ·exact rp.fin3 ht mg (AHeap.get_set_same hlr') r5.a0 r5.a1 r5.z r5.o ⟨q2, q3, eo⟩
  ·exact b1.keep fun k b hk g => by
    have := AHeap.get_lt g
    have := (c1 k hk).1
    exact ⟨⟨hk, by omega⟩, f4 k b (fun h => (c1 k hk).2.2 h) (by omega) (by omega) g _⟩
  ·exact b2.keep fun k b hk g => by
    have := AHeap.get_lt g
    have := (c2 k hk).1
    exact ⟨⟨hk, by omega⟩, f4 k b (fun h => (c2 k hk).2 h) (by omega) (by omega) g _⟩
  ·exact fun k hk => ⟨(c1 k hk.1).1, fun h => (c1 k hk.1).2.1 h.1, fun h => h.elim (c1 k hk.1).2.2 (fun h => by have := hk.2; omega)⟩
  ·exact fun k hk => ⟨(c2 k hk.1).1, fun h => h.elim (c2 k hk.1).2 (fun h => by have := hk.2; omega)⟩
  ·rintro k (hk | hk)
   ·exact c3 k hk
   ·omega
 ·have h0' : (s.fe != 0) = true := by simpa using h0
  rw [show fnEnd T g nm ps l (hs, rn, rd) s = (g, s) from if_pos h0]
  simp -implicitDefEqProofs (disch := first | assumption | omega | (simp only [nxB]; omega) | (simp only [oneB])) only [xlen, evB, h0']
  have kp : ∀ ok : Nat → Prop, (∀ k, ok k → r < k) → KeepA H1 ok H2 (fun k => ok k) := fun ok hk k x ho g => by
   have := AHeap.get_lt g
   have := hk k ho
   exact ⟨ho, h.m.get g (by omega)⟩
  refine W_some.2 ?_
  refine ⟨Mr.mg h.m hlr, rv, gv, fv, k1, k2, k3, h.rp, ht, b1.keep (kp k1 fun k hk => (c1 k hk).1), b2.keep (kp k2 fun k hk => (c2 k hk).1), b3.keep (kp k3 c3), c1, c2, c3⟩
end
end Go.Proofs.YtghmbpmaafnodaaGreatDoor

namespace Go.Proofs.YtghmbpmaafnodaaGreatDoor
open Go.Ev
section
variable {H H' H1 : AHeap} {r : Nat} {T : List Tok} {tv rv gv fv : AV} {s s' : St}
structure Fb (H1 : AHeap) (r : Nat) (T : List Tok) (tv rv gv fv : AV) (g : Pg) (k1 k2 k3 : Nat → Prop) (s0 : St) : Prop where
 rp : Rp H1 r T tv rv gv fv s0
 ht : ∀ l i n e c, tv = .sl l i n e c → l < r
 b1 : Bl kRc k1 H1 g.recs rv
 b2 : Bl kPm k2 H1 g.globals gv
 b3 : Bl kFn k3 H1 g.funcs fv
 c1 : ∀ k, k1 k → r < k ∧ ¬ k2 k ∧ ¬ k3 k
 c2 : ∀ k, k2 k → r < k ∧ ¬ k3 k
 c3 : ∀ k, k3 k → r < k
 hl : g.funcs.length ≤ 900000000
theorem fn_j0 {N : Nat} (hT : Toks T) {g : Pg} {k1 k2 k3 : Nat → Prop} {s0 : St} (B : Fb H1 r T tv rv gv fv g k1 k2 k3 s0) {c n2 : Nat} {nm : Bs} {ps : Int} {l : List Pm} {v : AV} (h : Lp H1 H r c n2 7 T tv rv gv fv (.str nm) [.bool false, .str [], .int .i64 0, .nilSl, .int .i64 ps] l v s) :
  W (s22_j0 (evw P orc) N (.ptr r 0 0) (.ptr c 0 0) H) fun _ H' => Mg r H1 H' ∧ Rs H' r T tv (fnEnd T g nm ps l (fnRes T s).1 (fnRes T s).2).1 (fnEnd T g nm ps l (fnRes T s).1 (fnRes T s).2).2 := by
 rw [s22_j0]
 refine W_call (pwants_spec hT h.rp [41]) ?_
 rintro _ H2 ⟨rfl, m2, r2⟩
 refine ⟨m2.1, ?_⟩
 have h2 := h.mut m2 r2
 unfold fnRes
 generalize (wantsS T [41] s).2 = s2 at h2 r2 ⊢
 refine W_call (ptakes_spec hT r2 (k := 4) (by decide) [58]) ?_
 rintro _ H3 ⟨rfl, m3, r3⟩
 refine ⟨m3.1, ?_⟩
 have h3 := h2.mut m3 r3
 generalize takesS T 4 [58] s2 = q at h3 r3 ⊢
 obtain ⟨b, s3⟩ := q
 simp only at h3 r3 ⊢
 cases b with
 | false =>
  simp -implicitDefEqProofs (disch := first | assumption | omega | (simp only [nxB]; omega) | (simp only [oneB])) only [xlen, evB]
  exact fn_j1 hT B.rp B.ht B.b1 B.b2 B.b3 B.c1 B.c2 B.c3 B.hl h3
 | true =>
  simp -implicitDefEqProofs (disch := first | assumption | omega | (simp only [nxB]; omega) | (simp only [oneB])) only [xlen, evB]
  refine W_call (pof_spec hT r3) ?_
  rintro _ H4 ⟨rfl, m4, r4⟩
  refine ⟨m4.1, ?_⟩
  have h4 := h3.mut m4 r4
  generalize ofPp T s3 = o at h4 r4 ⊢
  obtain ⟨⟨x, d⟩, s4⟩ := o
  simp only at h4 r4 ⊢
  have hc4 := h4.cell
  have l4 := AHeap.get_lt hc4
  have h6 := h4.rest B.rp (rest' := [.bool true, .str x, .int .i64 d, .nilSl, .int .i64 ps])
  simp -implicitDefEqProofs (disch := first | assumption | omega | (simp only [nxB]; omega) | (simp only [oneB])) only [xlen, evB, aload, tyB, astore, tyB, Nat.reduceAdd, Nat.reduceLeDiff, reduceIte, AV.cells, splice, lsB, heapB, tabB, hc4]
  exact fn_j1 hT B.rp B.ht B.b1 B.b2 B.b3 B.c1 B.c2 B.c3 B.hl h6
theorem fn_loop {N : Nat} (hT : Toks T) {g : Pg} {k1 k2 k3 : Nat → Prop} {s0 : St} (B : Fb H1 r T tv rv gv fv g k1 k2 k3 s0) {c n2 : Nat} {nm : Bs} {ps : Int} {l' : List Pm} :
  ∀ (n m : Nat) (H : AHeap) (s : St) (l : List Pm) (v : AV), n < m → l.length + n ≤ 900000000 → Lp H1 H r c n2 7 T tv rv gv fv (.str nm) [.bool false, .str [], .int .i64 0, .nilSl, .int .i64 ps] l v s → paramsP T n l s = some (l', s') →
   W (s22_l2 (evw P orc) N m (.ptr r 0 0) (.ptr c 0 0) H) fun _ H' => Mg r H1 H' ∧ Rs H' r T tv (fnEnd T g nm ps l' (fnRes T s').1 (fnRes T s').2).1 (fnEnd T g nm ps l' (fnRes T s').1 (fnRes T s').2).2
 | _, 0, _, _, _, _, hn, _, _, _ => by omega
 | 0, m + 1, _, _, _, _, _, _, _, hf => by cases hf
 | n + 1, m + 1, H, s, l, v, hn, hb, h, hf => by
  rw [paramsP] at hf
  rw [s22_l2]
  unfold s22_b2
  refine W_call (ptakes_spec hT h.rp (k := 4) (by decide) [44]) ?_
  rintro _ H3 ⟨rfl, m3, r3⟩
  refine ⟨m3.1, ?_⟩
  have h3 := h.mut m3 r3
  generalize takesS T 4 [44] s = q at h3 r3 hf ⊢
  obtain ⟨b, s3⟩ := q
  simp only at h3 r3 hf ⊢
  cases b with
  | false =>
   rw [cond_false] at hf
   cases hf
   simp -implicitDefEqProofs (disch := first | assumption | omega | (simp only [nxB]; omega) | (simp only [oneB])) only [xlen, evB]
   exact fn_j0 hT B h3
  | true =>
   rw [cond_true] at hf
   simp -implicitDefEqProofs (disch := first | assumption | omega | (simp only [nxB]; omega) | (simp only [oneB])) only [xlen, evB]
   refine W_call (pparam_spec hT (by rfl) B.rp h3 (by omega)) ?_
   rintro _ H4 ⟨hm, v', h4⟩
   exact ⟨hm, fn_loop hT B n m H4 _ _ v' (by omega) (by simp only [paramP, List.length_append, List.length_cons, List.length_nil]; omega) h4 hf⟩
theorem pfunction_spec (hT : Toks T) {g : Pg} {n : Nat} (hn : n ≤ 800000000) (h : Rs H r T tv g s) (hl : g.funcs.length ≤ 900000000) (hk : (tokAt T s.at_).kind ≠ 0) {g' : Pg} (hf : functionP T n g s = some (g', s')) : W (evw P orc 22 [.ptr r 0 0] H) fun _ H' => Mg r H H' ∧ Rs H' r T tv g' s' := by
 refine W_of (fun _ => run22 (n + 1)) ?_
 obtain ⟨rv, gv, fv, k1, k2, k3, rp, ht, b1, b2, b3, c1, c2, c3⟩ := h
 have B : Fb H r T tv rv gv fv g k1 k2 k3 s := ⟨rp, ht, b1, b2, b3, c1, c2, c3, hl⟩
 have hr0 := rp.rd
 unfold r7 at hr0
 have hln := fun H' => b3.len24 H'
 have hlr := rp.lt
 simp -implicitDefEqProofs (disch := first | assumption | omega | (simp only [nxB]; omega) | (simp only [oneB])) only [s22, xlen, AV.cells, splice, aload, astore, Nat.reduceAdd, Nat.reduceLeDiff, reduceIte, allB, hr0, hln]
 refine W_call (pmore_spec rp true _ _) ?_
 rintro _ H2 ⟨rfl, m2, r2⟩
 refine ⟨m2.1, ?_⟩
 unfold functionP at hf
 have hk2 : (tokAt T (moreS T true (g.funcs.length : Int) 16 s).at_).kind ≠ 0 := by rw [more_at]; exact hk
 generalize moreS T true (g.funcs.length : Int) 16 s = s2 at r2 hf hk2
 have hr2 := r2.rd
 unfold r7 at hr2
 have ho1 := r2.tk.one
 obtain ⟨o2, o3, o4⟩ := r2.one
 have hl2 := r2.lt
 obtain ⟨m3, r3⟩ := at_go hT r2 hk2
 simp -implicitDefEqProofs (disch := first | assumption | omega | (simp only [nxB]; omega) | (simp only [oneB])) only [xlen, AV.cells, splice, aload, astore, Nat.reduceAdd, Nat.reduceLeDiff, reduceIte, allB, hr2, ho1, o2, o3, o4]
 generalize goS s2 = s3 at r3 hf
 generalize H2.set r (.row false 7 [[tv, .int .i64 (IntKind.i64.wrap (s2.at_ + 1)), rv, gv, fv, .int .i64 s2.fe, .int .i64 s2.fa]]) = H3 at m3 r3 ⊢
 refine W_call (pname_spec hT r3) ?_
 rintro _ H4 ⟨rfl, m4, r4⟩
 refine ⟨m4.1, ?_⟩
 generalize nameP T s3 = q at r4 hf ⊢
 obtain ⟨⟨k, x, z, p⟩, s4⟩ := q
 simp only at r4 hf
 have q5 := Pur.push H4 (.row false 4 [[.int .i64 k, .str x, .int .i64 z, .int .i64 p]])
 have hc5 := AHeap.get_push_same H4 (.row false 4 [[.int .i64 k, .str x, .int .i64 z, .int .i64 p]])
 simp -implicitDefEqProofs (disch := first | assumption | omega | (simp only [nxB]; omega) | (simp only [oneB])) only [xlen, evB, aload, tyB, astore, tyB, Nat.reduceAdd, Nat.reduceLeDiff, reduceIte, AV.cells, splice, lsB, heapB, tabB, tabB, AHeap.push_set_lt, Tok.v]
 have m234 := (m2.trans m3).trans m4
 have hn4 := m234.1
 have r5 := r4.pur q5
 have n5 : (H4.push (.row false 4 [[.int .i64 k, .str x, .int .i64 z, .int .i64 p]])).next = H4.next + 1 := by simp only [AHeap.next_push]
 generalize H4.push (.row false 4 [[.int .i64 k, .str x, .int .i64 z, .int .i64 p]]) = H5 at q5 hc5 r5 n5 ⊢
 have q6 := Pur.push H5 (.row false 7 [[.str x, .nilSl, .bool false, .str [], .int .i64 0, .nilSl, .int .i64 p]])
 have hn5 := q5.1
 have lp : Lp H (H5.push (.row false 7 [[.str x, .nilSl, .bool false, .str [], .int .i64 0, .nilSl, .int .i64 p]])) r (H4.next + 1) (H4.next + 2) 7 T tv rv gv fv (.str x) [.bool false, .str [], .int .i64 0, .nilSl, .int .i64 p] [] .nilSl s4 :=
  ⟨r5.pur q6, by rw [← n5]; exact AHeap.get_push_same _ _, Bl.nil, Mt.mr (m234.trans ((q5.trans q6).mut _)), hlr, by omega, by omega, by simp only [AHeap.next_push]; omega⟩
 refine W_call (pwants_spec hT lp.rp [40]) ?_
 rintro _ H7 ⟨rfl, m7, r7'⟩
 refine ⟨m7.1, ?_⟩
 have lp7 := lp.mut m7 r7'
 obtain ⟨⟨l', s7⟩, g1, g2⟩ := bindS hf
 simp only [Option.some.injEq] at g2
 have ga : g' = (fnEnd T g x p l' (fnRes T s7).1 (fnRes T s7).2).1 := by rw [g2]
 have gb : s' = (fnEnd T g x p l' (fnRes T s7).1 (fnRes T s7).2).2 := by rw [g2]
 rw [ga, gb]
 generalize (wantsS T [40] s4).2 = s5 at lp7 r7' g1
 refine W_call (pis_spec lp7.rp 4 [41]) ?_
 rintro _ H8 ⟨rfl, p8⟩
 refine ⟨p8.1, ?_⟩
 have lp8 := lp7.mut (p8.mut _) (lp7.rp.pur p8)
 unfold fnParams at g1
 cases hb : isB T s5 4 [41] with
 | true =>
  rw [hb, cond_true] at g1
  cases g1
  simp -implicitDefEqProofs (disch := first | assumption | omega | (simp only [nxB]; omega) | (simp only [oneB])) only [xlen, evB, Bool.not_true]
  exact fn_j0 hT B lp8
 | false =>
  rw [hb, cond_false] at g1
  simp -implicitDefEqProofs (disch := first | assumption | omega | (simp only [nxB]; omega) | (simp only [oneB])) only [xlen, evB, Bool.not_false]
  refine W_call (pparam_spec hT (by rfl) B.rp lp8 (by simp)) ?_
  rintro _ H9 ⟨hm, v', h9⟩
  exact ⟨hm, fn_loop hT B n (n + 1) H9 _ _ v' (by omega) (by simp only [paramP, List.length_append, List.length_cons, List.length_nil]; omega) h9 g1⟩
end
end Go.Proofs.YtghmbpmaafnodaaGreatDoor

namespace Go.Proofs.YtghmbpmaafnodaaGreatDoor
open Go.Ev
set_option maxRecDepth 100000
noncomputable section
end
end Go.Proofs.YtghmbpmaafnodaaGreatDoor
namespace Go.Proofs.YtghmbpmaafnodaaGreatDoor
open Go.Ev
theorem jx9' (s : List UInt8) (k : Int) : aindex P 9 (.str s) (.int .i64 k) = if 0 ≤ k then (match s[k.toNat]? with | some b => some (.int .u8 b.toNat) | none => none) else none := by kernel_rfl
theorem jx9 {s : List UInt8} {k : Nat} {b : UInt8} (h : s[k]? = some b) : aindex P 9 (.str s) (.int .i64 (k : Int)) = some (.int .u8 b.toNat) := by
 rw [jx9', if_pos (by omega)]; simp [h]
theorem jx9_0 {s : List UInt8} {b : UInt8} (h : s[0]? = some b) : aindex P 9 (.str s) (.int .i64 0) = some (.int .u8 b.toNat) := jx9 (k := 0) h
theorem wnn (a b : Nat) (h : a + b ≤ 4000000000000000000) : IntKind.i64.wrap ((a : Int) + (b : Int)) = ((a + b : Nat) : Int) := by rw [wrap_i64 (by omega) (by omega)]; omega
theorem wn1 (a : Nat) (h : a ≤ 4000000000000000000) : IntKind.i64.wrap ((a : Int) + 1) = ((a + 1 : Nat) : Int) := by rw [wrap_i64 (by omega) (by omega)]; omega
theorem drop_cons {s : Bs} {k : Nat} {c : UInt8} {r : Bs} (h : s.drop k = c :: r) : s[k]? = some c ∧ s.drop (k + 1) = r ∧ k < s.length ∧ s.length = k + 1 + r.length := by
 have h1 : s[k]? = some c := by
  have := List.getElem?_drop (xs := s) (i := k) (j := 0)
  rw [h] at this
  simpa using this.symm
 have h2 : s.drop (k + 1) = r := by
  have : (s.drop k).drop 1 = r := by rw [h]; rfl
  rwa [List.drop_drop] at this
 have h3 : k < s.length := (List.getElem?_eq_some_iff.1 h1).1
 have h4 := congrArg List.length h
 simp at h4
 exact ⟨h1, h2, h3, by omega⟩
theorem drop_nil {s : Bs} {k : Nat} (h : s.drop k = []) : s.length ≤ k := List.drop_eq_nil_iff.1 h
end Go.Proofs.YtghmbpmaafnodaaGreatDoor

