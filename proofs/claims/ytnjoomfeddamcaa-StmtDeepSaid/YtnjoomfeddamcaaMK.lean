/-
  Texts of one proof, laid together: Y8 Y9 E1 E2 Z12 Zb T2 O2.
-/
import Derived.Test.YtnjoomfeddamcaaMJ
import Derived.Test.YtnjoomfeddamcaaMH
import Derived.Test.YtnjoomfeddamcaaMG
import Derived.Test.YtnjoomfeddamcaaMI
set_option linter.unusedVariables false
set_option linter.unusedSimpArgs false
namespace Go.Proofs.Ytnjoomfeddamcaa
open Go.Ev
theorem first_nameR {n : Nat} (ih : ArgsOk n) {H0 H : AHeap} {r : Nat} {T : List Tok} {tv : AV} {s : St} (hx0 : Ry H0 r T tv s) (p0 : Pur H0 H) (hb : H.get H0.next = some (.row false 11 [[.int .i64 0, .int .i64 0, .str [], .str [], .int .i64 0, .nilSl, .int .i64 0, .int .i64 0, .int .i64 0, .int .i64 0, .int .i64 0]])) {b : Nat} (hbb : H0.next < b) (hq : H.get b = some (.row false 4 [[.int .i64 (tokAt T s.at_).kind, .str (tokAt T s.at_).text, .int .i64 (tokAt T s.at_).n, .int .i64 (tokAt T s.at_).pos]])) {e' : Ex} {s' : St} (h : (bif isR T (nameR T s).2 [40] then (argsR T n (nameR T s).2).bind fun p => some (.mk { kind := 7, name := (nameR T s).1, pos := (tokAt T s.at_).pos } p.1, p.2) else some (.mk { kind := 4, name := (nameR T s).1, pos := (tokAt T s.at_).pos } [], (nameR T s).2)) = some (e', s')) :
  W (s82_j0 (evw P) (.ptr r 0 0) (.ptr H0.next 0 0) (.ptr b 0 0) H) (QostE H0 r T tv e' s') := by
 have hl := hx0.rd.lt
 have ho1 := hx0.tk.one
 have hx := hx0.pur p0
 have hle := p0.1
 have hlq := AHeap.get_lt hq
 have hlb := AHeap.get_lt hb
 rw [s82_j0]
 refine W_call (rname_spec hx) ?_
 rintro _ H1 ⟨rfl, m1, hx1⟩
 refine ⟨m1.1, ?_⟩
 have hb1 := m1.get hb (by omega)
 have hq1 := m1.get hq (by omega)
 simp -implicitDefEqProofs (disch := first | assumption | omega | (simp only [nxB]; omega) | (simp only [oneB])) only [s82_31, s82_49, s82_64, s82_77, s82_93, s82_108, s82_112, s82_113, s82_114, s82_115, s82_116, s82_117, s82_118, s82_119, s82_120, s82_121, s82_122, s82_123, s82_124, s82_125, s82_126, s82_127, s82_128, s82_129, s82_130, s82_131, s82_132, s82_133, s82_134, s82_135, s82_136, s82_137, s82, xlen, AV.cells, splice, aload, astore, Nat.reduceAdd, Nat.reduceLeDiff, reduceIte, allB]
 refine W_call (ris_spec hx1.rd hx1.tk [40] (by simp)) ?_
 rintro _ H2 ⟨rfl, p2⟩
 refine ⟨p2.1, ?_⟩
 have hb2 := p2.get hb1
 have hq2 := p2.get hq1
 have hlb2 := AHeap.get_lt hb2
 have hlq2 := AHeap.get_lt hq2
 have hx2 := hx1.pur p2
 have mb := ((p0.mut (· = r)).trans m1).trans (p2.mut _)
 cases hi : isR T (nameR T s).2 [40] with
 | false =>
  simp only [hi, cond_false, Option.some.injEq, Prod.mk.injEq] at h
  obtain ⟨rfl, rfl⟩ := h
  simp -implicitDefEqProofs (disch := first | assumption | omega | (simp only [nxB]; omega) | (simp only [oneB])) only [s82_31, s82_49, s82_64, s82_77, s82_93, s82_108, s82_112, s82_113, s82_114, s82_115, s82_116, s82_117, s82_118, s82_119, s82_120, s82_121, s82_122, s82_123, s82_124, s82_125, s82_126, s82_127, s82_128, s82_129, s82_130, s82_131, s82_132, s82_133, s82_134, s82_135, s82_136, s82_137, s82, xlen, AV.cells, splice, aload, astore, Nat.reduceAdd, Nat.reduceLeDiff, reduceIte, allB, Bool.not_false, hb2, hq2]
  exact W_some.2 (QostE.box (a := { kind := 4, name := (nameR T s).1, pos := (tokAt T s.at_).pos }) (kv := .nilSl) (lo := H0.next + 1) hx0 mb hx2.rd (Nat.le_refl _) (Nat.lt_succ_self _) (KsV.nil _ _) _)
 | true =>
  simp only [hi, cond_true, Option.bind_eq_some_iff] at h
  obtain ⟨⟨l1, s1⟩, h1, h2⟩ := h
  simp only [Option.some.injEq, Prod.mk.injEq] at h2
  obtain ⟨rfl, rfl⟩ := h2
  simp -implicitDefEqProofs (disch := first | assumption | omega | (simp only [nxB]; omega) | (simp only [oneB])) only [s82_31, s82_49, s82_64, s82_77, s82_93, s82_108, s82_112, s82_113, s82_114, s82_115, s82_116, s82_117, s82_118, s82_119, s82_120, s82_121, s82_122, s82_123, s82_124, s82_125, s82_126, s82_127, s82_128, s82_129, s82_130, s82_131, s82_132, s82_133, s82_134, s82_135, s82_136, s82_137, s82, xlen, AV.cells, splice, aload, astore, Nat.reduceAdd, Nat.reduceLeDiff, reduceIte, allB, Bool.not_true]
  refine W_call (ih hx2 l1 s1 h1) ?_
  rintro v H3 ⟨m3, hx3, hk3⟩
  refine ⟨m3.1, ?_⟩
  have hb3 := m3.get hb2 (by omega)
  have hq3 := m3.get hq2 (by omega)
  have hlb3 := AHeap.get_lt hb3
  have hlq3 := AHeap.get_lt hq3
  have hv : v = .nilSl ∨ ∃ l i n cap, v = .sl l i n 11 cap := by
   rcases hk3 with ⟨h, _⟩ | ⟨l, i, cap, ro, els, h, _⟩ | ⟨l, i, cap, h, _⟩
   ·exact .inl h
   ·exact .inr ⟨_, _, _, _, h⟩
   ·exact .inr ⟨_, _, _, _, h⟩
  rcases hv with rfl | ⟨l, i, k, cap, rfl⟩
  ·simp -implicitDefEqProofs (disch := first | assumption | omega | (simp only [nxB]; omega) | (simp only [oneB])) only [s82_31, s82_49, s82_64, s82_77, s82_93, s82_108, s82_112, s82_113, s82_114, s82_115, s82_116, s82_117, s82_118, s82_119, s82_120, s82_121, s82_122, s82_123, s82_124, s82_125, s82_126, s82_127, s82_128, s82_129, s82_130, s82_131, s82_132, s82_133, s82_134, s82_135, s82_136, s82_137, s82, xlen, AV.cells, splice, aload, astore, Nat.reduceAdd, Nat.reduceLeDiff, reduceIte, allB, hb3, hq3, hq2]
   exact W_some.2 (QostE.box (a := { kind := 7, name := (nameR T s).1, pos := (tokAt T s.at_).pos }) (kv := .nilSl) (lo := H2.next) hx0 (mb.trans m3) hx3.rd (Nat.le_refl _) (by omega) hk3 _)
  ·simp -implicitDefEqProofs (disch := first | assumption | omega | (simp only [nxB]; omega) | (simp only [oneB])) only [s82_31, s82_49, s82_64, s82_77, s82_93, s82_108, s82_112, s82_113, s82_114, s82_115, s82_116, s82_117, s82_118, s82_119, s82_120, s82_121, s82_122, s82_123, s82_124, s82_125, s82_126, s82_127, s82_128, s82_129, s82_130, s82_131, s82_132, s82_133, s82_134, s82_135, s82_136, s82_137, s82, xlen, AV.cells, splice, aload, astore, Nat.reduceAdd, Nat.reduceLeDiff, reduceIte, allB, hb3, hq3, hq2]
   exact W_some.2 (QostE.box (a := { kind := 7, name := (nameR T s).1, pos := (tokAt T s.at_).pos }) (kv := .sl l i k 11 cap) (lo := H2.next) hx0 (mb.trans m3) hx3.rd (Nat.le_refl _) (by omega) hk3 _)
theorem first_num {H0 H : AHeap} {r : Nat} {T : List Tok} {tv : AV} {s : St} (hx0 : Ry H0 r T tv s) (p0 : Pur H0 H) (hb : H.get H0.next = some (.row false 11 [[.int .i64 0, .int .i64 0, .str [], .str [], .int .i64 0, .nilSl, .int .i64 0, .int .i64 0, .int .i64 0, .int .i64 0, .int .i64 0]])) {b : Nat} (hbb : H0.next < b) (hq : H.get b = some (.row false 4 [[.int .i64 (tokAt T s.at_).kind, .str (tokAt T s.at_).text, .int .i64 (tokAt T s.at_).n, .int .i64 (tokAt T s.at_).pos]])) {e' : Ex} {s' : St} (h : some (Ex.mk { kind := 1, n := (tokAt T s.at_).n, pos := (tokAt T s.at_).pos } [], goS s) = some (e', s')) :
  W (s82_31 (.ptr r 0 0) H (.ptr b 0 0) (.ptr H0.next 0 0)) (QostE H0 r T tv e' s') := by
 have hl := hx0.rd.lt
 have ho1 := hx0.tk.one
 have hx := hx0.pur p0
 have hle := p0.1
 have hlq := AHeap.get_lt hq
 have hlb := AHeap.get_lt hb
 have hr2 := hx.rd
 have hr2' := hr2
 unfold Rd5 at hr2'
 have hlr := hr2.lt
 obtain ⟨m1, hd1⟩ := rset hr2 (goS s)
 have mb1 := (p0.mut (· = r)).trans m1
 have hx1 := hx0.mut mb1 hd1
 have hb1 := m1.get hb (by omega)
 have hq1 := m1.get hq (by omega)
 simp only [Option.some.injEq, Prod.mk.injEq] at h
 obtain ⟨rfl, rfl⟩ := h
 simp -implicitDefEqProofs (disch := first | assumption | omega | (simp only [nxB]; omega) | (simp only [oneB])) only [s82_31, s82_49, s82_64, s82_77, s82_93, s82_108, s82_112, s82_113, s82_114, s82_115, s82_116, s82_117, s82_118, s82_119, s82_120, s82_121, s82_122, s82_123, s82_124, s82_125, s82_126, s82_127, s82_128, s82_129, s82_130, s82_131, s82_132, s82_133, s82_134, s82_135, s82_136, s82_137, s82, xlen, AV.cells, splice, aload, astore, Nat.reduceAdd, Nat.reduceLeDiff, reduceIte, allB, hr2', ho1, hb, hq]
 exact W_some.2 (QostE.box (a := { kind := 1, n := (tokAt T s.at_).n, pos := (tokAt T s.at_).pos }) (kv := .nilSl) (lo := H0.next + 1) hx0 mb1 hd1 (Nat.le_refl _) (Nat.lt_succ_self _) (KsV.nil _ _) _)
theorem first_bool {H0 H : AHeap} {r : Nat} {T : List Tok} {tv : AV} {s : St} (hx0 : Ry H0 r T tv s) (p0 : Pur H0 H) (hb : H.get H0.next = some (.row false 11 [[.int .i64 0, .int .i64 0, .str [], .str [], .int .i64 0, .nilSl, .int .i64 0, .int .i64 0, .int .i64 0, .int .i64 0, .int .i64 0]])) {b : Nat} (hbb : H0.next < b) (hq : H.get b = some (.row false 4 [[.int .i64 (tokAt T s.at_).kind, .str (tokAt T s.at_).text, .int .i64 (tokAt T s.at_).n, .int .i64 (tokAt T s.at_).pos]])) {e' : Ex} {s' : St} (h : some (Ex.mk { kind := 2, n := bif (tokAt T s.at_).text == [116, 114, 117, 101] then 1 else 0, pos := (tokAt T s.at_).pos } [], goS s) = some (e', s')) :
  W (s82_49 (evw P) (.ptr r 0 0) H (.ptr b 0 0) (.ptr H0.next 0 0)) (QostE H0 r T tv e' s') := by
 have hl := hx0.rd.lt
 have ho1 := hx0.tk.one
 have hx := hx0.pur p0
 have hle := p0.1
 have hlq := AHeap.get_lt hq
 have hlb := AHeap.get_lt hb
 have hr2 := hx.rd
 have hr2' := hr2
 unfold Rd5 at hr2'
 have hlr := hr2.lt
 obtain ⟨m1, hd1⟩ := rset hr2 (goS s)
 have mb1 := (p0.mut (· = r)).trans m1
 have hx1 := hx0.mut mb1 hd1
 have hb1 := m1.get hb (by omega)
 have hq1 := m1.get hq (by omega)
 simp only [Option.some.injEq, Prod.mk.injEq] at h
 obtain ⟨rfl, rfl⟩ := h
 cases ht : (tokAt T s.at_).text == [116, 114, 117, 101] with
 | true =>
  simp -implicitDefEqProofs (disch := first | assumption | omega | (simp only [nxB]; omega) | (simp only [oneB])) only [s82_31, s82_j2, s82_49, s82_64, s82_77, s82_93, s82_108, s82_112, s82_113, s82_114, s82_115, s82_116, s82_117, s82_118, s82_119, s82_120, s82_121, s82_122, s82_123, s82_124, s82_125, s82_126, s82_127, s82_128, s82_129, s82_130, s82_131, s82_132, s82_133, s82_134, s82_135, s82_136, s82_137, s82, xlen, AV.cells, splice, aload, astore, Nat.reduceAdd, Nat.reduceLeDiff, reduceIte, allB, hr2', ho1, hb, hq, ht]
  exact W_some.2 (QostE.box (a := { kind := 2, n := 1, pos := (tokAt T s.at_).pos }) (kv := .nilSl) (lo := H0.next + 1) hx0 mb1 hd1 (Nat.le_refl _) (Nat.lt_succ_self _) (KsV.nil _ _) _)
 | false =>
  simp -implicitDefEqProofs (disch := first | assumption | omega | (simp only [nxB]; omega) | (simp only [oneB])) only [s82_31, s82_j2, s82_49, s82_64, s82_77, s82_93, s82_108, s82_112, s82_113, s82_114, s82_115, s82_116, s82_117, s82_118, s82_119, s82_120, s82_121, s82_122, s82_123, s82_124, s82_125, s82_126, s82_127, s82_128, s82_129, s82_130, s82_131, s82_132, s82_133, s82_134, s82_135, s82_136, s82_137, s82, xlen, AV.cells, splice, aload, astore, Nat.reduceAdd, Nat.reduceLeDiff, reduceIte, allB, hr2', ho1, hb, hq, ht]
  exact W_some.2 (QostE.box (a := { kind := 2, n := 0, pos := (tokAt T s.at_).pos }) (kv := .nilSl) (lo := H0.next + 1) hx0 mb1 hd1 (Nat.le_refl _) (Nat.lt_succ_self _) (KsV.nil _ _) _)
theorem first_null {H0 H : AHeap} {r : Nat} {T : List Tok} {tv : AV} {s : St} (hx0 : Ry H0 r T tv s) (p0 : Pur H0 H) (hb : H.get H0.next = some (.row false 11 [[.int .i64 0, .int .i64 0, .str [], .str [], .int .i64 0, .nilSl, .int .i64 0, .int .i64 0, .int .i64 0, .int .i64 0, .int .i64 0]])) {b : Nat} (hbb : H0.next < b) (hq : H.get b = some (.row false 4 [[.int .i64 (tokAt T s.at_).kind, .str (tokAt T s.at_).text, .int .i64 (tokAt T s.at_).n, .int .i64 (tokAt T s.at_).pos]])) {e' : Ex} {s' : St} (h : some (Ex.mk { kind := 3, ofn := (ofR T (goS s)).1.1, ofd := (ofR T (goS s)).1.2, pos := (tokAt T s.at_).pos } [], (ofR T (goS s)).2) = some (e', s')) :
  W (s82_64 (evw P) (.ptr r 0 0) H (.ptr b 0 0) (.ptr H0.next 0 0)) (QostE H0 r T tv e' s') := by
 have hl := hx0.rd.lt
 have ho1 := hx0.tk.one
 have hx := hx0.pur p0
 have hle := p0.1
 have hlq := AHeap.get_lt hq
 have hlb := AHeap.get_lt hb
 have hr2 := hx.rd
 have hr2' := hr2
 unfold Rd5 at hr2'
 have hlr := hr2.lt
 obtain ⟨m1, hd1⟩ := rset hr2 (goS s)
 have mb1 := (p0.mut (· = r)).trans m1
 have hx1 := hx0.mut mb1 hd1
 have hb1 := m1.get hb (by omega)
 have hq1 := m1.get hq (by omega)
 simp only [Option.some.injEq, Prod.mk.injEq] at h
 obtain ⟨rfl, rfl⟩ := h
 simp -implicitDefEqProofs (disch := first | assumption | omega | (simp only [nxB]; omega) | (simp only [oneB])) only [s82_31, s82_49, s82_64, s82_77, s82_93, s82_108, s82_112, s82_113, s82_114, s82_115, s82_116, s82_117, s82_118, s82_119, s82_120, s82_121, s82_122, s82_123, s82_124, s82_125, s82_126, s82_127, s82_128, s82_129, s82_130, s82_131, s82_132, s82_133, s82_134, s82_135, s82_136, s82_137, s82, xlen, AV.cells, splice, aload, astore, Nat.reduceAdd, Nat.reduceLeDiff, reduceIte, allB, hr2', ho1]
 refine W_call (rof_spec hx1) ?_
 rintro _ H2 ⟨rfl, m2, hx2⟩
 refine ⟨m2.1, ?_⟩
 have hb2 := m2.get hb1 (by omega)
 have hq2 := m2.get hq1 (by omega)
 have hlb2 := AHeap.get_lt hb2
 have hlq2 := AHeap.get_lt hq2
 simp -implicitDefEqProofs (disch := first | assumption | omega | (simp only [nxB]; omega) | (simp only [oneB])) only [s82_31, s82_49, s82_64, s82_77, s82_93, s82_108, s82_112, s82_113, s82_114, s82_115, s82_116, s82_117, s82_118, s82_119, s82_120, s82_121, s82_122, s82_123, s82_124, s82_125, s82_126, s82_127, s82_128, s82_129, s82_130, s82_131, s82_132, s82_133, s82_134, s82_135, s82_136, s82_137, s82, xlen, AV.cells, splice, aload, astore, Nat.reduceAdd, Nat.reduceLeDiff, reduceIte, allB, hb2, hq2, hq]
 exact W_some.2 (QostE.box (a := { kind := 3, ofn := (ofR T (goS s)).1.1, ofd := (ofR T (goS s)).1.2, pos := (tokAt T s.at_).pos }) (kv := .nilSl) (lo := H0.next + 1) hx0 (mb1.trans m2) hx2.rd (Nat.le_refl _) (Nat.lt_succ_self _) (KsV.nil _ _) _)
theorem first_new {n : Nat} (ih : FreshROk n) {H0 H : AHeap} {r : Nat} {T : List Tok} {tv : AV} {s : St} (hx0 : Ry H0 r T tv s) (p0 : Pur H0 H) (hb : H.get H0.next = some (.row false 11 [[.int .i64 0, .int .i64 0, .str [], .str [], .int .i64 0, .nilSl, .int .i64 0, .int .i64 0, .int .i64 0, .int .i64 0, .int .i64 0]])) {b : Nat} (hbb : H0.next < b) (hq : H.get b = some (.row false 4 [[.int .i64 (tokAt T s.at_).kind, .str (tokAt T s.at_).text, .int .i64 (tokAt T s.at_).n, .int .i64 (tokAt T s.at_).pos]])) {e' : Ex} {s' : St} (h : freshR T n (tokAt T s.at_).pos (goS s) = some (e', s')) :
  W (s82_77 (evw P) (.ptr r 0 0) H (.ptr b 0 0) (.ptr H0.next 0 0)) (QostE H0 r T tv e' s') := by
 have hl := hx0.rd.lt
 have ho1 := hx0.tk.one
 have hx := hx0.pur p0
 have hle := p0.1
 have hlq := AHeap.get_lt hq
 have hlb := AHeap.get_lt hb
 have hr2 := hx.rd
 have hr2' := hr2
 unfold Rd5 at hr2'
 have hlr := hr2.lt
 obtain ⟨m1, hd1⟩ := rset hr2 (goS s)
 have mb1 := (p0.mut (· = r)).trans m1
 have hx1 := hx0.mut mb1 hd1
 have hb1 := m1.get hb (by omega)
 have hq1 := m1.get hq (by omega)
 simp -implicitDefEqProofs (disch := first | assumption | omega | (simp only [nxB]; omega) | (simp only [oneB])) only [s82_31, s82_49, s82_64, s82_77, s82_93, s82_108, s82_112, s82_113, s82_114, s82_115, s82_116, s82_117, s82_118, s82_119, s82_120, s82_121, s82_122, s82_123, s82_124, s82_125, s82_126, s82_127, s82_128, s82_129, s82_130, s82_131, s82_132, s82_133, s82_134, s82_135, s82_136, s82_137, s82, xlen, AV.cells, splice, aload, astore, Nat.reduceAdd, Nat.reduceLeDiff, reduceIte, allB, hr2', ho1, hq]
 refine W_call (ih hx1 _ e' s' h) ?_
 rintro v H2 ⟨m2, hx2, he2⟩
 refine ⟨m2.1, ?_⟩
 have hb2 := m2.get hb1 (by omega)
 have hlb2 := AHeap.get_lt hb2
 have hm1 := m1.1
 obtain ⟨cs, rfl, hlen, hone⟩ := he2.cells
 have ht : List.take 11 cs = cs := List.take_of_length_le (by omega)
 simp -implicitDefEqProofs (disch := first | assumption | omega | (simp only [nxB]; omega) | (simp only [oneB])) only [s82_31, s82_49, s82_64, s82_77, s82_93, s82_108, s82_112, s82_113, s82_114, s82_115, s82_116, s82_117, s82_118, s82_119, s82_120, s82_121, s82_122, s82_123, s82_124, s82_125, s82_126, s82_127, s82_128, s82_129, s82_130, s82_131, s82_132, s82_133, s82_134, s82_135, s82_136, s82_137, s82, xlen, AV.cells, splice, aload, astore, Nat.reduceAdd, Nat.reduceLeDiff, reduceIte, allB, hb2, hlen, hone, List.append_nil, ht]
 exact W_some.2 (QostE.ret hx0 (mb1.trans m2) hx2.rd (Nat.le_refl _) he2 (by omega) _)
theorem first_par {n : Nat} (ih : InnerOk n) {H0 H : AHeap} {r : Nat} {T : List Tok} {tv : AV} {s : St} (hx0 : Ry H0 r T tv s) (p0 : Pur H0 H) (hb : H.get H0.next = some (.row false 11 [[.int .i64 0, .int .i64 0, .str [], .str [], .int .i64 0, .nilSl, .int .i64 0, .int .i64 0, .int .i64 0, .int .i64 0, .int .i64 0]])) {b : Nat} (hbb : H0.next < b) (hq : H.get b = some (.row false 4 [[.int .i64 (tokAt T s.at_).kind, .str (tokAt T s.at_).text, .int .i64 (tokAt T s.at_).n, .int .i64 (tokAt T s.at_).pos]])) {e' : Ex} {s' : St} (h : innerR T n s = some (e', s')) :
  W (s82_112 (evw P) H (.ptr r 0 0) (.ptr H0.next 0 0)) (QostE H0 r T tv e' s') := by
 have hl := hx0.rd.lt
 have ho1 := hx0.tk.one
 have hx := hx0.pur p0
 have hle := p0.1
 have hlq := AHeap.get_lt hq
 have hlb := AHeap.get_lt hb
 have mb1 := p0.mut (· = r)
 have m1 := Mut.refl (· = r) H
 have hb1 := hb
 rw [s82_112]
 refine W_call (ih hx e' s' h) ?_
 rintro v H2 ⟨m2, hx2, he2⟩
 refine ⟨m2.1, ?_⟩
 have hb2 := m2.get hb1 (by omega)
 have hlb2 := AHeap.get_lt hb2
 have hm1 := m1.1
 obtain ⟨cs, rfl, hlen, hone⟩ := he2.cells
 have ht : List.take 11 cs = cs := List.take_of_length_le (by omega)
 simp -implicitDefEqProofs (disch := first | assumption | omega | (simp only [nxB]; omega) | (simp only [oneB])) only [s82_31, s82_49, s82_64, s82_77, s82_93, s82_108, s82_112, s82_113, s82_114, s82_115, s82_116, s82_117, s82_118, s82_119, s82_120, s82_121, s82_122, s82_123, s82_124, s82_125, s82_126, s82_127, s82_128, s82_129, s82_130, s82_131, s82_132, s82_133, s82_134, s82_135, s82_136, s82_137, s82, xlen, AV.cells, splice, aload, astore, Nat.reduceAdd, Nat.reduceLeDiff, reduceIte, allB, hb2, hlen, hone, List.append_nil, ht]
 exact W_some.2 (QostE.ret hx0 (mb1.trans m2) hx2.rd (Nat.le_refl _) he2 (by omega) _)
theorem first_read {H0 H : AHeap} {r : Nat} {T : List Tok} {tv : AV} {s : St} (hx0 : Ry H0 r T tv s) (p0 : Pur H0 H) (hb : H.get H0.next = some (.row false 11 [[.int .i64 0, .int .i64 0, .str [], .str [], .int .i64 0, .nilSl, .int .i64 0, .int .i64 0, .int .i64 0, .int .i64 0, .int .i64 0]])) {b : Nat} (hbb : H0.next < b) (hq : H.get b = some (.row false 4 [[.int .i64 (tokAt T s.at_).kind, .str (tokAt T s.at_).text, .int .i64 (tokAt T s.at_).n, .int .i64 (tokAt T s.at_).pos]])) {e' : Ex} {s' : St} (h : some (Ex.mk { kind := 11, pos := (tokAt T s.at_).pos } [], closesR T [41] (opensR T [40] (goS s))) = some (e', s')) :
  W (s82_108 (evw P) (.ptr r 0 0) H (.ptr b 0 0) (.ptr H0.next 0 0)) (QostE H0 r T tv e' s') := by
 have hl := hx0.rd.lt
 have ho1 := hx0.tk.one
 have hx := hx0.pur p0
 have hle := p0.1
 have hlq := AHeap.get_lt hq
 have hlb := AHeap.get_lt hb
 have hr2 := hx.rd
 have hr2' := hr2
 unfold Rd5 at hr2'
 have hlr := hr2.lt
 obtain ⟨m1, hd1⟩ := rset hr2 (goS s)
 have mb1 := (p0.mut (· = r)).trans m1
 have hx1 := hx0.mut mb1 hd1
 have hb1 := m1.get hb (by omega)
 have hq1 := m1.get hq (by omega)
 simp only [Option.some.injEq, Prod.mk.injEq] at h
 obtain ⟨rfl, rfl⟩ := h
 simp -implicitDefEqProofs (disch := first | assumption | omega | (simp only [nxB]; omega) | (simp only [oneB])) only [s82_31, s82_49, s82_64, s82_77, s82_93, s82_108, s82_112, s82_113, s82_114, s82_115, s82_116, s82_117, s82_118, s82_119, s82_120, s82_121, s82_122, s82_123, s82_124, s82_125, s82_126, s82_127, s82_128, s82_129, s82_130, s82_131, s82_132, s82_133, s82_134, s82_135, s82_136, s82_137, s82, xlen, AV.cells, splice, aload, astore, Nat.reduceAdd, Nat.reduceLeDiff, reduceIte, allB, hr2', ho1]
 refine W_call (ropens_spec hx1 [40] (by simp)) ?_
 rintro _ H2 ⟨rfl, m2, hx2⟩
 refine ⟨m2.1, ?_⟩
 simp -implicitDefEqProofs (disch := first | assumption | omega | (simp only [nxB]; omega) | (simp only [oneB])) only [s82_31, s82_49, s82_64, s82_77, s82_93, s82_108, s82_112, s82_113, s82_114, s82_115, s82_116, s82_117, s82_118, s82_119, s82_120, s82_121, s82_122, s82_123, s82_124, s82_125, s82_126, s82_127, s82_128, s82_129, s82_130, s82_131, s82_132, s82_133, s82_134, s82_135, s82_136, s82_137, s82, xlen, AV.cells, splice, aload, astore, Nat.reduceAdd, Nat.reduceLeDiff, reduceIte, allB]
 refine W_call (rcloses_spec hx2 [41] (by simp)) ?_
 rintro _ H3 ⟨rfl, m3, hx3⟩
 refine ⟨m3.1, ?_⟩
 have hb2 := m3.get (m2.get hb1 (by omega)) (by omega)
 have hq2 := m3.get (m2.get hq1 (by omega)) (by omega)
 have hlb2 := AHeap.get_lt hb2
 have hlq2 := AHeap.get_lt hq2
 simp -implicitDefEqProofs (disch := first | assumption | omega | (simp only [nxB]; omega) | (simp only [oneB])) only [s82_31, s82_49, s82_64, s82_77, s82_93, s82_108, s82_112, s82_113, s82_114, s82_115, s82_116, s82_117, s82_118, s82_119, s82_120, s82_121, s82_122, s82_123, s82_124, s82_125, s82_126, s82_127, s82_128, s82_129, s82_130, s82_131, s82_132, s82_133, s82_134, s82_135, s82_136, s82_137, s82, xlen, AV.cells, splice, aload, astore, Nat.reduceAdd, Nat.reduceLeDiff, reduceIte, allB, hb2, hq2]
 exact W_some.2 (QostE.box (a := { kind := 11, pos := (tokAt T s.at_).pos }) (kv := .nilSl) (lo := H0.next + 1) hx0 ((mb1.trans m2).trans m3) hx3.rd (Nat.le_refl _) (Nat.lt_succ_self _) (KsV.nil _ _) _)
theorem first_len {n : Nat} (ih : InnerOk n) {H0 H : AHeap} {r : Nat} {T : List Tok} {tv : AV} {s : St} (hx0 : Ry H0 r T tv s) (p0 : Pur H0 H) (hb : H.get H0.next = some (.row false 11 [[.int .i64 0, .int .i64 0, .str [], .str [], .int .i64 0, .nilSl, .int .i64 0, .int .i64 0, .int .i64 0, .int .i64 0, .int .i64 0]])) {b : Nat} (hbb : H0.next < b) (hq : H.get b = some (.row false 4 [[.int .i64 (tokAt T s.at_).kind, .str (tokAt T s.at_).text, .int .i64 (tokAt T s.at_).n, .int .i64 (tokAt T s.at_).pos]])) {e' : Ex} {s' : St} (h : ((innerR T n (goS s)).bind fun p => some (Ex.mk { kind := 10, pos := (tokAt T s.at_).pos } [p.1], p.2)) = some (e', s')) :
  W (s82_93 (evw P) (.ptr r 0 0) H (.ptr b 0 0) (.ptr H0.next 0 0)) (QostE H0 r T tv e' s') := by
 have hl := hx0.rd.lt
 have ho1 := hx0.tk.one
 have hx := hx0.pur p0
 have hle := p0.1
 have hlq := AHeap.get_lt hq
 have hlb := AHeap.get_lt hb
 have hr2 := hx.rd
 have hr2' := hr2
 unfold Rd5 at hr2'
 have hlr := hr2.lt
 obtain ⟨m1, hd1⟩ := rset hr2 (goS s)
 have mb1 := (p0.mut (· = r)).trans m1
 have hx1 := hx0.mut mb1 hd1
 have hb1 := m1.get hb (by omega)
 have hq1 := m1.get hq (by omega)
 simp only [Option.bind_eq_some_iff] at h
 obtain ⟨⟨e1, s1⟩, h1, h2⟩ := h
 simp only [Option.some.injEq, Prod.mk.injEq] at h2
 obtain ⟨rfl, rfl⟩ := h2
 simp -implicitDefEqProofs (disch := first | assumption | omega | (simp only [nxB]; omega) | (simp only [oneB])) only [s82_31, s82_49, s82_64, s82_77, s82_93, s82_108, s82_112, s82_113, s82_114, s82_115, s82_116, s82_117, s82_118, s82_119, s82_120, s82_121, s82_122, s82_123, s82_124, s82_125, s82_126, s82_127, s82_128, s82_129, s82_130, s82_131, s82_132, s82_133, s82_134, s82_135, s82_136, s82_137, s82, xlen, AV.cells, splice, aload, astore, Nat.reduceAdd, Nat.reduceLeDiff, reduceIte, allB, hr2', ho1]
 refine W_call (ih hx1 e1 s1 h1) ?_
 rintro v H2 ⟨m2, hx2, he2⟩
 refine ⟨m2.1, ?_⟩
 have hb2 := m2.get hb1 (by omega)
 have hq2 := m2.get hq1 (by omega)
 have hlb2 := AHeap.get_lt hb2
 have hlq2 := AHeap.get_lt hq2
 have hm1 := m1.1
 have hm2 := m2.1
 obtain ⟨cs, rfl, hlen, hone⟩ := he2.cells
 have ht : List.take 11 cs = cs := List.take_of_length_le (by omega)
 have hs : ∀ l, sliceOf P l 35 1 [(0, .agg cs)] = some (.sl l 0 1 11 (some 1), .row false 11 [cs]) := fun l => sl35_1 l cs hlen hone
 have mb := mb1.trans m2
 have hr3 := hx2.rd
 unfold Rd5 at hr3
 have hr2 := hr3
 simp -implicitDefEqProofs (disch := first | assumption | omega | (simp only [nxB]; omega) | (simp only [oneB])) only [s82_31, s82_49, s82_64, s82_77, s82_93, s82_108, s82_112, s82_113, s82_114, s82_115, s82_116, s82_117, s82_118, s82_119, s82_120, s82_121, s82_122, s82_123, s82_124, s82_125, s82_126, s82_127, s82_128, s82_129, s82_130, s82_131, s82_132, s82_133, s82_134, s82_135, s82_136, s82_137, s82, xlen, AV.cells, splice, aload, astore, Nat.reduceAdd, Nat.reduceLeDiff, reduceIte, allB, hs, hb2, hq2, hq]
 refine W_some.2 ?_
 refine QostL.fin (ok := Ge H0.next) (a := { kind := 10, pos := (tokAt T s.at_).pos }) (kv := .sl H2.next 0 1 11 (some 1)) (s' := s1) hx0 ?_ ?_ (KsV.one_at (ro := false) ?_ (by unfold Ge; omega) (he2.new ?_ fun l h => by unfold Ge; omega))
 ·(repeat (first | exact mb | refine Mut.then_push ?_ _ | refine Mut.then_set (S := (· = r)) ?_ (.inl rfl) _ | refine Mut.then_set ?_ (.inr (by (first | omega | (simp only [AHeap.next_push, AHeap.next_set]; omega)))) _))
 ·(unfold Rd5; simp -implicitDefEqProofs (disch := first | assumption | omega | (simp only [nxB]; omega) | (simp only [oneB])) only [heapB, hr2, goS, outS, inS])
 ·simp -implicitDefEqProofs (disch := first | assumption | omega | (simp only [nxB]; omega) | (simp only [oneB])) only [heapB]
 ·exact Mut.then_set (S := fun l => l < _) ((Mut.refl _ _).then_push _) (.inl (by omega)) _
theorem first_rest {n : Nat} (ihF : FreshROk n) (ihI : InnerOk n) (ihA : ArgsOk n) {H0 H : AHeap} {r : Nat} {T : List Tok} {tv : AV} {s : St} (hx0 : Ry H0 r T tv s) (p0 : Pur H0 H) (hb : H.get H0.next = some (.row false 11 [[.int .i64 0, .int .i64 0, .str [], .str [], .int .i64 0, .nilSl, .int .i64 0, .int .i64 0, .int .i64 0, .int .i64 0, .int .i64 0]])) {b : Nat} (hbb : H0.next < b) (hq : H.get b = some (.row false 4 [[.int .i64 (tokAt T s.at_).kind, .str (tokAt T s.at_).text, .int .i64 (tokAt T s.at_).n, .int .i64 (tokAt T s.at_).pos]])) {e' : Ex} {s' : St} (h : (bif isR T s [110, 117, 108, 108] then some (.mk { kind := 3, ofn := (ofR T (goS s)).1.1, ofd := (ofR T (goS s)).1.2, pos := (tokAt T s.at_).pos } [], (ofR T (goS s)).2) else (bif isR T s [110, 101, 119] then freshR T n (tokAt T s.at_).pos (goS s) else (bif isR T s [108, 101, 110] then (innerR T n (goS s)).bind fun p => some (.mk { kind := 10, pos := (tokAt T s.at_).pos } [p.1], p.2) else (bif isR T s [114, 101, 97, 100] then some (.mk { kind := 11, pos := (tokAt T s.at_).pos } [], closesR T [41] (opensR T [40] (goS s))) else (bif isR T s [40] then innerR T n s else (bif isR T (nameR T s).2 [40] then (argsR T n (nameR T s).2).bind fun p => some (.mk { kind := 7, name := (nameR T s).1, pos := (tokAt T s.at_).pos } p.1, p.2) else some (.mk { kind := 4, name := (nameR T s).1, pos := (tokAt T s.at_).pos } [], (nameR T s).2))))))) = some (e', s')) :
  W (s82_123 (evw P) H (.ptr r 0 0) (.ptr b 0 0) (.ptr H0.next 0 0)) (QostE H0 r T tv e' s') := by
 have hx := hx0.pur p0
 rw [s82_123]
 refine W_call (ris_spec (hx0.rd.pur p0) (hx0.tk.pur p0) [110, 117, 108, 108] (by simp)) ?_
 rintro _ K0 ⟨rfl, q0⟩
 refine ⟨q0.1, ?_⟩
 have p1 := p0.trans q0
 have hb1 := q0.get hb
 have hq1 := q0.get hq
 cases h0 : isR T s [110, 117, 108, 108] with
 | true =>
  simp only [h0, cond_true] at h
  simp -implicitDefEqProofs (disch := first | assumption | omega | (simp only [nxB]; omega) | (simp only [oneB])) only [s82_122, xif_bool, cond_true]
  exact first_null  hx0 p1 hb1 hbb hq1 h
 | false =>
  simp only [h0, cond_false] at h
  simp -implicitDefEqProofs (disch := first | assumption | omega | (simp only [nxB]; omega) | (simp only [oneB])) only [s82_122, xif_bool, cond_false]
  rw [s82_121]
  refine W_call (ris_spec (hx0.rd.pur p1) (hx0.tk.pur p1) [110, 101, 119] (by simp)) ?_
  rintro _ K1 ⟨rfl, q1⟩
  refine ⟨q1.1, ?_⟩
  have p2 := p1.trans q1
  have hb2 := q1.get hb1
  have hq2 := q1.get hq1
  cases h1 : isR T s [110, 101, 119] with
  | true =>
   simp only [h1, cond_true] at h
   simp -implicitDefEqProofs (disch := first | assumption | omega | (simp only [nxB]; omega) | (simp only [oneB])) only [s82_120, xif_bool, cond_true]
   exact first_new ihF hx0 p2 hb2 hbb hq2 h
  | false =>
   simp only [h1, cond_false] at h
   simp -implicitDefEqProofs (disch := first | assumption | omega | (simp only [nxB]; omega) | (simp only [oneB])) only [s82_120, xif_bool, cond_false]
   rw [s82_119]
   refine W_call (ris_spec (hx0.rd.pur p2) (hx0.tk.pur p2) [108, 101, 110] (by simp)) ?_
   rintro _ K2 ⟨rfl, q2⟩
   refine ⟨q2.1, ?_⟩
   have p3 := p2.trans q2
   have hb3 := q2.get hb2
   have hq3 := q2.get hq2
   cases h2 : isR T s [108, 101, 110] with
   | true =>
    simp only [h2, cond_true] at h
    simp -implicitDefEqProofs (disch := first | assumption | omega | (simp only [nxB]; omega) | (simp only [oneB])) only [s82_118, xif_bool, cond_true]
    exact first_len ihI hx0 p3 hb3 hbb hq3 h
   | false =>
    simp only [h2, cond_false] at h
    simp -implicitDefEqProofs (disch := first | assumption | omega | (simp only [nxB]; omega) | (simp only [oneB])) only [s82_118, xif_bool, cond_false]
    rw [s82_117]
    refine W_call (ris_spec (hx0.rd.pur p3) (hx0.tk.pur p3) [114, 101, 97, 100] (by simp)) ?_
    rintro _ K3 ⟨rfl, q3⟩
    refine ⟨q3.1, ?_⟩
    have p4 := p3.trans q3
    have hb4 := q3.get hb3
    have hq4 := q3.get hq3
    cases h3 : isR T s [114, 101, 97, 100] with
    | true =>
     simp only [h3, cond_true] at h
     simp -implicitDefEqProofs (disch := first | assumption | omega | (simp only [nxB]; omega) | (simp only [oneB])) only [s82_116, xif_bool, cond_true]
     exact first_read  hx0 p4 hb4 hbb hq4 h
    | false =>
     simp only [h3, cond_false] at h
     simp -implicitDefEqProofs (disch := first | assumption | omega | (simp only [nxB]; omega) | (simp only [oneB])) only [s82_116, xif_bool, cond_false]
     rw [s82_115]
     refine W_call (ris_spec (hx0.rd.pur p4) (hx0.tk.pur p4) [40] (by simp)) ?_
     rintro _ K4 ⟨rfl, q4⟩
     refine ⟨q4.1, ?_⟩
     have p5 := p4.trans q4
     have hb5 := q4.get hb4
     have hq5 := q4.get hq4
     cases h4 : isR T s [40] with
     | true =>
      simp only [h4, cond_true] at h
      simp -implicitDefEqProofs (disch := first | assumption | omega | (simp only [nxB]; omega) | (simp only [oneB])) only [s82_114, xif_bool, cond_true]
      exact first_par ihI hx0 p5 hb5 hbb hq5 h
     | false =>
      simp only [h4, cond_false] at h
      simp -implicitDefEqProofs (disch := first | assumption | omega | (simp only [nxB]; omega) | (simp only [oneB])) only [s82_114, xif_bool, cond_false]
      rw [s82_113]
      exact first_nameR ihA hx0 p5 hb5 hbb hq5 h
theorem first_stepR {n : Nat} (ihF : FreshROk n) (ihI : InnerOk n) (ihA : ArgsOk n) : FirstROk (n + 1) := by
 intro H r T tv s hx e s' h
 refine W_of (fun _ => run82 0) ?_
 have hl := hx.rd.lt
 simp only [firstR] at h
 have p1 := Pur.push H (.row false 11 [[.int .i64 0, .int .i64 0, .str [], .str [], .int .i64 0, .nilSl, .int .i64 0, .int .i64 0, .int .i64 0, .int .i64 0, .int .i64 0]])
 simp -implicitDefEqProofs (disch := first | assumption | omega | (simp only [nxB]; omega) | (simp only [oneB])) only [s82, s82_137, xlen, AV.cells, splice, aload, astore, Nat.reduceAdd, Nat.reduceLeDiff, reduceIte, allB]
 refine W_call (rtok_spec (hx.rd.pur p1) (hx.tk.pur p1)) ?_
 rintro _ H2 ⟨rfl, p2⟩
 refine ⟨p2.1, ?_⟩
 have hb2 := p2.get (AHeap.get_push_same H _)
 have hl2 := AHeap.get_lt hb2
 simp -implicitDefEqProofs (disch := first | assumption | omega | (simp only [nxB]; omega) | (simp only [oneB])) only [s82_136, s82_135, xlen, AV.cells, splice, aload, astore, Nat.reduceAdd, Nat.reduceLeDiff, reduceIte, allB, Tok.v]
 have p3 := p2.then_push (.row false 4 [[.int .i64 (tokAt T s.at_).kind, .str (tokAt T s.at_).text, .int .i64 (tokAt T s.at_).n, .int .i64 (tokAt T s.at_).pos]])
 have hq3 := AHeap.get_push_same H2 (.row false 4 [[.int .i64 (tokAt T s.at_).kind, .str (tokAt T s.at_).text, .int .i64 (tokAt T s.at_).n, .int .i64 (tokAt T s.at_).pos]])
 have hb3 := p3.get (AHeap.get_push_same H _)
 have p13 := p1.trans p3
 rw [s82_134]
 refine W_call (rok_spec (hx.rd.pur p13)) ?_
 rintro _ H4 ⟨rfl, rfl⟩
 refine ⟨Nat.le_refl _, ?_⟩
 have rest : (s.fe == 0 && (tokAt T s.at_).kind == 2) = false → W (s82_128 (evw P) (H2.push (.row false 4 [[.int .i64 (tokAt T s.at_).kind, .str (tokAt T s.at_).text, .int .i64 (tokAt T s.at_).n, .int .i64 (tokAt T s.at_).pos]])) (.ptr r 0 0) (.ptr H.next 0 0) (.ptr H2.next 0 0)) (QostE H r T tv e s') := by
  intro hn
  simp only [hn, cond_false] at h
  rw [s82_128]
  refine W_call (ris_spec (hx.rd.pur p13) (hx.tk.pur p13) [116, 114, 117, 101] (by simp)) ?_
  rintro _ H5 ⟨rfl, p5⟩
  refine ⟨p5.1, ?_⟩
  have p15 := p13.trans p5
  have hb5 := p5.get hb3
  have hq5 := p5.get hq3
  cases h1 : isR T s [116, 114, 117, 101] with
  | true =>
   simp only [h1, Bool.true_or, cond_true] at h
   simp -implicitDefEqProofs (disch := first | assumption | omega | (simp only [nxB]; omega) | (simp only [oneB])) only [s82_127, s82_124, s82_j1, xif_bool, cond_true]
   exact first_bool hx p15 hb5 (by omega) hq5 h
  | false =>
   simp only [h1, Bool.false_or] at h
   simp -implicitDefEqProofs (disch := first | assumption | omega | (simp only [nxB]; omega) | (simp only [oneB])) only [s82_127, s82_126, xif_bool, cond_false]
   refine W_call (ris_spec (hx.rd.pur p15) (hx.tk.pur p15) [102, 97, 108, 115, 101] (by simp)) ?_
   rintro _ H6 ⟨rfl, p6⟩
   refine ⟨p6.1, ?_⟩
   have p16 := p15.trans p6
   have hb6 := p6.get hb5
   have hq6 := p6.get hq5
   cases h2 : isR T s [102, 97, 108, 115, 101] with
   | true =>
    simp only [h2, cond_true] at h
    simp -implicitDefEqProofs (disch := first | assumption | omega | (simp only [nxB]; omega) | (simp only [oneB])) only [s82_125, s82_j1, xif_bool, cond_true]
    exact first_bool hx p16 hb6 (by omega) hq6 h
   | false =>
    simp only [h2, cond_false] at h
    simp -implicitDefEqProofs (disch := first | assumption | omega | (simp only [nxB]; omega) | (simp only [oneB])) only [s82_125, s82_j1, xif_bool, cond_false]
    exact first_rest ihF ihI ihA hx p16 hb6 (by omega) hq6 h
 cases hfe : s.fe == 0 with
 | false =>
  simp -implicitDefEqProofs (disch := first | assumption | omega | (simp only [nxB]; omega) | (simp only [oneB])) only [s82_133, s82_132, s82_131, s82_130, s82_129, xlen, AV.cells, splice, aload, astore, Nat.reduceAdd, Nat.reduceLeDiff, reduceIte, allB]
  exact rest (by simp [hfe])
 | true =>
  cases hk : (tokAt T s.at_).kind == 2 with
  | true =>
   simp only [hfe, hk, Bool.and_self, cond_true] at h
   simp -implicitDefEqProofs (disch := first | assumption | omega | (simp only [nxB]; omega) | (simp only [oneB])) only [s82_133, s82_132, s82_131, s82_130, s82_129, xlen, AV.cells, splice, aload, astore, Nat.reduceAdd, Nat.reduceLeDiff, reduceIte, allB, hk]
   exact first_num hx p13 hb3 (by omega) hq3 h
  | false =>
   simp -implicitDefEqProofs (disch := first | assumption | omega | (simp only [nxB]; omega) | (simp only [oneB])) only [s82_133, s82_132, s82_131, s82_130, s82_129, xlen, AV.cells, splice, aload, astore, Nat.reduceAdd, Nat.reduceLeDiff, reduceIte, allB, hk]
   exact rest (by simp [hfe, hk])
theorem all_okR : ∀ n, n ≤ 900000000 → ∀ k, k ≤ n → AllROk k
 | 0, _, k, hk => by
  have : k = 0 := by omega
  subst this
  exact ⟨fun _ _ _ _ _ h => by simp [exprR] at h, fun _ _ _ h => by simp [unaryR] at h, fun _ _ _ _ _ _ h => by simp [behindR] at h, fun _ _ _ h => by simp [innerR] at h, fun _ _ _ h => by simp [firstR] at h,
   fun _ _ _ _ h => by simp [freshR] at h, fun _ _ _ h => by simp [argsR] at h⟩
 | n + 1, hn, k, hk => by
  have ih := all_okR n (by omega)
  have i := ih n (Nat.le_refl _)
  rcases Nat.lt_or_ge k (n + 1) with h | h
  ·exact ih k (by omega)
  ·have : k = n + 1 := by omega
   subst this
   exact ⟨expr_step (fun k hk => (ih k hk).expr) i.unary, unary_stepR (fun k hk => (ih k hk).expr) i.first i.behind, behind_step fun k hk => (ih k hk).expr, inner_step i.expr, first_stepR i.fresh i.inner i.args, fresh_stepR i.inner, args_step (by omega) fun k hk => (ih k hk).expr⟩
end Go.Proofs.Ytnjoomfeddamcaa

namespace Go.Proofs.Ytnjoomfeddamcaa
open Go.Ev
theorem bd75_3 (tv : AV) (h1 : tv.one = true) (a b : Int) : abuild P 75 [(0, tv), (1, .int .i64 a), (2, .int .i64 b)] = some (.agg [tv, .int .i64 a, .int .i64 b, .int .i64 0, .int .i64 0]) := by
 cases tv <;> first | (cases h1; done) | kernel_rfl
theorem bd75_2 (tv : AV) (h1 : tv.one = true) (a : Int) : abuild P 75 [(0, tv), (1, .int .i64 a)] = some (.agg [tv, .int .i64 a, .int .i64 0, .int .i64 0, .int .i64 0]) := by
 cases tv <;> first | (cases h1; done) | kernel_rfl
theorem Expr_spec {n : Nat} (hn : n ≤ 900000000) {H : AHeap} {T : List Tok} {tv : AV} (ht : TokSl H tv T) (at_ opn : Int) {e : Ex} {s' : St} (h : exprR T n 0 (startS at_ opn) = some (e, s')) :
  W (evw P 20 [tv, .int .i64 at_, .int .i64 opn] H) fun v H' => ∃ ev, v = .tuple [ev, .int .i64 (parseS e s').2.1, .agg [.int .i64 (parseS e s').2.2.1, .int .i64 (parseS e s').2.2.2]] ∧ ExV H' (Ge H.next) (parseS e s').1 ev ∧ Pur H H' := by
 refine W_of (fun _ => run20 0) ?_
 have ho1 := ht.one
 have p1 := (Pur.push H (.row false 11 [[.int .i64 0, .int .i64 0, .str [], .str [], .int .i64 0, .nilSl, .int .i64 0, .int .i64 0, .int .i64 0, .int .i64 0, .int .i64 0]])).then_push (.row false 2 [[.int .i64 0, .int .i64 0]])
 have hbd := bd75_3 tv ho1 at_ (if opn < 0 then 0 else opn)
 have hbx : ∀ l, boxOf l (.agg [tv, .int .i64 at_, .int .i64 (if opn < 0 then 0 else opn), .int .i64 0, .int .i64 0]) = some (.ptr l 0 0, .row false 5 [[tv, .int .i64 at_, .int .i64 (if opn < 0 then 0 else opn), .int .i64 0, .int .i64 0]]) := fun l => boxOf_agg l _ (by simp only [List.all_cons, List.all_nil, one_int, ho1, Bool.and_self])
 simp -implicitDefEqProofs (disch := first | assumption | omega | (simp only [nxB]; omega) | (simp only [oneB])) only [s20, xlen, AV.cells, splice, aload, astore, Nat.reduceAdd, Nat.reduceLeDiff, reduceIte, allB, mx3, hbd, hbx]
 have hH3 := AHeap.get_push_same (H.push (.row false 11 [[.int .i64 0, .int .i64 0, .str [], .str [], .int .i64 0, .nilSl, .int .i64 0, .int .i64 0, .int .i64 0, .int .i64 0, .int .i64 0]])) (.row false 2 [[.int .i64 0, .int .i64 0]])
 have hn3 : ((H.push (.row false 11 [[.int .i64 0, .int .i64 0, .str [], .str [], .int .i64 0, .nilSl, .int .i64 0, .int .i64 0, .int .i64 0, .int .i64 0, .int .i64 0]])).push (.row false 2 [[.int .i64 0, .int .i64 0]])).next = H.next + 2 := by simp only [AHeap.next_push]
 have hb6 : ((H.push (.row false 11 [[.int .i64 0, .int .i64 0, .str [], .str [], .int .i64 0, .nilSl, .int .i64 0, .int .i64 0, .int .i64 0, .int .i64 0, .int .i64 0]])).push (.row false 2 [[.int .i64 0, .int .i64 0]])).get H.next = some (.row false 11 [[.int .i64 0, .int .i64 0, .str [], .str [], .int .i64 0, .nilSl, .int .i64 0, .int .i64 0, .int .i64 0, .int .i64 0, .int .i64 0]]) := by simp -implicitDefEqProofs (disch := first | assumption | omega | (simp only [nxB]; omega) | (simp only [oneB])) only [heapB]
 have hb8 : ((H.push (.row false 11 [[.int .i64 0, .int .i64 0, .str [], .str [], .int .i64 0, .nilSl, .int .i64 0, .int .i64 0, .int .i64 0, .int .i64 0, .int .i64 0]])).push (.row false 2 [[.int .i64 0, .int .i64 0]])).get (H.next + 1) = some (.row false 2 [[.int .i64 0, .int .i64 0]]) := by simp -implicitDefEqProofs (disch := first | assumption | omega | (simp only [nxB]; omega) | (simp only [oneB])) only [heapB]
 rw [← hn3]
 generalize (H.push (.row false 11 [[.int .i64 0, .int .i64 0, .str [], .str [], .int .i64 0, .nilSl, .int .i64 0, .int .i64 0, .int .i64 0, .int .i64 0, .int .i64 0]])).push (.row false 2 [[.int .i64 0, .int .i64 0]]) = H3 at p1 hb6 hb8 hn3 ⊢
 have p4 := Pur.push H3 (.row false 5 [[tv, .int .i64 at_, .int .i64 (if opn < 0 then 0 else opn), .int .i64 0, .int .i64 0]])
 have p5 := p1.trans p4
 have hx4 : Ry (H3.push (.row false 5 [[tv, .int .i64 at_, .int .i64 (if opn < 0 then 0 else opn), .int .i64 0, .int .i64 0]])) H3.next T tv (startS at_ opn) :=
  ⟨AHeap.get_push_same _ _, ht.pur p5⟩
 refine W_call ((all_okR n hn n (Nat.le_refl _)).expr hx4 0 (by omega) e s' h) ?_
 rintro v H5 ⟨m5, hx5, he5⟩
 refine ⟨m5.1, ?_⟩
 have hm5 := m5.1
 simp only [AHeap.next_push] at hm5 he5
 obtain ⟨cs, rfl, hlen, hone⟩ := he5.cells
 have htk : List.take 11 cs = cs := List.take_of_length_le (by omega)
 simp -implicitDefEqProofs (disch := first | assumption | omega | (simp only [nxB]; omega) | (simp only [oneB])) only [s20, xlen, AV.cells, splice, aload, astore, Nat.reduceAdd, Nat.reduceLeDiff, reduceIte, allB, hlen, hone, List.append_nil]
 have p6 := Pur.push H5 (.row false 11 [cs])
 refine W_call (rok_spec (hx5.rd.pur p6)) ?_
 rintro _ H8 ⟨rfl, rfl⟩
 refine ⟨Nat.le_refl _, ?_⟩
 have hr := hx5.rd.pur p6
 unfold Rd5 at hr
 have hr5 := hx5.rd
 unfold Rd5 at hr5
 have hb65 := m5.get (p4.get hb6) (by omega)
 have hb85 := m5.get (p4.get hb8) (by omega)
 have l6 := AHeap.get_lt hb65
 have l8 := AHeap.get_lt hb85
 have pf : Pur H H5 := ⟨by have := p5.1; simp only [AHeap.next_push] at this; omega, fun l hl => by rw [m5.2 l (by simp only [AHeap.next_push]; omega) (by omega)]; exact p5.2 l hl⟩
 by_cases hf : s'.fe = 0
 ·have hf' : (s'.fe == 0) = true := by simpa using hf
  rw [show parseS e s' = (e, s'.at_, 0, 0) by simp [parseS, hf]]
  simp -implicitDefEqProofs (disch := first | assumption | omega | (simp only [nxB]; omega) | (simp only [oneB])) only [s20, xlen, AV.cells, splice, aload, astore, Nat.reduceAdd, Nat.reduceLeDiff, reduceIte, allB, hf', Bool.not_true, Bool.not_false, hr, hr5, hb65, hb85, hlen, hone, List.append_nil, htk, Bool.and_true]
  refine W_some.2 ⟨_, rfl, ?_, ?_⟩
  ·exact he5.new (Mut.then_set (S := fun l => l < _) (Mut.then_set (S := fun l => l < _) ((Mut.refl _ _).then_push _) (.inl (by omega)) _) (.inl (by omega)) _) fun l h => by unfold Ge; omega
  ·exact ((pf.then_push _).then_set (Nat.le_refl _) _).then_set (by omega) _
 ·have hf' : (s'.fe == 0) = false := by simpa using hf
  rw [show parseS e s' = (.zero, 0, s'.fe, s'.fa) by simp [parseS, hf]]
  have hrd25 : rdIs (some (.agg [.int .i64 s'.fe, .int .i64 s'.fa])) (.agg [.int .i64 s'.fe, .int .i64 s'.fa]) = true := by simp [rdIs, AV.beq, AVs.beq]
  simp -implicitDefEqProofs (disch := first | assumption | omega | (simp only [nxB]; omega) | (simp only [oneB])) only [s20, xlen, AV.cells, splice, aload, astore, Nat.reduceAdd, Nat.reduceLeDiff, reduceIte, allB, hf', Bool.not_true, Bool.not_false, hr, hr5, hb65, hb85, hrd25, Bool.and_true]
  refine W_some.2 ⟨_, rfl, ExV.leaf _ _ { kind := 0 }, ?_⟩
  exact ((pf.then_push _).then_set (Nat.le_refl _) _).then_set (by omega) _
theorem ROf_spec {H : AHeap} {T : List Tok} {tv : AV} (ht : TokSl H tv T) (at_ : Int) :
  W (evw P 19 [tv, .int .i64 at_] H) fun v H' => v = .tuple [.agg [.str (ofP (ofR T ⟨at_, 0, 0, 0⟩)).1.1, .int .i64 (ofP (ofR T ⟨at_, 0, 0, 0⟩)).1.2], .int .i64 (ofP (ofR T ⟨at_, 0, 0, 0⟩)).2.1, .agg [.int .i64 (ofP (ofR T ⟨at_, 0, 0, 0⟩)).2.2.1, .int .i64 (ofP (ofR T ⟨at_, 0, 0, 0⟩)).2.2.2]] ∧ Pur H H' := by
 refine W_of (fun _ => run19 0) ?_
 have ho1 := ht.one
 generalize hq : ofR T ⟨at_, 0, 0, 0⟩ = q
 have p1 := (Pur.push H (.row false 2 [[.str [], .int .i64 0]])).then_push (.row false 2 [[.int .i64 0, .int .i64 0]])
 have hbd := bd75_2 tv ho1 at_
 have hbx : ∀ l, boxOf l (.agg [tv, .int .i64 at_, .int .i64 0, .int .i64 0, .int .i64 0]) = some (.ptr l 0 0, .row false 5 [[tv, .int .i64 at_, .int .i64 0, .int .i64 0, .int .i64 0]]) := fun l => boxOf_agg l _ (by simp only [List.all_cons, List.all_nil, one_int, ho1, Bool.and_self])
 simp -implicitDefEqProofs (disch := first | assumption | omega | (simp only [nxB]; omega) | (simp only [oneB])) only [s19, xlen, AV.cells, splice, aload, astore, Nat.reduceAdd, Nat.reduceLeDiff, reduceIte, allB, hbd, hbx]
 have p4 := p1.then_push (.row false 5 [[tv, .int .i64 at_, .int .i64 0, .int .i64 0, .int .i64 0]])
 have hx4 : Ry (((H.push (.row false 2 [[.str [], .int .i64 0]])).push (.row false 2 [[.int .i64 0, .int .i64 0]])).push (.row false 5 [[tv, .int .i64 at_, .int .i64 0, .int .i64 0, .int .i64 0]])) (H.next + 2) T tv ⟨at_, 0, 0, 0⟩ :=
  ⟨AHeap.get_push_eq (by simp only [AHeap.next_push]; omega) (by simp only [AHeap.next_push]; omega), ht.pur p4⟩
 refine W_call (rof_spec hx4) ?_
 rintro _ H5 ⟨rfl, m5, hx5⟩
 refine ⟨m5.1, ?_⟩
 rw [hq] at hx5 ⊢
 have hm5 := m5.1
 simp only [AHeap.next_push] at hm5
 simp -implicitDefEqProofs (disch := first | assumption | omega | (simp only [nxB]; omega) | (simp only [oneB])) only [s19, xlen, AV.cells, splice, aload, astore, Nat.reduceAdd, Nat.reduceLeDiff, reduceIte, allB]
 have p6 := Pur.push H5 (.row false 2 [[.str q.1.1, .int .i64 q.1.2]])
 refine W_call (rok_spec (hx5.rd.pur p6)) ?_
 rintro _ H8 ⟨rfl, rfl⟩
 refine ⟨Nat.le_refl _, ?_⟩
 have hr := hx5.rd.pur p6
 unfold Rd5 at hr
 have hr5 := hx5.rd
 unfold Rd5 at hr5
 have hb65 : H5.get H.next = some (.row false 2 [[.str [], .int .i64 0]]) := m5.get (by simp -implicitDefEqProofs (disch := first | assumption | omega | (simp only [nxB]; omega) | (simp only [oneB])) only [heapB]) (by omega)
 have hb85 : H5.get (H.next + 1) = some (.row false 2 [[.int .i64 0, .int .i64 0]]) := m5.get (by simp -implicitDefEqProofs (disch := first | assumption | omega | (simp only [nxB]; omega) | (simp only [oneB])) only [heapB]) (by omega)
 have l6 := AHeap.get_lt hb65
 have l8 := AHeap.get_lt hb85
 have pf : Pur H H5 := ⟨by omega, fun l hl => by rw [m5.2 l (by simp only [AHeap.next_push]; omega) (by omega)]; exact p4.2 l hl⟩
 by_cases hf : q.2.fe = 0
 ·have hf' : (q.2.fe == 0) = true := by simpa using hf
  rw [show ofP q = (q.1, q.2.at_, 0, 0) by simp [ofP, hf]]
  simp -implicitDefEqProofs (disch := first | assumption | omega | (simp only [nxB]; omega) | (simp only [oneB])) only [s19, xlen, AV.cells, splice, aload, astore, Nat.reduceAdd, Nat.reduceLeDiff, reduceIte, allB, hf', Bool.not_true, Bool.not_false, hr, hr5, hb65, hb85, List.append_nil, Bool.and_true]
  exact W_some.2 ⟨rfl, ((pf.then_push _).then_set (Nat.le_refl _) _).then_set (by omega) _⟩
 ·have hf' : (q.2.fe == 0) = false := by simpa using hf
  rw [show ofP q = (([], 0), 0, q.2.fe, q.2.fa) by simp [ofP, hf]]
  have hrd25 : rdIs (some (.agg [.int .i64 q.2.fe, .int .i64 q.2.fa])) (.agg [.int .i64 q.2.fe, .int .i64 q.2.fa]) = true := by simp [rdIs, AV.beq, AVs.beq]
  simp -implicitDefEqProofs (disch := first | assumption | omega | (simp only [nxB]; omega) | (simp only [oneB])) only [s19, xlen, AV.cells, splice, aload, astore, Nat.reduceAdd, Nat.reduceLeDiff, reduceIte, allB, hf', Bool.not_true, Bool.not_false, hr, hr5, hb65, hb85, hrd25, Bool.and_true]
  exact W_some.2 ⟨rfl, ((pf.then_push _).then_set (Nat.le_refl _) _).then_set (by omega) _⟩
end Go.Proofs.Ytnjoomfeddamcaa

namespace Go.Proofs.Ytnjoomfeddamcaa
open Go.Ev
theorem map_and2 (x y : Bool) : Option.map AV.bool (bif x then (bif y then some true else some false) else some false) = some (.bool (x && y)) := by cases x <;> cases y <;> rfl
theorem map_and3 (x y z : Bool) : Option.map AV.bool (bif x then (bif y then (bif z then some true else some false) else some false) else some false) = some (.bool (x && (y && z))) := by cases x <;> cases y <;> cases z <;> rfl
theorem eq32 {c : Bool} (a a' : List UInt8) (b b' : Int) : fbin P .eql 32 c (.agg [.str a, .int .i64 b]) (.agg [.str a', .int .i64 b']) = some (.bool (a == a' && b == b')) :=
 Eq.trans (by kernel_rfl) (map_and2 (a == a') (b == b'))
theorem eq25 {c : Bool} (a a' : Int) (b b' : Int) : fbin P .eql 25 c (.agg [.int .i64 a, .int .i64 b]) (.agg [.int .i64 a', .int .i64 b']) = some (.bool (a == a' && b == b')) :=
 Eq.trans (by kernel_rfl) (map_and2 (a == a') (b == b'))
theorem eq37 {c : Bool} (a a' : Int) (b b' : Int) (d d' : Int) : fbin P .eql 37 c (.agg [.int .i64 a, .int .i64 b, .int .i64 d]) (.agg [.int .i64 a', .int .i64 b', .int .i64 d']) = some (.bool (a == a' && (b == b' && d == d'))) :=
 Eq.trans (by kernel_rfl) (map_and3 (a == a') (b == b') (d == d'))
theorem rdIs3 (a b c : Int) : rdIs (some (.agg [.int .i64 a, .int .i64 b, .int .i64 c])) (.agg [.int .i64 a, .int .i64 b, .int .i64 c]) = true := by simp [rdIs, AV.beq, AVs.beq]
mutual
def sameE : Ex → Ex → Bool
 | .mk a ks, .mk b ls => a.kind == b.kind && (a.n == b.n && (a.name == b.name && ((a.ofn == b.ofn && a.ofd == b.ofd) && ((a.tb == b.tb && (a.tr == b.tr && a.td == b.td)) && (a.ref == b.ref && sameL ks ls)))))
def sameL : List Ex → List Ex → Bool
 | [], [] => true
 | [], _ :: _ => false
 | _ :: _, [] => false
 | e :: es, f :: fs => sameE e f && sameL es fs
end
mutual
def Sm (B : Nat) : Ex → Prop
 | .mk _ ks => ks.length ≤ B ∧ SmL B ks
def SmL (B : Nat) : List Ex → Prop
 | [] => True
 | e :: es => Sm B e ∧ SmL B es
end
theorem sameL_length : ∀ (es fs : List Ex), es.length ≠ fs.length → sameL es fs = false
 | [], [], h => absurd rfl h
 | [], _ :: _, _ => by rw [sameL]
 | _ :: _, [], _ => by rw [sameL]
 | e :: es, f :: fs, h => by rw [sameL, sameL_length es fs (by simpa using h), Bool.and_false]
theorem KsV.oneAV {H : AHeap} {ok : Nat → Prop} {ks : List Ex} {kv : AV} (h : KsV H ok ks kv) : kv.one = true := by
 rcases h with ⟨rfl, _⟩ | ⟨l, i, cap, ro, els, rfl, _⟩ | ⟨l, i, cap, rfl, _⟩ <;> rfl
theorem KsV.pur {H H' : AHeap} {ok : Nat → Prop} {ks : List Ex} {kv : AV} (h : KsV H ok ks kv) (p : Pur H H') : KsV H' ok ks kv := h.keep (Keep.pur p fun _ h => h)
theorem ExV.pur {H H' : AHeap} {ok : Nat → Prop} {e : Ex} {v : AV} (h : ExV H ok e v) (p : Pur H H') : ExV H' ok e v := ExV.keep (Keep.pur p fun _ h => h) e v h
theorem ElsV.cons {H : AHeap} {ok : Nat → Prop} {e : Ex} {es : List Ex} {els : List (List AV)} {k : Nat} (h : ElsV H ok (e :: es) (els.drop k)) : ∃ cs, els[k]? = some cs ∧ ExV H ok e (.agg cs) ∧ ElsV H ok es (els.drop (k + 1)) := by
 cases hd : els.drop k with
 | nil => rw [hd, ElsV] at h; exact h.elim
 | cons cs css =>
  rw [hd, ElsV] at h
  have h1 : els[k]? = some cs := by
   have := List.getElem?_drop (xs := els) (i := k) (j := 0)
   rw [hd] at this
   simpa using this.symm
  have h2 : els.drop (k + 1) = css := by
   have : (els.drop k).drop 1 = css := by rw [hd]; rfl
   rwa [List.drop_drop] at this
  exact ⟨cs, h1, h.1, by rw [h2]; exact h.2⟩
theorem same22 {H : AHeap} {a b : Ea} {ks ls : List Ex} {kv lv : AV} (h1 : kv.one = true) (h2 : lv.one = true)
  (hl : ∀ H', Pur H H' → W (evw P 42 [kv, lv] H') fun r H'' => r = .bool (sameL ks ls) ∧ Pur H' H'') :
  W (evw P 22 [.agg (a.cells kv), .agg (b.cells lv)] H) fun r H' => r = .bool (sameE (.mk a ks) (.mk b ls)) ∧ Pur H H' := by
 refine W_of (fun _ => run22 0) ?_
 have hb1 : ∀ l, boxOf l (.agg (a.cells kv)) = some (.ptr l 0 0, .row false 11 [a.cells kv]) := fun l => boxOf_agg l _ (by simp only [Ea.cells, List.all_cons, List.all_nil, one_int, one_str, h1, Bool.and_self])
 have hb2 : ∀ l, boxOf l (.agg (b.cells lv)) = some (.ptr l 0 0, .row false 11 [b.cells lv]) := fun l => boxOf_agg l _ (by simp only [Ea.cells, List.all_cons, List.all_nil, one_int, one_str, h2, Bool.and_self])
 have p2 := (Pur.push H (.row false 11 [a.cells kv])).then_push (.row false 11 [b.cells lv])
 rw [sameE]
 simp only [Ea.cells] at hb1 hb2 p2 ⊢
 cases c0 : a.kind == b.kind with
 | false =>
  simp -implicitDefEqProofs (disch := first | assumption | omega | (simp only [nxB]; omega) | (simp only [oneB])) only [s22, xlen, AV.cells, splice, aload, astore, Nat.reduceAdd, Nat.reduceLeDiff, reduceIte, allB, hb1, hb2, eq32, eq37, rdIs3, c0]
  exact W_some.2 ⟨by simp only [Bool.false_and, Bool.and_false], p2⟩
 | true =>
  cases c1 : a.n == b.n with
  | false =>
   simp -implicitDefEqProofs (disch := first | assumption | omega | (simp only [nxB]; omega) | (simp only [oneB])) only [s22, xlen, AV.cells, splice, aload, astore, Nat.reduceAdd, Nat.reduceLeDiff, reduceIte, allB, hb1, hb2, eq32, eq37, rdIs3, c0, c1]
   exact W_some.2 ⟨by simp only [Bool.false_and, Bool.and_false], p2⟩
  | true =>
   cases c2 : a.name == b.name with
   | false =>
    simp -implicitDefEqProofs (disch := first | assumption | omega | (simp only [nxB]; omega) | (simp only [oneB])) only [s22, xlen, AV.cells, splice, aload, astore, Nat.reduceAdd, Nat.reduceLeDiff, reduceIte, allB, hb1, hb2, eq32, eq37, rdIs3, c0, c1, c2]
    exact W_some.2 ⟨by simp only [Bool.false_and, Bool.and_false], p2⟩
   | true =>
    cases c3 : (a.ofn == b.ofn && a.ofd == b.ofd) with
    | false =>
     simp -implicitDefEqProofs (disch := first | assumption | omega | (simp only [nxB]; omega) | (simp only [oneB])) only [s22, xlen, AV.cells, splice, aload, astore, Nat.reduceAdd, Nat.reduceLeDiff, reduceIte, allB, hb1, hb2, eq32, eq37, rdIs3, c0, c1, c2, c3]
     exact W_some.2 ⟨by simp only [Bool.false_and, Bool.and_false], p2⟩
    | true =>
     cases c4 : (a.tb == b.tb && (a.tr == b.tr && a.td == b.td)) with
     | false =>
      simp -implicitDefEqProofs (disch := first | assumption | omega | (simp only [nxB]; omega) | (simp only [oneB])) only [s22, xlen, AV.cells, splice, aload, astore, Nat.reduceAdd, Nat.reduceLeDiff, reduceIte, allB, hb1, hb2, eq32, eq37, rdIs3, c0, c1, c2, c3, c4]
      exact W_some.2 ⟨by simp only [Bool.false_and, Bool.and_false], p2⟩
     | true =>
      cases c5 : a.ref == b.ref with
      | false =>
       simp -implicitDefEqProofs (disch := first | assumption | omega | (simp only [nxB]; omega) | (simp only [oneB])) only [s22, xlen, AV.cells, splice, aload, astore, Nat.reduceAdd, Nat.reduceLeDiff, reduceIte, allB, hb1, hb2, eq32, eq37, rdIs3, c0, c1, c2, c3, c4, c5]
       exact W_some.2 ⟨by simp only [Bool.false_and, Bool.and_false], p2⟩
      | true =>
       simp -implicitDefEqProofs (disch := first | assumption | omega | (simp only [nxB]; omega) | (simp only [oneB])) only [s22, xlen, AV.cells, splice, aload, astore, Nat.reduceAdd, Nat.reduceLeDiff, reduceIte, allB, hb1, hb2, eq32, eq37, rdIs3, c0, c1, c2, c3, c4, c5]
       refine W_eff (hl _ p2) ?_
       rintro _ H3 ⟨rfl, p3⟩
       refine ⟨p3.1, ?_⟩
       simp -implicitDefEqProofs (disch := first | assumption | omega | (simp only [nxB]; omega) | (simp only [oneB])) only [s22, xlen, evB]
       exact W_some.2 ⟨by simp only [Bool.true_and], p2.trans p3⟩
theorem same24 {H : AHeap} {a b : Ea} {ks ls : List Ex} {kv lv : AV} (h1 : kv.one = true) (h2 : lv.one = true)
  (hl : ∀ H', Pur H H' → W (evw P 43 [kv, lv, .func (.func 24) [] []] H') fun r H'' => r = .bool (sameL ks ls) ∧ Pur H' H'') :
  W (evw P 24 [.agg (a.cells kv), .agg (b.cells lv)] H) fun r H' => r = .bool (sameE (.mk a ks) (.mk b ls)) ∧ Pur H H' := by
 refine W_of (fun _ => run24 0) ?_
 have hb1 : ∀ l, boxOf l (.agg (a.cells kv)) = some (.ptr l 0 0, .row false 11 [a.cells kv]) := fun l => boxOf_agg l _ (by simp only [Ea.cells, List.all_cons, List.all_nil, one_int, one_str, h1, Bool.and_self])
 have hb2 : ∀ l, boxOf l (.agg (b.cells lv)) = some (.ptr l 0 0, .row false 11 [b.cells lv]) := fun l => boxOf_agg l _ (by simp only [Ea.cells, List.all_cons, List.all_nil, one_int, one_str, h2, Bool.and_self])
 have p2 := (Pur.push H (.row false 11 [a.cells kv])).then_push (.row false 11 [b.cells lv])
 rw [sameE]
 simp only [Ea.cells] at hb1 hb2 p2 ⊢
 cases c0 : a.kind == b.kind with
 | false =>
  simp -implicitDefEqProofs (disch := first | assumption | omega | (simp only [nxB]; omega) | (simp only [oneB])) only [s24, xlen, AV.cells, splice, aload, astore, Nat.reduceAdd, Nat.reduceLeDiff, reduceIte, allB, hb1, hb2, eq32, eq37, rdIs3, c0]
  exact W_some.2 ⟨by simp only [Bool.false_and, Bool.and_false], p2⟩
 | true =>
  cases c1 : a.n == b.n with
  | false =>
   simp -implicitDefEqProofs (disch := first | assumption | omega | (simp only [nxB]; omega) | (simp only [oneB])) only [s24, xlen, AV.cells, splice, aload, astore, Nat.reduceAdd, Nat.reduceLeDiff, reduceIte, allB, hb1, hb2, eq32, eq37, rdIs3, c0, c1]
   exact W_some.2 ⟨by simp only [Bool.false_and, Bool.and_false], p2⟩
  | true =>
   cases c2 : a.name == b.name with
   | false =>
    simp -implicitDefEqProofs (disch := first | assumption | omega | (simp only [nxB]; omega) | (simp only [oneB])) only [s24, xlen, AV.cells, splice, aload, astore, Nat.reduceAdd, Nat.reduceLeDiff, reduceIte, allB, hb1, hb2, eq32, eq37, rdIs3, c0, c1, c2]
    exact W_some.2 ⟨by simp only [Bool.false_and, Bool.and_false], p2⟩
   | true =>
    cases c3 : (a.ofn == b.ofn && a.ofd == b.ofd) with
    | false =>
     simp -implicitDefEqProofs (disch := first | assumption | omega | (simp only [nxB]; omega) | (simp only [oneB])) only [s24, xlen, AV.cells, splice, aload, astore, Nat.reduceAdd, Nat.reduceLeDiff, reduceIte, allB, hb1, hb2, eq32, eq37, rdIs3, c0, c1, c2, c3]
     exact W_some.2 ⟨by simp only [Bool.false_and, Bool.and_false], p2⟩
    | true =>
     cases c4 : (a.tb == b.tb && (a.tr == b.tr && a.td == b.td)) with
     | false =>
      simp -implicitDefEqProofs (disch := first | assumption | omega | (simp only [nxB]; omega) | (simp only [oneB])) only [s24, xlen, AV.cells, splice, aload, astore, Nat.reduceAdd, Nat.reduceLeDiff, reduceIte, allB, hb1, hb2, eq32, eq37, rdIs3, c0, c1, c2, c3, c4]
      exact W_some.2 ⟨by simp only [Bool.false_and, Bool.and_false], p2⟩
     | true =>
      cases c5 : a.ref == b.ref with
      | false =>
       simp -implicitDefEqProofs (disch := first | assumption | omega | (simp only [nxB]; omega) | (simp only [oneB])) only [s24, xlen, AV.cells, splice, aload, astore, Nat.reduceAdd, Nat.reduceLeDiff, reduceIte, allB, hb1, hb2, eq32, eq37, rdIs3, c0, c1, c2, c3, c4, c5]
       exact W_some.2 ⟨by simp only [Bool.false_and, Bool.and_false], p2⟩
      | true =>
       simp -implicitDefEqProofs (disch := first | assumption | omega | (simp only [nxB]; omega) | (simp only [oneB])) only [s24, xlen, AV.cells, splice, aload, astore, Nat.reduceAdd, Nat.reduceLeDiff, reduceIte, allB, hb1, hb2, eq32, eq37, rdIs3, c0, c1, c2, c3, c4, c5]
       refine W_eff (hl _ p2) ?_
       rintro _ H3 ⟨rfl, p3⟩
       refine ⟨p3.1, ?_⟩
       simp -implicitDefEqProofs (disch := first | assumption | omega | (simp only [nxB]; omega) | (simp only [oneB])) only [s24, xlen, evB]
       exact W_some.2 ⟨by simp only [Bool.true_and], p2.trans p3⟩
end Go.Proofs.Ytnjoomfeddamcaa

namespace Go.Proofs.Ytnjoomfeddamcaa
open Go.Ev
theorem KsV.cnt {H : AHeap} {ok : Nat → Prop} {ks : List Ex} {x : AV} (hx : KsV H ok ks x) (H' : AHeap) : abuiltin P H' .len [35] [x] = some (.int .i64 ks.length) := by
 rcases hx with ⟨rfl, e1⟩ | ⟨l1, i1, c1, r1, el1, rfl, _⟩ | ⟨l1, i1, c1, rfl, e1⟩
 ·rw [e1]; exact ln35n
 ·exact ln35
 ·rw [e1]; exact ln35
theorem KsV.row {H : AHeap} {ok : Nat → Prop} {ks : List Ex} {x : AV} (hx : KsV H ok ks x) (h : ¬ ks.length = 0) : ∃ l i cap ro els, x = .sl l i ks.length 11 cap ∧ ok l ∧ H.get l = some (.row ro 11 els) ∧ ElsV H ok ks (els.drop i) := by
 rcases hx with ⟨_, e1⟩ | h1 | ⟨_, _, _, _, e1⟩
 ·exact absurd e1 h
 ·exact h1
 ·exact absurd e1 h
def SameOk (F : Nat) (B : Nat) (e : Ex) : Prop := Sm B e → ∀ (f : Ex) (v w : AV) (H : AHeap) (ok ok' : Nat → Prop), ExV H ok e v → ExV H ok' f w → W (evw P F [v, w] H) fun r H' => r = .bool (sameE e f) ∧ Pur H H'
theorem SmL.mem {B : Nat} : ∀ {es : List Ex}, SmL B es → ∀ e ∈ es, Sm B e
 | [], _, e, he => by simp at he
 | x :: xs, h, e, he => by
  rw [SmL] at h
  rcases List.mem_cons.1 he with rfl | he
  ·exact h.1
  ·exact SmL.mem h.2 e he
theorem Ex.sizeOf_kid {a : Ea} {ks : List Ex} {e : Ex} (h : e ∈ ks) : SizeOf.sizeOf e < SizeOf.sizeOf (Ex.mk a ks) := by
 have := List.sizeOf_lt_of_mem h
 simp only [Ex.mk.sizeOf_spec]
 omega
theorem loop42 {N B : Nat} {kl ki ll li : Nat} {kc lc : Option Nat} {kro lro : Bool} {kels lels : List (List AV)} {ok ok' : Nat → Prop} : ∀ (es fs : List Ex) (j kn n : Nat) (H : AHeap), (∀ e ∈ es, SameOk 22 B e) → SmL B es → ElsV H ok es (kels.drop (ki + j)) → ElsV H ok' fs (lels.drop (li + j)) → es.length = fs.length → kn = j + es.length → kn ≤ 1000000000000 → H.get kl = some (.row kro 11 kels) → H.get ll = some (.row lro 11 lels) → es.length < n →
  W (s42_l1 (evw P) N n (.sl kl ki kn 11 kc) (.sl ll li kn 11 lc) (.int .i64 j) H) fun r H' => r = .bool (sameL es fs) ∧ Pur H H'
 | _, _, _, _, 0, _, _, _, _, _, _, _, _, _, _, hn => by omega
 | [], [], j, kn, n + 1, H, hs, hsm, h1, h2, h3, h4, h5, h6, h7, hn => by
  have hj : ¬ ((j : Int) < (kn : Int)) := by simp at h4; omega
  simp -implicitDefEqProofs (disch := first | assumption | omega | (simp only [nxB]; omega) | (simp only [oneB])) only [s42_l1, s42_j0, s42_b1, s42, xlen, AV.cells, splice, aload, astore, Nat.reduceAdd, Nat.reduceLeDiff, reduceIte, allB, hj, decide_false]
  exact W_some.2 ⟨by rw [sameL], .refl _⟩
 | [], _ :: _, j, kn, n + 1, H, hs, hsm, h1, h2, h3, h4, h5, h6, h7, hn => by simp at h3
 | _ :: _, [], j, kn, n + 1, H, hs, hsm, h1, h2, h3, h4, h5, h6, h7, hn => by simp at h3
 | e :: es, f :: fs, j, kn, n + 1, H, hs, hsm, h1, h2, h3, h4, h5, h6, h7, hn => by
  simp only [List.length_cons] at h3 h4 hn
  have hj : (j : Int) < (kn : Int) := by omega
  have h0 : (0 : Int) ≤ (j : Int) := by omega
  have ht : ((j : Int)).toNat = j := by omega
  obtain ⟨cs, g1, g2, g3⟩ := h1.cons
  obtain ⟨ds, g4, g5, g6⟩ := h2.cons
  obtain ⟨_, q1, q2, q3⟩ := g2.cells
  cases q1
  obtain ⟨_, q4, q5, q6⟩ := g5.cells
  cases q4
  have tk1 : List.take 11 cs = cs := List.take_of_length_le (by omega)
  have tk2 : List.take 11 ds = ds := List.take_of_length_le (by omega)
  have l1 := AHeap.get_lt h6
  have l2 := AHeap.get_lt h7
  rw [SmL] at hsm
  have hw : IntKind.i64.wrap ((j : Int) + 1) = ((j + 1 : Nat) : Int) := by rw [wrap_i64 (by omega) (by omega)]; omega
  simp -implicitDefEqProofs (disch := first | assumption | omega | (simp only [nxB]; omega) | (simp only [oneB])) only [s42_l1, s42_j0, s42_b1, s42, xlen, AV.cells, splice, aload, astore, Nat.reduceAdd, Nat.reduceLeDiff, reduceIte, allB, hj, decide_true, ht, h6, h7, g1, g4, tk1, tk2]
  refine W_call (hs e (by simp) hsm.1 f _ _ _ ok ok' g2 g5) ?_
  rintro _ H2 ⟨rfl, p2⟩
  refine ⟨p2.1, ?_⟩
  cases hc : sameE e f with
  | false =>
   simp -implicitDefEqProofs (disch := first | assumption | omega | (simp only [nxB]; omega) | (simp only [oneB])) only [s42_j0, s42_b1, s42, xlen, evB, Bool.not_false]
   exact W_some.2 ⟨by rw [sameL, hc, Bool.false_and], p2⟩
  | true =>
   simp -implicitDefEqProofs (disch := first | assumption | omega | (simp only [nxB]; omega) | (simp only [oneB])) only [s42_j0, s42_b1, s42, xlen, evB, binB, Bool.not_true, hw]
   refine (loop42 es fs (j + 1) kn n H2 (fun e' he' => hs e' (by simp [he'])) hsm.2 (ElsV.keep (Keep.pur p2 fun _ h => h) _ _ g3) (ElsV.keep (Keep.pur p2 fun _ h => h) _ _ g6) (by omega) (by omega) h5 (p2.get h6) (p2.get h7) (by omega)).mono ?_
   rintro v H' ⟨rfl, q⟩
   exact ⟨by rw [sameL, hc, Bool.true_and], p2.trans q⟩
theorem list42 {B : Nat} (hB : B ≤ 1000000000000) {H : AHeap} {ok ok' : Nat → Prop} {ks ls : List Ex} {kv lv : AV} (hs : ∀ e ∈ ks, SameOk 22 B e) (hsm : ks.length ≤ B ∧ SmL B ks) (h1 : KsV H ok ks kv) (h2 : KsV H ok' ls lv) : W (evw P 42 [kv, lv] H) fun r H' => r = .bool (sameL ks ls) ∧ Pur H H' := by
 refine W_of (fun _ => run42 (ks.length + 1)) ?_
 have neq : ∀ m k : Nat, m ≠ k → ((m : Int) != (k : Int)) = true := fun m k h => by simp; omega
 have neq' : ∀ m : Nat, ((m : Int) != (m : Int)) = false := fun m => by simp
 have z0 : ((0 : Nat) : Int) = 0 := rfl
 have c1 := h1.cnt
 have c2 := h2.cnt
 by_cases hn : ks.length = ls.length
 ·by_cases hz : ks.length = 0
  ·have hz2 : ls.length = 0 := by omega
   obtain rfl := List.length_eq_zero_iff.1 hz
   obtain rfl := List.length_eq_zero_iff.1 hz2
   simp -implicitDefEqProofs (disch := first | assumption | omega | (simp only [nxB]; omega) | (simp only [oneB])) only [s42_l1, s42_j0, s42_b1, s42, xlen, AV.cells, splice, aload, astore, Nat.reduceAdd, Nat.reduceLeDiff, reduceIte, allB, c1, c2, List.length_nil, z0, bne_self_eq_false, Int.lt_irrefl, decide_false]
   exact W_some.2 ⟨by rw [sameL], .refl _⟩
  ·obtain ⟨l1, i1, k1, r1, el1, rfl, o1, g1, w1⟩ := h1.row hz
   obtain ⟨l2, i2, k2, r2, el2, rfl, o2, g2, w2⟩ := h2.row (by omega)
   rw [← hn]
   simp -implicitDefEqProofs (disch := first | assumption | omega | (simp only [nxB]; omega) | (simp only [oneB])) only [s42_j0, s42, xlen, evB, tabB, binB, neq' ks.length]
   exact loop42 ks ls 0 ks.length (ks.length + 1) H hs hsm.2 w1 w2 hn (by omega) (by omega) g1 g2 (by omega)
 ·have hn' := neq _ _ hn
  simp -implicitDefEqProofs (disch := first | assumption | omega | (simp only [nxB]; omega) | (simp only [oneB])) only [s42_j0, s42_b1, s42, xlen, evB, binB, c1, c2, hn']
  exact W_some.2 ⟨by rw [sameL_length _ _ hn], .refl _⟩
theorem spec22 {B : Nat} (hB : B ≤ 1000000000000) : ∀ (e : Ex), SameOk 22 B e
 | .mk a ks => by
  intro hsm f v w H ok ok' h1 h2
  cases f with | mk b ls =>
  rw [ExV_mk] at h1 h2
  obtain ⟨kv, rfl, h1⟩ := h1
  obtain ⟨lv, rfl, h2⟩ := h2
  rw [Sm] at hsm
  have hs : ∀ e ∈ ks, SameOk 22 B e := fun e he => spec22 hB e
  exact same22 h1.oneAV h2.oneAV fun H' p => list42 hB hs hsm (h1.pur p) (h2.pur p)
 termination_by e => SizeOf.sizeOf e
 decreasing_by exact Ex.sizeOf_kid he
theorem loop43 {N B : Nat} {kl ki ll li : Nat} {kc lc : Option Nat} {kro lro : Bool} {kels lels : List (List AV)} {ok ok' : Nat → Prop} : ∀ (es fs : List Ex) (j kn n : Nat) (H : AHeap), (∀ e ∈ es, SameOk 24 B e) → SmL B es → ElsV H ok es (kels.drop (ki + j)) → ElsV H ok' fs (lels.drop (li + j)) → es.length = fs.length → kn = j + es.length → kn ≤ 1000000000000 → H.get kl = some (.row kro 11 kels) → H.get ll = some (.row lro 11 lels) → es.length < n →
  W (s43_l1 (evw P) N n (.sl ll li kn 11 lc) (.func (.func 24) [] []) (.sl kl ki kn 11 kc) (.int .i64 kn) (.int .i64 j) H) fun r H' => r = .bool (sameL es fs) ∧ Pur H H'
 | _, _, _, _, 0, _, _, _, _, _, _, _, _, _, _, hn => by omega
 | [], [], j, kn, n + 1, H, hs, hsm, h1, h2, h3, h4, h5, h6, h7, hn => by
  have hj : ¬ ((j : Int) < (kn : Int)) := by simp at h4; omega
  simp -implicitDefEqProofs (disch := first | assumption | omega | (simp only [nxB]; omega) | (simp only [oneB])) only [s43_l1, s43_j0, s43_b1, s43, xlen, AV.cells, splice, aload, astore, Nat.reduceAdd, Nat.reduceLeDiff, reduceIte, allB, hj, decide_false]
  exact W_some.2 ⟨by rw [sameL], .refl _⟩
 | [], _ :: _, j, kn, n + 1, H, hs, hsm, h1, h2, h3, h4, h5, h6, h7, hn => by simp at h3
 | _ :: _, [], j, kn, n + 1, H, hs, hsm, h1, h2, h3, h4, h5, h6, h7, hn => by simp at h3
 | e :: es, f :: fs, j, kn, n + 1, H, hs, hsm, h1, h2, h3, h4, h5, h6, h7, hn => by
  simp only [List.length_cons] at h3 h4 hn
  have hj : (j : Int) < (kn : Int) := by omega
  have h0 : (0 : Int) ≤ (j : Int) := by omega
  have ht : ((j : Int)).toNat = j := by omega
  obtain ⟨cs, g1, g2, g3⟩ := h1.cons
  obtain ⟨ds, g4, g5, g6⟩ := h2.cons
  obtain ⟨_, q1, q2, q3⟩ := g2.cells
  cases q1
  obtain ⟨_, q4, q5, q6⟩ := g5.cells
  cases q4
  have tk1 : List.take 11 cs = cs := List.take_of_length_le (by omega)
  have tk2 : List.take 11 ds = ds := List.take_of_length_le (by omega)
  have l1 := AHeap.get_lt h6
  have l2 := AHeap.get_lt h7
  rw [SmL] at hsm
  have hw : IntKind.i64.wrap ((j : Int) + 1) = ((j + 1 : Nat) : Int) := by rw [wrap_i64 (by omega) (by omega)]; omega
  simp -implicitDefEqProofs (disch := first | assumption | omega | (simp only [nxB]; omega) | (simp only [oneB])) only [s43_l1, s43_j0, s43_b1, s43, xlen, AV.cells, splice, aload, astore, Nat.reduceAdd, Nat.reduceLeDiff, reduceIte, allB, hj, decide_true, ht, h6, h7, g1, g4, tk1, tk2, q2, q3, q5, q6, List.append_nil]
  have p1 := (Pur.push H (.row false 11 [cs])).then_push (.row false 11 [ds])
  refine W_apply ?_
  refine W_call (hs e (by simp) hsm.1 f _ _ _ ok ok' (g2.pur p1) (g5.pur p1)) ?_
  rintro _ H2 ⟨rfl, p2⟩
  refine ⟨p2.1, ?_⟩
  replace p2 := p1.trans p2
  cases hc : sameE e f with
  | false =>
   simp -implicitDefEqProofs (disch := first | assumption | omega | (simp only [nxB]; omega) | (simp only [oneB])) only [s43_j0, s43_b1, s43, xlen, evB, Bool.not_false]
   exact W_some.2 ⟨by rw [sameL, hc, Bool.false_and], p2⟩
  | true =>
   simp -implicitDefEqProofs (disch := first | assumption | omega | (simp only [nxB]; omega) | (simp only [oneB])) only [s43_j0, s43_b1, s43, xlen, evB, binB, Bool.not_true, hw]
   refine (loop43 es fs (j + 1) kn n H2 (fun e' he' => hs e' (by simp [he'])) hsm.2 (ElsV.keep (Keep.pur p2 fun _ h => h) _ _ g3) (ElsV.keep (Keep.pur p2 fun _ h => h) _ _ g6) (by omega) (by omega) h5 (p2.get h6) (p2.get h7) (by omega)).mono ?_
   rintro v H' ⟨rfl, q⟩
   exact ⟨by rw [sameL, hc, Bool.true_and], p2.trans q⟩
theorem list43 {B : Nat} (hB : B ≤ 1000000000000) {H : AHeap} {ok ok' : Nat → Prop} {ks ls : List Ex} {kv lv : AV} (hs : ∀ e ∈ ks, SameOk 24 B e) (hsm : ks.length ≤ B ∧ SmL B ks) (h1 : KsV H ok ks kv) (h2 : KsV H ok' ls lv) : W (evw P 43 [kv, lv, .func (.func 24) [] []] H) fun r H' => r = .bool (sameL ks ls) ∧ Pur H H' := by
 refine W_of (fun _ => run43 (ks.length + 1)) ?_
 have neq : ∀ m k : Nat, m ≠ k → ((m : Int) != (k : Int)) = true := fun m k h => by simp; omega
 have neq' : ∀ m : Nat, ((m : Int) != (m : Int)) = false := fun m => by simp
 have z0 : ((0 : Nat) : Int) = 0 := rfl
 have c1 := h1.cnt
 have c2 := h2.cnt
 by_cases hn : ks.length = ls.length
 ·by_cases hz : ks.length = 0
  ·have hz2 : ls.length = 0 := by omega
   obtain rfl := List.length_eq_zero_iff.1 hz
   obtain rfl := List.length_eq_zero_iff.1 hz2
   simp -implicitDefEqProofs (disch := first | assumption | omega | (simp only [nxB]; omega) | (simp only [oneB])) only [s43_l1, s43_j0, s43_b1, s43, xlen, AV.cells, splice, aload, astore, Nat.reduceAdd, Nat.reduceLeDiff, reduceIte, allB, c1, c2, List.length_nil, z0, bne_self_eq_false, Int.lt_irrefl, decide_false]
   exact W_some.2 ⟨by rw [sameL], .refl _⟩
  ·obtain ⟨l1, i1, k1, r1, el1, rfl, o1, g1, w1⟩ := h1.row hz
   obtain ⟨l2, i2, k2, r2, el2, rfl, o2, g2, w2⟩ := h2.row (by omega)
   rw [← hn]
   simp -implicitDefEqProofs (disch := first | assumption | omega | (simp only [nxB]; omega) | (simp only [oneB])) only [s43_j0, s43, xlen, evB, tabB, binB, neq' ks.length]
   exact loop43 ks ls 0 ks.length (ks.length + 1) H hs hsm.2 w1 w2 hn (by omega) (by omega) g1 g2 (by omega)
 ·have hn' := neq _ _ hn
  simp -implicitDefEqProofs (disch := first | assumption | omega | (simp only [nxB]; omega) | (simp only [oneB])) only [s43_j0, s43_b1, s43, xlen, evB, binB, c1, c2, hn']
  exact W_some.2 ⟨by rw [sameL_length _ _ hn], .refl _⟩
theorem spec24 {B : Nat} (hB : B ≤ 1000000000000) : ∀ (e : Ex), SameOk 24 B e
 | .mk a ks => by
  intro hsm f v w H ok ok' h1 h2
  cases f with | mk b ls =>
  rw [ExV_mk] at h1 h2
  obtain ⟨kv, rfl, h1⟩ := h1
  obtain ⟨lv, rfl, h2⟩ := h2
  rw [Sm] at hsm
  have hs : ∀ e ∈ ks, SameOk 24 B e := fun e he => spec24 hB e
  exact same24 h1.oneAV h2.oneAV fun H' p => list43 hB hs hsm (h1.pur p) (h2.pur p)
 termination_by e => SizeOf.sizeOf e
 decreasing_by exact Ex.sizeOf_kid he
end Go.Proofs.Ytnjoomfeddamcaa

namespace Go.Proofs.Ytnjoomfeddamcaa
open Go.Ev
theorem Sm.leaf {B : Nat} (a : Ea) : Sm B (.mk a []) := by rw [Sm, SmL]; exact ⟨Nat.zero_le _, trivial⟩
theorem Sm.one {B : Nat} (hB : 2 ≤ B) (a : Ea) {e : Ex} (h : Sm B e) : Sm B (.mk a [e]) := by
 rw [Sm, SmL, SmL]; exact ⟨by simp; omega, h, trivial⟩
theorem Sm.two {B : Nat} (hB : 2 ≤ B) (a : Ea) {e f : Ex} (h : Sm B e) (h' : Sm B f) : Sm B (.mk a [e, f]) := by
 rw [Sm, SmL, SmL, SmL]; exact ⟨by simp; omega, h, h', trivial⟩
theorem SmL.append {B : Nat} {e : Ex} (h : Sm B e) : ∀ {l : List Ex}, SmL B l → SmL B (l ++ [e])
 | [], _ => by simp only [List.nil_append]; rw [SmL, SmL]; exact ⟨h, trivial⟩
 | x :: xs, hl => by
  rw [SmL] at hl
  simp only [List.cons_append]
  rw [SmL]; exact ⟨hl.1, SmL.append h hl.2⟩
structure SmAll (T : List Tok) (B n : Nat) : Prop where
 row : ∀ lev s p, rowF T n lev s = some p → Sm B p.1
 rowL : ∀ lev e s p, Sm B e → rowL T n lev e s = some p → Sm B p.1
 unary : ∀ s p, unaryF T n s = some p → Sm B p.1
 sign : ∀ x k s p, signF T n x k s = some p → Sm B p.1
 chain : ∀ s p, chainF T n s = some p → Sm B p.1
 chainL : ∀ e s p, Sm B e → chainL T n e s = some p → Sm B p.1
 single : ∀ b c s p, singleF T n b c s = some p → Sm B p.1
 first : ∀ s p, firstF T n s = some p → Sm B p.1
 name : ∀ s p, nameF T n s = some p → Sm B p.1
 fresh : ∀ s p, freshF T n s = some p → Sm B p.1
 list : ∀ s p, listF T n s = some p → p.1.length ≤ B ∧ SmL B p.1
 listL : ∀ l s p, l.length + n ≤ B → SmL B l → listL T n l s = some p → p.1.length ≤ B ∧ SmL B p.1
theorem bindS {α β : Type} {x : Option α} {f : α → Option β} {b : β} (h : x.bind f = some b) : ∃ a, x = some a ∧ f a = some b := Option.bind_eq_some_iff.1 h
theorem sm_all (T : List Tok) (B : Nat) : ∀ n, n + 2 ≤ B → SmAll T B n
 | 0, _ => by
  constructor <;> intros <;> rename_i h <;> cases h
 | n + 1, hB => by
  have ih := sm_all T B n (by omega)
  have h2 : 2 ≤ B := by omega
  refine ⟨?_, ?_, ?_, ?_, ?_, ?_, ?_, ?_, ?_, ?_, ?_, ?_⟩
  ·intro lev s p h
   simp only [rowF] at h
   split at h
   ·exact ih.unary _ _ h
   ·obtain ⟨q, g1, g2⟩ := bindS h
    exact ih.rowL _ _ _ _ (ih.row _ _ _ g1) g2
  ·intro lev e s p he h
   simp only [Go.Proofs.Ytnjoomfeddamcaa.rowL] at h
   split at h
   ·cases h; exact he
   ·obtain ⟨q, g1, g2⟩ := bindS h
    exact ih.rowL _ _ _ _ (Sm.two h2 _ he (ih.row _ _ _ g1)) g2
  ·intro s p h
   simp only [unaryF, Bool.cond_eq_ite] at h
   split at h
   ·exact ih.sign _ _ _ _ h
   ·split at h
    ·exact ih.sign _ _ _ _ h
    ·exact ih.chain _ _ h
  ·intro x k s p h
   simp only [signF, Bool.cond_eq_ite] at h
   split at h
   ·obtain ⟨q, g1, g2⟩ := bindS h
    cases g2
    exact Sm.one h2 _ (ih.unary _ _ g1)
   ·cases h; exact Sm.leaf _
  ·intro s p h
   simp only [chainF] at h
   obtain ⟨q, g1, g2⟩ := bindS h
   exact ih.chainL _ _ _ (ih.first _ _ g1) g2
  ·intro e s p he h
   simp only [Go.Proofs.Ytnjoomfeddamcaa.chainL, Bool.cond_eq_ite] at h
   split at h
   ·split at h
    ·exact ih.chainL _ _ _ (Sm.one h2 _ he) h
    ·split at h
     ·obtain ⟨q, g1, g2⟩ := bindS h
      exact ih.chainL _ _ _ (Sm.two h2 _ he (ih.single _ _ _ _ g1)) g2
     ·cases h; exact he
   ·cases h; exact he
  ·intro b c s p h
   simp only [singleF, Bool.cond_eq_ite] at h
   split at h
   ·obtain ⟨q, g1, g2⟩ := bindS h
    cases g2
    exact ih.row _ _ q g1
   ·cases h; exact Sm.leaf _
  ·intro s p h
   simp only [firstF, Bool.cond_eq_ite] at h
   split at h
   ·cases h; exact Sm.leaf _
   ·split at h
    ·cases h; exact Sm.leaf _
    ·split at h
     ·exact ih.name _ _ h
     ·split at h
      ·split at h
       ·split at h
        ·exact ih.single _ _ _ _ h
        ·cases h; exact Sm.leaf _
       ·split at h
        ·cases h; exact Sm.leaf _
        ·split at h
         ·cases h; exact Sm.leaf _
         ·split at h
          ·exact ih.fresh _ _ h
          ·split at h
           ·obtain ⟨q, g1, g2⟩ := bindS h
            cases g2
            exact Sm.one h2 _ (ih.single _ _ _ _ g1)
           ·split at h
            ·cases h; exact Sm.leaf _
            ·cases h; exact Sm.leaf _
      ·cases h; exact Sm.leaf _
  ·intro s p h
   simp only [nameF, Bool.cond_eq_ite] at h
   split at h
   ·obtain ⟨q, g1, g2⟩ := bindS h
    cases g2
    rw [Sm]; exact ih.list _ _ g1
   ·cases h; exact Sm.leaf _
  ·intro s p h
   simp only [freshF, Bool.cond_eq_ite] at h
   split at h
   ·obtain ⟨q, g1, g2⟩ := bindS h
    cases g2
    exact Sm.one h2 _ (ih.single _ _ _ _ g1)
   ·cases h; exact Sm.leaf _
  ·intro s p h
   simp only [listF, Bool.cond_eq_ite] at h
   split at h
   ·split at h
    ·cases h; exact ⟨Nat.zero_le _, by rw [SmL]; trivial⟩
    ·obtain ⟨q, g1, g2⟩ := bindS h
     exact ih.listL _ _ _ (by simp; omega) (by rw [SmL, SmL]; exact ⟨ih.row _ _ _ g1, trivial⟩) g2
   ·cases h; exact ⟨Nat.zero_le _, by rw [SmL]; trivial⟩
  ·intro l s p hl hsm h
   simp only [Go.Proofs.Ytnjoomfeddamcaa.listL, Bool.cond_eq_ite] at h
   split at h
   ·obtain ⟨q, g1, g2⟩ := bindS h
    exact ih.listL _ _ _ (by simp; omega) (SmL.append (ih.row _ _ _ g1) hsm) g2
   ·cases h; exact ⟨by show l.length ≤ B; omega, hsm⟩
end Go.Proofs.Ytnjoomfeddamcaa

namespace Go.Proofs.Ytnjoomfeddamcaa
open Go.Ev
theorem left_le (T : List Tok) (s : St) : left T s ≤ T.length := by unfold left; split <;> omega
theorem both_read {T : List Tok} (hT : T.length ≤ 20000000) (at_ opn : Int) : ∃ e s e' s', rowF T 800000000 0 (startS at_ opn) = some (e, s) ∧ exprR T 800000000 0 (startS at_ opn) = some (e', s') ∧ parseS e' s' = parseS e s ∧ Sm 1000000000 (parseS e s).1 := by
 obtain ⟨p, q, h1, h2, h3, h4⟩ := rows_both (T := T) (by omega) T.length (startS at_ opn) (left_le _ _) 0 800000000 800000000 (by omega) (by omega) (by omega)
 refine ⟨p.1, p.2, q.1, q.2, h1, h2, ?_, ?_⟩
 ·rcases h3 with ⟨h, rfl⟩ | ⟨h, ha, hb⟩
  ·rfl
  ·have h' : ¬ q.2.fe = 0 := by rw [ha]; exact h
   simp only [parseS, if_neg h, if_neg h', ha, hb]
 ·unfold parseS
  split
  ·exact (sm_all T 1000000000 800000000 (by omega)).row _ _ _ h1
  ·exact Sm.leaf _
end Go.Proofs.Ytnjoomfeddamcaa

namespace Go.Proofs.Ytnjoomfeddamcaa
open Go.Ev
def Lv {α : Type} (F : St → R α) : Prop := ∀ s x, F s = some x → x.2.fe = 0 → s.fe = 0 ∧ (0 ≤ s.opn → x.2.opn = s.opn ∧ x.2.fa = s.fa)
def Lv1 (f : St → St) : Prop := ∀ s, (f s).fe = 0 → s.fe = 0 ∧ (f s).opn = s.opn ∧ (f s).fa = s.fa
theorem Lv.bind {α β : Type} {F : St → R α} {G : α → St → R β} (h : Lv F) (hg : ∀ x, Lv (G x)) : Lv fun s => (F s).bind fun p => G p.1 p.2 := by
 intro s x hx hf
 obtain ⟨p, h1, h2⟩ := bindS hx
 obtain ⟨g1, g2⟩ := hg p.1 p.2 x h2 hf
 obtain ⟨f1, f2⟩ := h s p h1 g1
 refine ⟨f1, fun ho => ?_⟩
 obtain ⟨e1, e2⟩ := f2 ho
 obtain ⟨e3, e4⟩ := g2 (by rw [e1]; exact ho)
 exact ⟨e3.trans e1, e4.trans e2⟩
theorem Lv.none {α : Type} {F : St → R α} (h : ∀ s, F s = none) : Lv F := fun s x hx => by rw [h] at hx; cases hx
theorem Lv.of1 {α : Type} {f : St → α × St} (h : Lv1 fun s => (f s).2) : Lv fun s => some (f s) := fun s x hx hf => by
 cases hx
 obtain ⟨h1, h2⟩ := h s hf
 exact ⟨h1, fun _ => h2⟩
theorem Lv1.comp {f g : St → St} (h : Lv1 f) (k : Lv1 g) : Lv1 fun s => g (f s) := fun s hs => by
 obtain ⟨a1, a2, a3⟩ := k _ hs
 obtain ⟨b1, b2, b3⟩ := h _ a1
 exact ⟨b1, a2.trans b2, a3.trans b3⟩
theorem Lv.pre {α : Type} {F : St → R α} {f : St → St} (h : Lv1 f) (k : Lv F) : Lv fun s => F (f s) := fun s x hx hf => by
 obtain ⟨a1, a2⟩ := k _ x hx hf
 obtain ⟨b1, b2, b3⟩ := h s a1
 refine ⟨b1, fun ho => ?_⟩
 obtain ⟨c1, c2⟩ := a2 (by rw [b2]; exact ho)
 exact ⟨c1.trans b2, c2.trans b3⟩
theorem Lv1.go : Lv1 goS := fun s h => ⟨h, rfl, rfl⟩
theorem Lv1.id : Lv1 fun s => s := fun s h => ⟨h, rfl, rfl⟩
variable {T : List Tok}
theorem failS_no {s : St} {e : Int} (he : e ≠ 0) (h : (failS T e s).fe = 0) : False := by
 unfold failS at h
 split at h
 ·exact he h
 ·rename_i hs; exact hs h
theorem Lv1.wants (x : Bs) : Lv1 fun s => (wantsS T x s).2 := fun s h => by
 have h : (wantsS T x s).2.fe = 0 := h
 show s.fe = 0 ∧ (wantsS T x s).2.opn = s.opn ∧ (wantsS T x s).2.fa = s.fa
 cases hb : isB T s 4 x with
 | true =>
  have e : (wantsS T x s).2 = goS s := by simp [wantsS, hb]
  rw [e] at h ⊢
  exact ⟨h, rfl, rfl⟩
 | false =>
  have e : (wantsS T x s).2 = failS T 2 s := by simp [wantsS, hb]
  rw [e] at h
  exact (failS_no (by decide) h).elim
theorem Lv1.wantN (x : Bs) : ∀ n : Nat, Lv1 (wantN T x n)
 | 0 => Lv1.id
 | n + 1 => Lv1.comp (f := fun s => (wantsS T x s).2) (g := Ytnjoomfeddamcaa.wantN T x n) (Lv1.wants x) (Lv1.wantN x n)
theorem lv_ofL : ∀ (n : Nat) (d : Int) (s : St), (∀ d' s', ofL T n d s = .inl (d', s') → s'.fe = 0 → s.fe = 0 ∧ s'.opn = s.opn ∧ s'.fa = s.fa) ∧ ∀ s', ofL T n d s = .inr s' → s'.fe ≠ 0
 | 0, d, s => by
  simp only [ofL]
  cases isB T s 4 [91] with
  | true => exact ⟨fun _ _ h => (by cases h), fun s' h h0 => by cases h; exact failS_no (by decide) h0⟩
  | false => exact ⟨fun _ _ h hf => (by cases h; exact ⟨hf, rfl, rfl⟩), fun _ h => (by cases h)⟩
 | n + 1, d, s => by
  simp only [ofL]
  cases isB T s 4 [91] with
  | true => exact lv_ofL n (d + 1) (goS s)
  | false => exact ⟨fun _ _ h hf => (by cases h; exact ⟨hf, rfl, rfl⟩), fun _ h => (by cases h)⟩
theorem Lv1.of : Lv1 fun s => (ofS T s).2 := fun s h => by
 obtain ⟨i1, i2⟩ := lv_ofL (T := T) 3 0 s
 have h' : (ofS T s).2.fe = 0 := h
 show s.fe = 0 ∧ (ofS T s).2.opn = s.opn ∧ (ofS T s).2.fa = s.fa
 unfold ofS at h' ⊢
 cases hl : ofL T 3 0 s with
 | inr s' => rw [hl] at h'; exact absurd h' (i2 s' hl)
 | inl p =>
  obtain ⟨d, s1⟩ := p
  rw [hl] at h'
  simp only at h' ⊢
  cases hc : ((tokAt T s1.at_).kind != 1 && (!isB T s1 3 [105, 110, 116] && !isB T s1 3 [98, 111, 111, 108])) with
  | true =>
   simp only [ofE, hc, cond_true] at h'
   exact (failS_no (by decide) h').elim
  | false =>
   simp only [ofE, hc, cond_false] at h' ⊢
   obtain ⟨a1, a2, a3⟩ := Lv1.comp Lv1.go (Lv1.wantN [93] d.toNat) s1 h'
   obtain ⟨b1, b2, b3⟩ := i1 d s1 hl a1
   exact ⟨b1, a2.trans b2, a3.trans b3⟩
theorem lv_open {s : St} {x : Bs} (h : (opensS T x s).1 = true) : s.fe = 0 ∧ s.opn < 50 ∧ (opensS T x s).2 = { s with at_ := w64 (s.at_ + 1), opn := w64 (s.opn + 1) } := by
 unfold opensS at h ⊢
 cases hb : isB T s 4 x with
 | false => rw [hb] at h; cases h
 | true =>
  rw [hb] at h
  simp only [cond_true] at h ⊢
  split at h
  ·cases h
  ·rename_i ho
   rw [if_neg ho]
   exact ⟨(isB_kind hb).1, by omega, rfl⟩
theorem lv_noopen {s : St} {x : Bs} (h : (opensS T x s).1 = false) : (opensS T x s).2.fe ≠ 0 := by
 unfold opensS at h ⊢
 cases hb : isB T s 4 x with
 | false => exact fun h0 => failS_no (by decide) h0
 | true =>
  rw [hb] at h
  simp only [cond_true] at h ⊢
  split at h
  ·rename_i ho
   rw [if_pos ho]
   exact fun h0 => failS_no (by decide) h0
  ·cases h
theorem w64_io {o : Int} (h0 : 0 ≤ o) (h1 : o < 50) : w64 (o + 1) = o + 1 ∧ w64 (o + 1 - 1) = o := ⟨wrap_i64 (by omega) (by omega), by rw [show o + 1 - 1 = o by omega]; exact wrap_i64 (by omega) (by omega)⟩
theorem Lv.within {α β : Type} {F : St → R α} {g : St → α → β} {v : β} {w : St → St} {x : Bs} (h : Lv F) (hw : ∀ s, (w s).fe = 0 → s.fe = 0 ∧ (w s).opn = w64 (s.opn - 1) ∧ (w s).fa = s.fa) :
  Lv fun s => bif (opensS T x s).1 then (F (opensS T x s).2).bind fun p => some (g s p.1, w p.2) else some (v, (opensS T x s).2) := by
 intro s y hy hf
 cases ho : (opensS T x s).1 with
 | false =>
  simp only [ho, cond_false, Option.some.injEq] at hy
  subst hy
  exact absurd hf (lv_noopen ho)
 | true =>
  obtain ⟨o1, o2, o3⟩ := lv_open ho
  simp only [ho, cond_true] at hy
  obtain ⟨p, h1, h2⟩ := bindS hy
  simp only [Option.some.injEq] at h2
  subst h2
  obtain ⟨a1, a2, a3⟩ := hw p.2 hf
  obtain ⟨b1, b2⟩ := h _ p h1 a1
  refine ⟨o1, fun h0 => ?_⟩
  obtain ⟨c1, c2⟩ := w64_io h0 o2
  rw [o3] at b2
  obtain ⟨d1, d2⟩ := b2 (by simp only; rw [c1]; omega)
  refine ⟨?_, a3.trans d2⟩
  show (w p.2).opn = s.opn
  rw [a2, d1]
  simp only
  rw [c1, c2]
theorem lv_closes (y : Bs) (s : St) (h : (closesS T y s).2.fe = 0) : s.fe = 0 ∧ (closesS T y s).2.opn = w64 (s.opn - 1) ∧ (closesS T y s).2.fa = s.fa := by
 obtain ⟨a1, a2, a3⟩ := Lv1.wants (T := T) y (outS s) h
 exact ⟨a1, a2, a3⟩
structure LvAll (T : List Tok) (n : Nat) : Prop where
 row : ∀ lev, Lv (rowF T n lev)
 rowL : ∀ lev e, Lv (rowL T n lev e)
 unary : Lv (unaryF T n)
 sign : ∀ x q, Lv (signF T n x q)
 chain : Lv (chainF T n)
 chainL : ∀ e, Lv (chainL T n e)
 single : ∀ x y, Lv (singleF T n x y)
 first : Lv (firstF T n)
 name : Lv (nameF T n)
 fresh : Lv (freshF T n)
 list : Lv (listF T n)
 listL : ∀ l s x, listL T n l s = some x → x.2.fe = 0 → s.fe = 0 ∧ (1 ≤ s.opn ∧ s.opn ≤ 50 → x.2.opn = s.opn - 1 ∧ x.2.fa = s.fa)
theorem Lv.ite {α : Type} {F G : St → R α} (c : St → Bool) (h : Lv F) (k : Lv G) : Lv fun s => bif c s then F s else G s := fun s x hx => by
 cases hc : c s with
 | true => simp only [hc, cond_true] at hx; exact h s x hx
 | false => simp only [hc, cond_false] at hx; exact k s x hx
theorem Lv.bad {α : Type} {v : α} : Lv fun s => some (v, failS T 2 s) := fun s x hx hf => by
 cases hx; exact (failS_no (by decide) hf).elim
theorem Lv.eq {α : Type} {F G : St → R α} (h : Lv F) (e : ∀ s, G s = F s) : Lv G := fun s x hx => h s x (by rw [← e]; exact hx)
theorem lvAll (T : List Tok) : ∀ n, LvAll T n
 | 0 => by
  refine ⟨?_, ?_, ?_, ?_, ?_, ?_, ?_, ?_, ?_, ?_, ?_, ?_⟩
  all_goals intros
  all_goals first | exact Lv.none fun _ => rfl | (rename_i h _; cases h)
 | n + 1 => by
  have ih := lvAll T n
  refine ⟨fun lev => ?_, fun lev e => ?_, ?_, fun x q => ?_, ?_, fun e => ?_, fun x y => ?_, ?_, ?_, ?_, ?_, fun l => ?_⟩
  ·by_cases h5 : lev = 5
   ·exact ih.unary.eq fun s => by rw [rowF, if_pos h5]
   ·exact (Lv.bind (ih.row (lev + 1)) fun e => ih.rowL lev e).eq fun s => by rw [rowF, if_neg h5]
  ·intro s x hx hf
   rw [rowL] at hx
   by_cases hk : kindS T lev s = 0
   ·rw [if_pos hk] at hx; cases hx; exact ⟨hf, fun _ => ⟨rfl, rfl⟩⟩
   ·rw [if_neg hk] at hx
    exact Lv.pre Lv1.go (Lv.bind (ih.row (lev + 1)) fun b => ih.rowL lev (.mk { kind := kindS T lev s, pos := (tokAt T s.at_).pos } [e, b])) s x hx hf
  ·exact (Lv.ite (fun s => isB T s 4 [45]) (ih.sign [45] 12) (Lv.ite (fun s => isB T s 4 [33]) (ih.sign [33] 13) ih.chain)).eq fun s => by rw [unaryF]
  ·exact (Lv.within (T := T) (x := x) (g := fun s a => .mk { kind := q, pos := (tokAt T s.at_).pos } [a]) (v := Ex.zero) (w := outS) ih.unary fun s h => ⟨h, rfl, rfl⟩).eq fun s => by rw [signF]
  ·exact (Lv.bind ih.first fun e => ih.chainL e).eq fun s => by rw [chainF]
  ·intro s x hx hf
   rw [chainL] at hx
   cases hc : (s.fe == 0 && (tokAt T s.at_).kind == 4) with
   | false => simp only [hc, cond_false, Option.some.injEq] at hx; subst hx; exact ⟨hf, fun _ => ⟨rfl, rfl⟩⟩
   | true =>
    simp only [hc, cond_true] at hx
    cases hd : (tokAt T s.at_).text == [46] with
    | true =>
     simp only [hd, cond_true] at hx
     obtain ⟨a1, a2⟩ := ih.chainL _ _ x hx hf
     have hfl : (fieldS T e s).2.fe = 0 → s.fe = 0 ∧ (fieldS T e s).2.opn = s.opn ∧ (fieldS T e s).2.fa = s.fa := by
      unfold fieldS
      cases hk : ((tokAt T (goS s).at_).kind != 1) with
      | true => exact fun h => (failS_no (T := T) (s := goS s) (e := 2) (by decide) h).elim
      | false => exact fun h => ⟨h, rfl, rfl⟩
     obtain ⟨b1, b2, b3⟩ := hfl a1
     refine ⟨b1, fun ho => ?_⟩
     obtain ⟨c1, c2⟩ := a2 (by rw [b2]; exact ho)
     exact ⟨c1.trans b2, c2.trans b3⟩
    | false =>
     simp only [hd, cond_false] at hx
     cases hd2 : (tokAt T s.at_).text == [91] with
     | true =>
      simp only [hd2, cond_true] at hx
      exact Lv.bind (ih.single [91] [93]) (fun b => ih.chainL (.mk { kind := 6, pos := (tokAt T s.at_).pos } [e, b])) s x hx hf
     | false => simp only [hd2, cond_false, Option.some.injEq] at hx; subst hx; exact ⟨hf, fun _ => ⟨rfl, rfl⟩⟩
  ·exact (Lv.within (T := T) (x := x) (g := fun _ a => a) (v := Ex.zero) (w := fun s => (closesS T y s).2) (ih.row 0) (lv_closes y)).eq fun s => by rw [singleF]
  ·intro s x hx hf
   rw [firstF] at hx
   by_cases hfe : s.fe = 0
   ·rw [if_neg (by simp [hfe])] at hx
    by_cases k2 : (tokAt T s.at_).kind = 2
    ·rw [if_pos k2] at hx; cases hx; exact ⟨hf, fun _ => ⟨rfl, rfl⟩⟩
    ·rw [if_neg k2] at hx
     by_cases k1 : (tokAt T s.at_).kind = 1
     ·rw [if_pos k1] at hx; exact ih.name s x hx hf
     ·rw [if_neg k1] at hx
      by_cases k34 : (tokAt T s.at_).kind = 3 ∨ (tokAt T s.at_).kind = 4
      ·rw [if_pos k34] at hx
       have htruth : Lv fun s => some (truthS T s) := Lv.of1 fun s h => ⟨h, rfl, rfl⟩
       have hnull : Lv fun s => some (nullS T s) := Lv.of1 (Lv1.comp Lv1.go (Lv1.of (T := T)))
       have hread : Lv fun s => some (readS T s) := by
        refine Lv.eq (F := fun s => (fun s => bif (opensS T [40] s).1 then (some ((), (opensS T [40] s).2)).bind fun p => some ((), (closesS T [41] p.2).2) else some ((), (opensS T [40] s).2)) (goS s) |>.bind fun p => some (.mk { kind := 11, pos := (tokAt T s.at_).pos } [], p.2)) ?_ fun s => ?_
        ·intro s y hy hyf
         obtain ⟨p, p1, p2⟩ := bindS hy
         cases p2
         exact Lv.pre Lv1.go (Lv.within (T := T) (x := [40]) (F := fun s => some ((), s)) (g := fun _ _ => ()) (v := ()) (w := fun s => (closesS T [41] s).2) (fun s z hz hzf => by cases hz; exact ⟨hzf, fun _ => ⟨rfl, rfl⟩⟩) (lv_closes [41])) s p p1 hyf
        ·simp only [readS]
         cases (opensS T [40] (goS s)).1 <;> rfl
       have hlen : Lv fun s => (singleF T n [40] [41] (goS s)).bind fun p => some (Ex.mk { kind := 10, pos := (tokAt T s.at_).pos } [p.1], p.2) := by
        intro s y hy hyf
        obtain ⟨p, p1, p2⟩ := bindS hy
        cases p2
        exact Lv.pre Lv1.go (ih.single [40] [41]) s p p1 hyf
       exact Lv.ite (fun s => (tokAt T s.at_).kind == 4) (Lv.ite (fun s => (tokAt T s.at_).text == [40]) (ih.single [40] [41]) Lv.bad)
        (Lv.ite (fun s => (tokAt T s.at_).text == [116, 114, 117, 101] || (tokAt T s.at_).text == [102, 97, 108, 115, 101]) htruth (Lv.ite (fun s => (tokAt T s.at_).text == [110, 117, 108, 108]) hnull
         (Lv.ite (fun s => (tokAt T s.at_).text == [110, 101, 119]) ih.fresh (Lv.ite (fun s => (tokAt T s.at_).text == [108, 101, 110]) hlen (Lv.ite (fun s => (tokAt T s.at_).text == [114, 101, 97, 100]) hread Lv.bad))))) s x hx hf
      ·rw [if_neg k34] at hx; exact Lv.bad s x hx hf
   ·rw [if_pos (by simpa using hfe)] at hx; cases hx; exact absurd hf hfe
  ·intro s x hx hf
   rw [nameF] at hx
   cases hb : isB T (goS s) 4 [40] with
   | true =>
    simp only [hb, cond_true] at hx
    obtain ⟨p, p1, p2⟩ := bindS hx
    cases p2
    exact Lv.pre Lv1.go ih.list s p p1 hf
   | false => simp only [hb, cond_false, Option.some.injEq] at hx; subst hx; exact Lv1.go s hf |>.imp id fun h _ => h
  ·intro s x hx hf
   rw [freshF] at hx
   cases hb : isB T (goS s) 4 [91] with
   | true =>
    simp only [hb, cond_true] at hx
    obtain ⟨p, p1, p2⟩ := bindS hx
    cases p2
    exact Lv.pre (Lv1.comp (Lv1.comp (Lv1.comp Lv1.go Lv1.go) (Lv1.of (T := T))) (Lv1.wants (T := T) [93])) (ih.single [40] [41]) s p p1 hf
   | false =>
    simp only [hb, cond_false, Option.some.injEq] at hx
    subst hx
    cases hk : ((tokAt T (goS s).at_).kind != 1) with
    | true =>
     simp only [hk, cond_true] at hf
     exact (failS_no (T := T) (s := goS s) (e := 2) (by decide) hf).elim
    | false => simp only [hk, cond_false] at hf ⊢; exact ⟨hf, fun _ => ⟨rfl, rfl⟩⟩
  ·intro s x hx hf
   rw [listF] at hx
   cases ho : (opensS T [40] s).1 with
   | false => simp only [ho, cond_false, Option.some.injEq] at hx; subst hx; exact absurd hf (lv_noopen ho)
   | true =>
    obtain ⟨o1, o2, o3⟩ := lv_open ho
    simp only [ho, cond_true] at hx
    cases hb : isB T (opensS T [40] s).2 4 [41] with
    | true =>
     simp only [hb, cond_true, Option.some.injEq] at hx
     subst hx
     obtain ⟨a1, a2, a3⟩ := lv_closes [41] _ hf
     refine ⟨o1, fun h0 => ?_⟩
     obtain ⟨c1, c2⟩ := w64_io h0 o2
     rw [o3] at a2 a3
     simp only [c1] at a2 a3
     rw [c2] at a2
     rw [o3]
     simp only [c1]
     exact ⟨a2, a3⟩
    | false =>
     simp only [hb, cond_false] at hx
     obtain ⟨p, p1, p2⟩ := bindS hx
     obtain ⟨a1, a2⟩ := ih.listL [p.1] p.2 x p2 hf
     obtain ⟨b1, b2⟩ := ih.row 0 _ p p1 a1
     refine ⟨o1, fun h0 => ?_⟩
     obtain ⟨c1, c2⟩ := w64_io h0 o2
     rw [o3] at b2
     simp only [c1] at b2
     obtain ⟨d1, d2⟩ := b2 (by omega)
     obtain ⟨e1, e2⟩ := a2 (by rw [d1]; omega)
     exact ⟨by rw [e1, d1]; omega, e2.trans d2⟩
  ·intro s x hx hf
   rw [listL] at hx
   cases ht : (takesS T 4 [44] s).1 with
   | false =>
    simp only [ht, cond_false, Option.some.injEq] at hx
    subst hx
    have hts : (takesS T 4 [44] s).2 = s := by
     unfold takesS at ht ⊢
     cases hb : isB T s 4 [44] with
     | true => rw [hb] at ht; cases ht
     | false => rfl
    simp only [hts] at hf ⊢
    obtain ⟨a1, a2, a3⟩ := lv_closes [41] s hf
    exact ⟨a1, fun h => ⟨by rw [a2]; exact wrap_i64 (by omega) (by omega), a3⟩⟩
   | true =>
    simp only [ht, cond_true] at hx
    obtain ⟨p, p1, p2⟩ := bindS hx
    have hts : (takesS T 4 [44] s).2 = goS s := by
     unfold takesS at ht ⊢
     cases hb : isB T s 4 [44] with
     | true => rfl
     | false => rw [hb] at ht; cases ht
    rw [hts] at p1
    obtain ⟨a1, a2⟩ := ih.listL _ p.2 x p2 hf
    obtain ⟨b1, b2⟩ := ih.row 0 _ p p1 a1
    refine ⟨b1, fun h => ?_⟩
    obtain ⟨d1, d2⟩ := b2 (by show (0 : Int) ≤ s.opn; omega)
    have d1' : p.2.opn = s.opn := d1
    obtain ⟨e1, e2⟩ := a2 (by rw [d1']; exact h)
    exact ⟨by rw [e1, d1'], e2.trans d2⟩
end Go.Proofs.Ytnjoomfeddamcaa

namespace Go.Proofs.Ytnjoomfeddamcaa
open Go.Ev
def rep4 (a : Bs) : Nat → Bs
 | 0 => []
 | n + 1 => rep4 a n ++ a
theorem rep4_len (a : Bs) : ∀ n, (rep4 a n).length = n * a.length
 | 0 => by simp [rep4]
 | n + 1 => by simp [rep4, rep4_len a n, Nat.succ_mul]
def deepA4 (b : Bool) : Bs := bif b then [119, 104, 105, 108, 101, 32, 98, 32, 123] else [105, 102, 32, 98, 32, 123]
def deepW4 (b : Bool) : Bs := bif b then [119, 104, 105, 108, 101] else [105, 102]
def tk4 (b : Bool) (n i : Nat) : Tok := if i < 3 * n then (if i % 3 = 0 then ⟨3, deepW4 b, 0, (i / 3 * (deepA4 b).length : Nat)⟩ else if i % 3 = 1 then ⟨1, [98], 0, (i / 3 * (deepA4 b).length + (deepW4 b).length + 1 : Nat)⟩ else ⟨4, [123], 0, (i / 3 * (deepA4 b).length + (deepA4 b).length - 1 : Nat)⟩)
 else if i < 4 * n then ⟨4, [125], 0, (n * (deepA4 b).length + (i - 3 * n) : Nat)⟩ else ⟨0, [], 0, (n * (deepA4 b).length + n : Nat)⟩
def Tok.enc4 (t : Tok) : Int × Bs × Int × Int := (t.kind, t.text, t.n, t.pos)
theorem Tok.enc4_inj {a b : Tok} (h : a.enc4 = b.enc4) : a = b := by
 obtain ⟨a1, a2, a3, a4⟩ := a
 obtain ⟨b1, b2, b3, b4⟩ := b
 simp only [Tok.enc4, Prod.mk.injEq] at h
 obtain ⟨rfl, rfl, rfl, rfl⟩ := h
 rfl
theorem enc4_list : ∀ {l m : List Tok}, l.map Tok.enc4 = m.map Tok.enc4 → l = m
 | [], [], _ => rfl
 | [], _ :: _, h => by simp at h
 | _ :: _, [], h => by simp at h
 | a :: l, b :: m, h => by
  simp only [List.map_cons, List.cons.injEq] at h
  rw [Tok.enc4_inj h.1, enc4_list h.2]
def deepOk4 (b : Bool) (n : Nat) : Bool := (tokensS (rep4 (deepA4 b) n ++ rep4 [125] n)).1.map Tok.enc4 == ((List.range (4 * n + 1)).map (tk4 b n)).map Tok.enc4
theorem deep4_all : ((List.range 61).all fun n => deepOk4 true n && deepOk4 false n) = true := by decide +kernel
theorem deep4_toks (b : Bool) {n : Nat} (hn : n ≤ 60) : (tokensS (rep4 (deepA4 b) n ++ rep4 [125] n)).1 = (List.range (4 * n + 1)).map (tk4 b n) := by
 have h := List.all_eq_true.1 deep4_all n (List.mem_range.2 (by omega))
 rw [Bool.and_eq_true] at h
 refine enc4_list ?_
 cases b with
 | true => simpa [deepOk4] using h.1
 | false => simpa [deepOk4] using h.2
end Go.Proofs.Ytnjoomfeddamcaa

