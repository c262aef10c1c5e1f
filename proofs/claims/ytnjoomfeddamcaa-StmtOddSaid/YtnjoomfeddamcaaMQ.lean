/-
  Texts of one proof, laid together: ShV Ds O3 StmtOdd.
-/
import Derived.Test.YtnjoomfeddamcaaMD
import Derived.Test.YtnjoomfeddamcaaMF
import Derived.Test.YtnjoomfeddamcaaMH
import Derived.Test.YtnjoomfeddamcaaML
import Derived.Test.YtnjoomfeddamcaaMM
import Derived.Test.YtnjoomfeddamcaaMK
import Derived.Test.YtnjoomfeddamcaaRows
set_option linter.unusedVariables false
set_option linter.unusedSimpArgs false
namespace Go.Proofs.Ytnjoomfeddamcaa
open Go.Ev
set_option maxRecDepth 100000
noncomputable section
def s14_j0 (G : CallT) (x0 x5 : AV) (x9 x10 x11 : AV) (H : AHeap) : O :=
 xb (aload P H 25 x10) fun x66 =>
 xb (aindexAddr P 48 x5 x0) fun x70 =>
 xb (aload P H 3 x70) fun x71 =>
 xb (abuild P 25 [(0, x11), (1, x71)]) fun x72 =>
 xb (fbin P .eql 25 false x66 x72) fun x73 =>
 xguard x73 true (qv x9) fun k_ =>
 xguard x73 true (qp (fbin P .eql 3 true k_.val (.int .i64 0))) fun k__1 =>
 xb (pickOf x73 (some k__1.val) (some (.bool false))) fun x77 =>
 xguard x77 true (fun q => xeff (k__1.heap (k_.heap H)) (G 26 [] (k__1.heap (k_.heap H))) q) fun k__2 =>
 xb (pickOf x77 (some k__2.val) (some (.bool false))) fun x80 =>
 bif dchk [0, 0, 0, 0, 12, 28, 62, 127, 255, 511, 1023, 2047, 4095, 8191, 16383, 32767] [0, 1, 2, 3, 4, 5, 6, 7, 8, 9, 10, 11, 12, 13, 14, 15] [⟨0, (.read x66), fun H => aload P H 25 x10⟩, ⟨1, (.pure x11), fun H => none⟩, ⟨2, (.pure x5), fun H => none⟩, ⟨3, (.pure x0), fun H => none⟩, ⟨4, (.pure x70), fun H => none⟩, ⟨5, (.read x71), fun H => aload P H 3 x70⟩, ⟨6, (.pure x72), fun H => none⟩, ⟨7, (.pure x73), fun H => none⟩, ⟨8, (.pure x73), fun H => none⟩, ⟨9, k_, fun H => none⟩, ⟨10, k__1, fun H => none⟩, ⟨11, (.pure x77), fun H => none⟩, ⟨12, (.pure x77), fun H => none⟩, ⟨13, k__2, fun H => none⟩, ⟨14, (.pure x80), fun H => none⟩, ⟨15, (.pure x80), fun H => none⟩] H then (some (x80, (k__2.heap (k__1.heap (k_.heap H))))) else none
theorem s14_j0_eq (G : CallT) (N : Nat) : ∀ R H, codeC P G N (Code.snd (Code.snd (Code.snd (Code.snd (Code.snd (Code.snd (Code.snd (Code.snd (Code.snd (Code.snd (bodyOf Try.f14))))))))))) (rC Try.f14) [] (rC Try.f14) R H = s14_j0 G (R 0) (R 5) (R 9) (R 10) (R 11) H := by
 refine via_trans (via_leaf _) fun R H => ?_
 delta s14_j0
 kernel_rfl
def s14 (G : CallT) (x0 : AV) (H : AHeap) : O :=
 xmake H (some (.sl (H).next 0 20 1 (some 20), .row false 1 [[(.str [120, 59])], [(.str [120, 32, 43, 32, 49, 59])], [(.str [120, 46, 102, 32, 61, 32, 50, 59])], [(.str [120, 91, 49, 93, 32, 61, 32, 50, 59])], [(.str [102, 40, 41, 32, 61, 32, 50, 59])], [(.str [49, 32, 61, 32, 50, 59])], [(.str [102, 40, 49, 41, 59])], [(.str [40, 120, 41, 32, 61, 32, 49, 59])], [(.str [45, 120, 32, 61, 32, 49, 59])], [(.str [114, 101, 116, 117, 114, 110])], [(.str [114, 101, 116, 117, 114, 110, 59])], [(.str [114, 101, 116, 117, 114, 110, 32, 49, 59])], [(.str [108, 101, 116, 32, 120, 32, 61, 32, 49, 59])], [(.str [118, 97, 114, 32, 120, 58, 32, 91, 91, 105, 110, 116, 93, 93, 59])], [(.str [118, 97, 114, 32, 120, 58, 32, 91, 91, 91, 91, 105, 110, 116, 93, 93, 93, 93, 59])], [(.str [105, 102, 32, 98, 32, 123, 32, 125, 32, 101, 108, 115, 101, 32, 102, 40, 41, 59])], [(.str [112, 114, 105, 110, 116, 59])], [(.str [119, 104, 105, 108, 101, 32, 123, 32, 125])], [(.str [120, 32, 61, 32, 59])], [(.str [102, 40, 41, 46, 103, 32, 61, 32, 49, 59])]])) fun x12 h1 =>
 xmake h1 (some (.sl (h1).next 0 20 1 (some 20), .row false 1 [[(.int .i64 0)], [(.int .i64 0)], [(.int .i64 4)], [(.int .i64 4)], [(.int .i64 0)], [(.int .i64 0)], [(.int .i64 9)], [(.int .i64 3)], [(.int .i64 0)], [(.int .i64 0)], [(.int .i64 7)], [(.int .i64 7)], [(.int .i64 0)], [(.int .i64 1)], [(.int .i64 0)], [(.int .i64 0)], [(.int .i64 0)], [(.int .i64 0)], [(.int .i64 0)], [(.int .i64 4)]])) fun x13 h2 =>
 xmake h2 (some (.sl (h2).next 0 20 1 (some 20), .row false 1 [[(.int .i64 1)], [(.int .i64 5)], [(.int .i64 0)], [(.int .i64 0)], [(.int .i64 4)], [(.int .i64 2)], [(.int .i64 0)], [(.int .i64 0)], [(.int .i64 3)], [(.int .i64 6)], [(.int .i64 0)], [(.int .i64 0)], [(.int .i64 6)], [(.int .i64 0)], [(.int .i64 10)], [(.int .i64 14)], [(.int .i64 5)], [(.int .i64 6)], [(.int .i64 4)], [(.int .i64 0)]])) fun x14 h3 =>
 xb (fbin P .lss 3 true x0 (.int .i64 0)) fun x16 =>
 xg x16 false h3 (qv x0) fun x18 h4 =>
 xg x16 false h4 (qv x12) fun x19 h5 =>
 xg x16 false h5 (fun q => xboth (abuiltin P .empty .len [46] [x19]) (abuiltin P h5 .len [46] [x19]) q) fun x20 h6 =>
 xg x16 false h6 (qp (fbin P .geq 3 false x18 x20)) fun x21 h7 =>
 xb (pickOf x16 (some (.bool true)) (some x21)) fun x22 =>
 xif (some x22) (some ((.bool true), h7)) (xb (aindexAddr P 46 x12 x0) fun x26 =>
 xb (aload P h7 9 x26) fun x27 =>
 xcall h7 (G 15 [x27] h7) fun x28 h8 =>
 xb (aextract x28 0) fun x29 =>
 xb (aextract x28 1) fun x30 =>
 xalloc h8 [(.int .i64 0), (.int .i64 0)] fun x7 h9 =>
 xstore h9 (astore P h9 25 x7 x30) fun h10 =>
 xcall h10 (G 28 [x29, (.int .i64 0), (.int .i64 0)] h10) fun x33 h11 =>
 xb (aextract x33 0) fun x34 =>
 xb (aextract x33 1) fun x35 =>
 xb (aextract x33 2) fun x36 =>
 xalloc h11 [(.int .i64 0), (.str []), (.str []), (.int .i64 0), AV.nilSl, AV.nilSl, AV.nilSl, (.int .i64 0), (.int .i64 0)] fun x8 h12 =>
 xalloc h12 [(.int .i64 0), (.int .i64 0)] fun x10 h13 =>
 xstore h13 (astore P h13 54 x8 x34) fun h14 =>
 xstore h14 (astore P h14 25 x10 x36) fun h15 =>
 xb (aindexAddr P 48 x13 x0) fun x39 =>
 xb (aload P h15 3 x39) fun x40 =>
 xb (fbin P .neq 3 true x40 (.int .i64 0)) fun x41 =>
 xif (some x41) (xb (afieldAddr P 25 x10 0) fun x42 =>
 xb (aload P h15 23 x42) fun x43 =>
 xb (fbin P .eql 23 true x43 (.int .i64 0)) fun x44 =>
 xguard x44 true (qp (afieldAddr P 54 x8 0)) fun k_ =>
 xguard x44 true (qr (aload P (k_.heap h15) 3 k_.val)) fun k__1 =>
 xguard x44 true (qv x13) fun k__2 =>
 xguard x44 true (qv x0) fun k__3 =>
 xguard x44 true (qp (aindexAddr P 48 k__2.val k__3.val)) fun k__4 =>
 xguard x44 true (qr (aload P (k__4.heap (k__3.heap (k__2.heap (k__1.heap (k_.heap h15))))) 3 k__4.val)) fun k__5 =>
 xguard x44 true (qp (fbin P .eql 3 false k__1.val k__5.val)) fun k__6 =>
 xb (pickOf x44 (some k__6.val) (some (.bool false))) fun x53 =>
 xguard x53 true (qv x35) fun k__7 =>
 xguard x53 true (qv x29) fun k__8 =>
 xguard x53 true (fun q => xboth (abuiltin P .empty .len [22] [k__8.val]) (abuiltin P (k__8.heap (k__7.heap (k__6.heap (k__5.heap (k__4.heap (k__3.heap (k__2.heap (k__1.heap (k_.heap h15))))))))) .len [22] [k__8.val]) q) fun k__9 =>
 xguard x53 true (qp (fbin P .sub 3 true k__9.val (.int .i64 1))) fun k__10 =>
 xguard x53 true (qp (fbin P .eql 3 false k__7.val k__10.val)) fun k__11 =>
 xb (pickOf x53 (some k__11.val) (some (.bool false))) fun x60 =>
 xguard x60 true (fun q => xeff (k__11.heap (k__10.heap (k__9.heap (k__8.heap (k__7.heap (k__6.heap (k__5.heap (k__4.heap (k__3.heap (k__2.heap (k__1.heap (k_.heap h15)))))))))))) (G 26 [] (k__11.heap (k__10.heap (k__9.heap (k__8.heap (k__7.heap (k__6.heap (k__5.heap (k__4.heap (k__3.heap (k__2.heap (k__1.heap (k_.heap h15))))))))))))) q) fun k__12 =>
 xb (pickOf x60 (some k__12.val) (some (.bool false))) fun x63 =>
 bif dchk [0, 1, 3, 7, 15, 31, 15, 15, 207, 463, 1023, 2047, 4095, 8191, 8191, 24575, 57343, 131071, 262143, 524287, 1048575, 2097151, 4194303] [0, 1, 2, 3, 4, 5, 6, 7, 8, 9, 10, 11, 12, 13, 14, 15, 16, 17, 18, 19, 20, 21, 22] [⟨0, (.pure x42), fun H => none⟩, ⟨1, (.read x43), fun H => aload P H 23 x42⟩, ⟨2, (.pure x44), fun H => none⟩, ⟨3, (.pure x44), fun H => none⟩, ⟨4, k_, fun H => none⟩, ⟨5, k__1, fun H => aload P H 3 k_.val⟩, ⟨6, k__2, fun H => none⟩, ⟨7, k__3, fun H => none⟩, ⟨8, k__4, fun H => none⟩, ⟨9, k__5, fun H => aload P H 3 k__4.val⟩, ⟨10, k__6, fun H => none⟩, ⟨11, (.pure x53), fun H => none⟩, ⟨12, (.pure x53), fun H => none⟩, ⟨13, k__7, fun H => none⟩, ⟨14, k__8, fun H => none⟩, ⟨15, k__9, fun H => abuiltin P H .len [22] [k__8.val]⟩, ⟨16, k__10, fun H => none⟩, ⟨17, k__11, fun H => none⟩, ⟨18, (.pure x60), fun H => none⟩, ⟨19, (.pure x60), fun H => none⟩, ⟨20, k__12, fun H => none⟩, ⟨21, (.pure x63), fun H => none⟩, ⟨22, (.pure x63), fun H => none⟩] h15 then (some (x63, (k__12.heap (k__11.heap (k__10.heap (k__9.heap (k__8.heap (k__7.heap (k__6.heap (k__5.heap (k__4.heap (k__3.heap (k__2.heap (k__1.heap (k_.heap h15))))))))))))))) else none) (xb (fbin P .eql 3 true x0 (.int .i64 14)) fun x65 =>
 xif (some x65) (s14_j0 G x0 x14 x35 x10 (.int .i64 4) h15) (s14_j0 G x0 x14 x35 x10 (.int .i64 2) h15)))
theorem s14_eq (G : CallT) (N : Nat) (x0 : AV) (H : AHeap) : cF Try.f14 G N (argsF [x0]) H = s14 G x0 H := by
 refine via_top (A := cF Try.f14 G N) ((via_seq (by kernel_rfl) ((via_seq (by kernel_rfl) ((via_seq (by kernel_rfl) ((via_seq (by kernel_rfl) ((via_seq (by kernel_rfl) ((via_seq (by kernel_rfl) ((via_seq (by kernel_rfl) ((via_seq (by kernel_rfl) ((via_seq (by kernel_rfl) ((via_seq (by kernel_rfl) (s14_j0_eq G N) (via_leaf _))) (via_leaf _))) (via_leaf _))) (via_leaf _))) (via_leaf _))) (via_leaf _))) (via_leaf _))) (via_leaf _))) (via_leaf _))) (via_leaf _))) ?_
 delta s14
 generalize s14_j0 G = J0
 revert J0
 refine id ?_
 intro J0
 kernel_rfl
theorem run14 (N : Nat) {x0 : AV} {H : AHeap} {r : AV × AHeap} (h : s14 (evw P) x0 H = some r) : evw P 14 [x0] H = some r :=
 runF Try.func14 (by kernel_rfl) (by kernel_rfl) (by kernel_rfl) ((s14_eq (evw P) N x0 H).trans h)
end
end Go.Proofs.Ytnjoomfeddamcaa
namespace Go.Ev
 @[congr] theorem xalloc_cg {H H' : AHeap} {cs cs' : List AV} {k : AV → AHeap → O} {z : Nat} (d : H = H') (e : cs = cs') (_y : zA = z) : xalloc H cs k = xalloc H' cs' k := by rw [d, e]
 @[congr] theorem dchk_cg {ms ez : List Nat} {T : List Tc} {H : AHeap} {z : Nat} (_y : zA = z) : dchk ms ez T H = dchk ms ez T H := rfl
theorem winsC_tied {ms ez : List Nat} {T : List Tc} {H : AHeap} : ∀ S : List Tc, S.all (fun t => ez.contains t.i) = true → winsC ms ez T H S = true
  | [], _ => rfl
  | t :: ts, h => by
    simp only [List.all_cons, Bool.and_eq_true] at h
    rw [winsC, winsC_tied ts h.2, Bool.and_true]
    split
    · rw [h.1, Bool.true_or]
    · rfl
theorem dchk_tied {ms ez : List Nat} {T : List Tc} {H : AHeap} (h1 : effC ms T [] = true) (h2 : T.all (fun t => ez.contains t.i) = true) : dchk ms ez T H = true := by
  rw [dchk, h1, winsC_tied T h2]; rfl
def tiedOk (ez : List Nat) (t : Tc) : Bool := match t.k with
  | .read _ => ez.contains t.i
  | _ => true
theorem winsC_ok {ms ez : List Nat} {T : List Tc} {H : AHeap} : ∀ S : List Tc, S.all (tiedOk ez) = true → winsC ms ez T H S = true
  | [], _ => rfl
  | t :: ts, h => by
    simp only [List.all_cons, Bool.and_eq_true] at h
    rw [winsC, winsC_ok ts h.2, Bool.and_true]
    have h1 := h.1
    unfold tiedOk at h1
    split
    · rename_i v hk
      rw [hk] at h1
      simp only at h1
      rw [h1, Bool.true_or]
    · rfl
theorem winsC_app {ms ez : List Nat} {T : List Tc} {H : AHeap} : ∀ S S' : List Tc, winsC ms ez T H (S ++ S') = (winsC ms ez T H S && winsC ms ez T H S')
  | [], S' => by rw [List.nil_append, winsC, Bool.true_and]
  | t :: ts, S' => by rw [List.cons_append, winsC, winsC, winsC_app ts S', Bool.and_assoc]
def effPur (H : AHeap) (t : Tc) : Prop := match t.k with
  | .eff _ H' => Pur H H'
  | .new _ _ => False
  | _ => True
theorem trace_pur {H : AHeap} : ∀ (T : List Tc) (H0 : AHeap), Pur H H0 → (∀ t ∈ T, effPur H t) → ∀ H' ∈ traceH T H0, Pur H H'
  | [], H0, p, _, H', hm => by
    simp only [traceH, List.mem_cons, List.not_mem_nil, or_false] at hm
    rw [hm]; exact p
  | t :: ts, H0, p, h, H', hm => by
    simp only [traceH, List.mem_cons] at hm
    rcases hm with rfl | hm
    · exact p
    · refine trace_pur ts _ ?_ (fun u hu => h u (List.mem_cons_of_mem _ hu)) H' hm
      have h1 := h t List.mem_cons_self
      unfold effPur at h1
      cases hk : t.k with
      | pure v => exact p
      | read v => exact p
      | skip => exact p
      | eff v H2 => rw [hk] at h1; exact h1
      | new v b => rw [hk] at h1; exact h1.elim
theorem dchk_mid {ms ez : List Nat} {T : List Tc} {H : AHeap} (i : Nat) (h1 : effC ms T [] = true) (ha : (T.take i).all (tiedOk ez) = true) (hb : (T.drop (i + 2)).all (tiedOk ez) = true) {t u : Tc} (ht : T.drop i = t :: u :: T.drop (i + 2)) (hp : ∀ x ∈ T, effPur H x)
    (rt : ∀ v, t.k = .read v → ∀ H', Pur H H' → rdIs (t.rd H') v = true) (ru : ∀ v, u.k = .read v → ∀ H', Pur H H' → rdIs (u.rd H') v = true) : dchk ms ez T H = true := by
  have hw : winsC ms ez T H T = true := by
    have e : T = T.take i ++ (t :: u :: T.drop (i + 2)) := by rw [← ht, List.take_append_drop]
    have hall := trace_pur T H (.refl H) hp
    have h3 : winsC ms ez T H (t :: u :: T.drop (i + 2)) = true := by
      rw [winsC, winsC, winsC_ok _ hb, Bool.and_true]
      have ft : (match t.k with | .read v => ez.contains t.i || seeC ms (fun H => rdIs (t.rd H) v) t.i T H | _ => true) = true := by
        split
        · rename_i v hk
          rw [seeC_true fun H' hm => rt v hk H' (hall H' hm), Bool.or_true]
        · rfl
      have fu : (match u.k with | .read v => ez.contains u.i || seeC ms (fun H => rdIs (u.rd H) v) u.i T H | _ => true) = true := by
        split
        · rename_i v hk
          rw [seeC_true fun H' hm => ru v hk H' (hall H' hm), Bool.or_true]
        · rfl
      exact Bool.and_eq_true_iff.2 ⟨ft, fu⟩
    have h4 : winsC ms ez T H (T.take i ++ (t :: u :: T.drop (i + 2))) = true := by rw [winsC_app, winsC_ok _ ha, h3]; rfl
    rw [← e] at h4
    exact h4
  rw [dchk, h1, hw]; rfl
theorem dchk_tied2 {ms ez : List Nat} {T : List Tc} {H : AHeap} (h1 : effC ms T [] = true) (h2 : T.all (tiedOk ez) = true) : dchk ms ez T H = true := by
  rw [dchk, h1, winsC_ok T h2]; rfl
end Go.Ev

namespace Go.Proofs.Ytnjoomfeddamcaa
open Go.Ev
theorem TokSl.len5 {H : AHeap} {tv : AV} {T : List Tok} (h : TokSl H tv T) (H' : AHeap) : abuiltin P H' .len [22] [tv] = some (.int .i64 T.length) := by
 rcases h with ⟨rfl, rfl⟩ | ⟨l, i, cap, rfl, _⟩
 ·exact ln22n
 ·exact ln22
theorem get_map {α : Type} {l : List α} {f : α → List AV} {k : Nat} {d : α} (h : k < l.length) : (l.map f)[k]? = some (f (l[k]?.getD d)) := by
 rw [List.getElem?_map]
 simp [h]
theorem odd_run {H : AHeap} (i : Int) : W (s14 (evb P 26 true) (.int .i64 i) H) fun v H' => v = .bool true ∧ H.next ≤ H'.next := by
 rw [s14]
 have eA : ([[AV.str [120, 59]], [AV.str [120, 32, 43, 32, 49, 59]], [AV.str [120, 46, 102, 32, 61, 32, 50, 59]], [AV.str [120, 91, 49, 93, 32, 61, 32, 50, 59]], [AV.str [102, 40, 41, 32, 61, 32, 50, 59]], [AV.str [49, 32, 61, 32, 50, 59]], [AV.str [102, 40, 49, 41, 59]], [AV.str [40, 120, 41, 32, 61, 32, 49, 59]], [AV.str [45, 120, 32, 61, 32, 49, 59]], [AV.str [114, 101, 116, 117, 114, 110]], [AV.str [114, 101, 116, 117, 114, 110, 59]], [AV.str [114, 101, 116, 117, 114, 110, 32, 49, 59]], [AV.str [108, 101, 116, 32, 120, 32, 61, 32, 49, 59]], [AV.str [118, 97, 114, 32, 120, 58, 32, 91, 91, 105, 110, 116, 93, 93, 59]], [AV.str [118, 97, 114, 32, 120, 58, 32, 91, 91, 91, 91, 105, 110, 116, 93, 93, 93, 93, 59]], [AV.str [105, 102, 32, 98, 32, 123, 32, 125, 32, 101, 108, 115, 101, 32, 102, 40, 41, 59]], [AV.str [112, 114, 105, 110, 116, 59]], [AV.str [119, 104, 105, 108, 101, 32, 123, 32, 125]], [AV.str [120, 32, 61, 32, 59]], [AV.str [102, 40, 41, 46, 103, 32, 61, 32, 49, 59]]] : List (List AV)) = oddT.map fun t => [.str t] := rfl
 have eB : ([[AV.int .i64 0], [AV.int .i64 0], [AV.int .i64 4], [AV.int .i64 4], [AV.int .i64 0], [AV.int .i64 0], [AV.int .i64 9], [AV.int .i64 3], [AV.int .i64 0], [AV.int .i64 0], [AV.int .i64 7], [AV.int .i64 7], [AV.int .i64 0], [AV.int .i64 1], [AV.int .i64 0], [AV.int .i64 0], [AV.int .i64 0], [AV.int .i64 0], [AV.int .i64 0], [AV.int .i64 4]] : List (List AV)) = oddK.map fun t => [.int .i64 t] := rfl
 have eC : ([[AV.int .i64 1], [AV.int .i64 5], [AV.int .i64 0], [AV.int .i64 0], [AV.int .i64 4], [AV.int .i64 2], [AV.int .i64 0], [AV.int .i64 0], [AV.int .i64 3], [AV.int .i64 6], [AV.int .i64 0], [AV.int .i64 0], [AV.int .i64 6], [AV.int .i64 0], [AV.int .i64 10], [AV.int .i64 14], [AV.int .i64 5], [AV.int .i64 6], [AV.int .i64 4], [AV.int .i64 0]] : List (List AV)) = oddA.map fun t => [.int .i64 t] := rfl
 rw [eA, eB, eC]
 by_cases c1 : i < 0
 ·simp -implicitDefEqProofs (disch := first | assumption | omega | (simp only [nxB]; omega) | (simp only [oneB])) only [xlen, evB, binB, c1, decide_true]
  exact W_some.2 ⟨rfl, by simp only [AHeap.next_push]; omega⟩
 have z20 : ((20 : Nat) : Int) = 20 := rfl
 by_cases c2 : 20 ≤ i
 ·simp -implicitDefEqProofs (disch := first | assumption | omega | (simp only [nxB]; omega) | (simp only [oneB])) only [xlen, evB, binB, tabB, c1, c2, z20, decide_true, decide_false]
  exact W_some.2 ⟨rfl, by simp only [AHeap.next_push]; omega⟩
 obtain ⟨k, rfl⟩ : ∃ k : Nat, i = k := ⟨i.toNat, by omega⟩
 have hk : k < 20 := by omega
 have h0 : (0 : Int) ≤ (k : Int) := by omega
 have h20 : (k : Int) < ((20 : Nat) : Int) := by omega
 have hki : ((k : Int)).toNat = k := by omega
 have gA : (oddT.map fun t => [AV.str t])[k]? = some [.str (oddT[k]?.getD [])] := get_map (by simpa [oddT] using hk)
 have gB : (oddK.map fun t => [AV.int .i64 t])[k]? = some [.int .i64 (oddK[k]?.getD 0)] := get_map (by simpa [oddK] using hk)
 have gC : (oddA.map fun t => [AV.int .i64 t])[k]? = some [.int .i64 (oddA[k]?.getD 0)] := get_map (by simpa [oddA] using hk)
 have hok := List.all_eq_true.1 odd_all k (List.mem_range.2 hk)
 generalize (oddT.map fun t => [AV.str t]) = RA at gA
 generalize (oddK.map fun t => [AV.int .i64 t]) = RB at gB
 generalize (oddA.map fun t => [AV.int .i64 t]) = RC at gC
 unfold oddOk at hok
 have htl : (oddT[k]?.getD []).length ≤ 100 := by
  have h := List.all_eq_true.1 (show (List.range 20).all (fun k => Nat.ble (oddT[k]?.getD []).length 100) = true by decide +kernel) k (List.mem_range.2 hk)
  exact Nat.le_of_ble_eq_true h
 generalize oddT[k]?.getD [] = tx at gA hok htl
 generalize oddK[k]?.getD 0 = kd at gB hok
 generalize oddA[k]?.getD 0 = pa at gC hok
 simp -implicitDefEqProofs (disch := first | assumption | omega | (simp only [nxB]; omega) | (simp only [oneB])) only [xlen, AV.cells, splice, aload, astore, Nat.reduceAdd, Nat.reduceLeDiff, reduceIte, allB, c1, c2, z20, decide_false, hki, gA]
 rw [evb_other (by decide)]
 have pH := ((Pur.push H (.row false 1 RA)).then_push (.row false 1 RB)).then_push (.row false 1 RC)
 have r2 : (((H.push (.row false 1 RA)).push (.row false 1 RB)).push (.row false 1 RC)).get (H.next + 1) = some (.row false 1 RB) := by simp -implicitDefEqProofs (disch := first | assumption | omega | (simp only [nxB]; omega) | (simp only [oneB])) only [heapB]
 have r3 : (((H.push (.row false 1 RA)).push (.row false 1 RB)).push (.row false 1 RC)).get (H.next + 2) = some (.row false 1 RC) := by simp -implicitDefEqProofs (disch := first | assumption | omega | (simp only [nxB]; omega) | (simp only [oneB])) only [heapB]
 refine W_call (Tokens_spec tx) ?_
 rintro _ H1 ⟨tv, rfl, ht, p1⟩
 refine ⟨p1.1, ?_⟩
 have hlen := tokensS_len tx
 generalize tokensS tx = q at ht hok hlen
 have n1 := p1.1
 simp only [AHeap.next_push] at n1
 simp -implicitDefEqProofs (disch := first | assumption | omega | (simp only [nxB]; omega) | (simp only [oneB])) only [xlen, AV.cells, splice, aload, astore, Nat.reduceAdd, Nat.reduceLeDiff, reduceIte, allB]
 rw [evb_other (by decide)]
 rcases hst : stmtF q.1 60 ⟨0, 0, 0, 0⟩ with _ | ⟨e, s⟩
 ·rw [hst] at hok; cases hok
 rw [hst] at hok
 simp only at hok
 have hT : q.1.length ≤ 20000000 := by omega
 have hs0 : startS 0 0 = ⟨0, 0, 0, 0⟩ := by simp [startS]
 refine W_call (kstmt_spec (n := 60) (by omega) hT (ht.pur (Pur.push H1 _)) 0 0 (by rw [hs0]; exact hst)) ?_
 rintro _ H2 ⟨v2, rfl, hv2, p2⟩
 refine ⟨p2.1, ?_⟩
 obtain ⟨c2', rfl, n2, o2⟩ := hv2.cells
 have t2 : List.take 9 c2' = c2' := List.take_of_length_le (by omega)
 have b2 := p2.1
 simp only [AHeap.next_push] at b2
 have p12 := (p1.then_push (.row false 2 [[.int .i64 q.2.1, .int .i64 q.2.2]])).trans p2
 have r22 := p12.get r2
 have r32 := p12.get r3
 have hcnt := fun H' => ht.len5 H'
 have hl1 : (q.1.length : Int) ≤ 20000000 := by omega
 cases hkd : (kd != 0) with
 | true =>
  rw [hkd, cond_true] at hok
  simp only [Bool.and_eq_true, beq_iff_eq] at hok
  obtain ⟨f1, f2, f3⟩ := hok
  have hps : parseM e s = (e, (q.1.length : Int) - 1, 0, 0) := by simp [parseM, f1, f3]
  rw [hps] at hv2 ⊢
  cases e with | mk a es b c =>
  obtain ⟨ev, bv, cv, hc, -⟩ := StV_mk.1 hv2
  simp only [AV.agg.injEq] at hc
  subst hc
  have f2' : a.kind = kd := f2
  have w1 : IntKind.i64.wrap ((q.1.length : Int) - 1) = (q.1.length : Int) - 1 := IntWalk.i64_in _ ⟨by omega, by omega⟩
  have z2 : H.next + 1 + 1 = H.next + 2 := rfl
  have ev1 : (Sa.cells a ev bv cv).all AV.one = true := o2
  have gg : ∀ l, astore P (((H2.push (.row false 9 [[.int .i64 0, .str [], .str [], .int .i64 0, .nilSl, .nilSl, .nilSl, .int .i64 0, .int .i64 0]])).push (.row false 2 [[.int .i64 0, .int .i64 0]]))) 54 (.ptr H2.next 0 0) (.agg (Sa.cells a ev bv cv)) = l → l = l := fun _ _ => rfl
  simp -implicitDefEqProofs (disch := first | assumption | omega | (simp only [nxB]; omega) | (simp only [oneB])) only [xlen, AV.cells, splice, aload, astore, Nat.reduceAdd, Nat.reduceLeDiff, reduceIte, allB, tyC, AHeap.push_set_lt, n2, o2, List.append_nil, hki, r22, gB, hkd]
  simp only [Sa.cells] at *
  simp -implicitDefEqProofs (disch := first | assumption | omega | (simp only [nxB]; omega) | (simp only [oneB])) only [xlen, AV.cells, splice, aload, astore, Nat.reduceAdd, Nat.reduceLeDiff, reduceIte, allB, tyC, AHeap.push_set_lt, List.append_nil, hki, r22, gB, hkd, xguard_tt, f2', beq_self_eq_true, hcnt, w1, evb_self, xeff, Nat.le_refl, decide_true]
  refine W_bif (dchk_tied (by kernel_rfl) (by kernel_rfl)) ?_
  simp -implicitDefEqProofs (disch := first | assumption | omega | (simp only [nxB]; omega) | (simp only [oneB])) only [xlen, AV.cells, splice, aload, astore, Nat.reduceAdd, Nat.reduceLeDiff, reduceIte, allB]
  exact W_some.2 ⟨rfl, by simp only [AHeap.next_push]; omega⟩
 | false =>
  rw [hkd, cond_false] at hok
  simp only [Bool.and_eq_true, beq_iff_eq] at hok
  obtain ⟨f1, f2⟩ := hok
  have hne : s.fe ≠ 0 := by rw [f1]; split <;> decide
  have hps : parseM e s = (.zero, 0, s.fe, pa) := by simp [parseM, hne, f2]
  rw [hps] at hv2 ⊢
  simp -implicitDefEqProofs (disch := first | assumption | omega | (simp only [nxB]; omega) | (simp only [oneB])) only [xlen, AV.cells, splice, aload, astore, Nat.reduceAdd, Nat.reduceLeDiff, reduceIte, allB, tyC, AHeap.push_set_lt, n2, o2, List.append_nil, hki, r22, gB, hkd]
  have fin : ∀ w : Int, w = s.fe → W (s14_j0 (evb P 26 true) (.int .i64 k) (.sl (H.next + 1 + 1) 0 20 1 (some 20)) (.int .i64 0) (.ptr (H2.next + 1) 0 0) (.int .i64 w) ((H2.push (.row false 9 [c2'])).push (.row false 2 [[.int .i64 s.fe, .int .i64 pa]]))) fun v H' => v = .bool true ∧ H.next ≤ H'.next := by
   rintro _ rfl
   have g1 := AHeap.get_push_same (H2.push (.row false 9 [c2'])) (.row false 2 [[.int .i64 s.fe, .int .i64 pa]])
   simp only [AHeap.next_push] at g1
   have g2 : ((H2.push (.row false 9 [c2'])).push (.row false 2 [[.int .i64 s.fe, .int .i64 pa]])).get (H.next + 1 + 1) = some (.row false 1 RC) := ((Pur.push H2 _).then_push _).get r32
   simp -implicitDefEqProofs (disch := first | assumption | omega | (simp only [nxB]; omega) | (simp only [oneB])) only [s14_j0, xlen, AV.cells, splice, aload, astore, Nat.reduceAdd, Nat.reduceLeDiff, reduceIte, allB, tyC, g1, g2, hki, gC, eq25, beq_self_eq_true, Bool.and_self, xguard_tt, evb_self, xeff, Nat.le_refl, decide_true]
   refine W_bif (dchk_tied (by kernel_rfl) (by kernel_rfl)) ?_
   exact W_some.2 ⟨rfl, by simp only [AHeap.next_push, K_heap_eff, K_heap_pure, K_heap_read]; omega⟩
  by_cases h14 : k = 14
  ·have hb : ((k : Int) == 14) = true := by subst h14; rfl
   rw [hb, cond_true]
   exact fin 4 (by rw [f1, if_pos h14])
  ·have hb : ((k : Int) == 14) = false := by simp; omega
   rw [hb, cond_false]
   exact fin 2 (by rw [f1, if_neg h14])
set_option maxRecDepth 100000 in
theorem odd_ok (i : Int) : ∃ H', CallOk1 P 14 [.int .i64 i] AHeap.empty (.bool true) H' := by
 obtain ⟨_, H', h, rfl, p⟩ := odd_run (H := AHeap.empty) i
 exact ⟨H', code_ok1 (c := bodyOf Try.f14) (M := 0) progOk (evb_ok progOk known4) Try.func14 (by kernel_rfl) (by kernel_rfl) (by kernel_rfl) (Eq.trans (s14_eq (evb P 26 true) 0 (.int .i64 i) AHeap.empty) h)⟩
end Go.Proofs.Ytnjoomfeddamcaa

namespace Go.Proofs.Ytnjoomfeddamcaa
open Go.Ev
open Go.ChangeShapes Go.WideShapes Go.ChangeAt Go.RowKit
open Go.ChangeMaps (open_string shut_string)
namespace stmtOdd
set_option maxRecDepth 100000 in
theorem lifted (os : Os) (started : os.Started) (H : Type) (enc : TypeId × Value → H) :
  ReturnsInHanded {} Try.checked os 14 .any (Rows.stmtOddSpec.pre6 enc Try.prog Try.f14 Rows.stmtOddRow.domain false) (Rows.stmtOddSpec.post enc Try.prog Try.f14 false true false false) := by
 refine returnsInHanded_of_change (C := Try.checked) own started (by kernel_rfl) Try.func14
  (ChangeSpec.witness6 (enc := enc) (C := Try.checked) false ⟨#[], #[.int .i64 0], []⟩ 8 (by kernel_rfl) (by kernel_rfl) (by kernel_rfl) (by kernel_rfl)) ?_
 intro W base args ds gs before hval0 hW hcnd _
 have hval : ∀ (j : Nat) t v, Try.f14.params[j]? = some t → args[j]? = some v → Value.okWide Try.prog W .any base t v := hval0
 have hW' := hW
 obtain ⟨p, q, hA0, hV, rfl, hfz, hnd⟩ := hW
 have hA : DataW.TrodAll enc Try.prog W 0 (fun _ => true) true Try.f14.params.toList args.toList ds p := hA0
 have hpar : Try.f14.params = #[3] := by kernel_rfl
 rw [hpar] at hA hval
 obtain ⟨v0, vs0, d0, ds0, p0, q0, hargs, rfl, rfl, h0, r0⟩ := trodAll_cons hA
 obtain ⟨rfl, rfl, rfl⟩ := trodAll_nil r0
 obtain rfl : args = #[v0] := by cases args; simp_all
 obtain ⟨rfl, rfl⟩ := trodVars_none hV
 obtain ⟨a0, hv0, -, -, w0⟩ := open_int (P := P) und3 (hval 0 3 v0 rfl rfl) h0
 subst hv0
 have hlaw : LawOk P 14 [.int .i64 a0] W := by obtain ⟨H', h⟩ := odd_ok a0; exact law_plain (.cons _ _ _ _ (.int _ _) .nil) h
 refine (law_walk (c := bodyOf Try.f14) progOk Try.func14 (by kernel_rfl) hlaw).mono fun e W' ⟨he, bel⟩ => ?_
 subst he
 obtain ⟨pa, hpa⟩ := trodAll_below laidOut bel (ts := [3]) (fun t ht => by
  simp only [List.mem_cons, List.not_mem_nil, or_false] at ht
  rcases ht with rfl <;> exact ⟨by kernel_rfl, of_decide_eq_true (by kernel_rfl)⟩) hA
 exact ⟨_, rfl, _, _, _, [], pa, [], hW', trodAll_mk1 (shut_bool (P := P) und4 _), by rw [hpar]; exact hpa, rfl, bel.frame _, fun h => by cases h⟩
theorem over : Rows.stmtOddRow.holds Try.pinned (OpenSpec.ofChange Rows.stmtOddSpec) :=
 OpenClaim.holds_of_wide 14 Try.f14 rfl rfl rfl rfl rfl rfl rfl ⟨rfl, rfl, rfl, rfl, rfl⟩ rfl rfl rfl rfl rfl (by kernel_rfl) Try.func14 (by kernel_rfl)
  (of_decide_eq_true (by kernel_rfl)) (by unfold Func.isWrapper; first | (rw [if_pos (by decide +kernel)]; kernel_rfl) | (rw [if_neg (by decide +kernel)]; exact ⟨rfl, rfl⟩))
  (fun os started H enc _ => lifted os started H enc)
end stmtOdd
theorem stmtOdd_holds : Rows.StmtOddSaid := stmtOdd.over
end Go.Proofs.Ytnjoomfeddamcaa

