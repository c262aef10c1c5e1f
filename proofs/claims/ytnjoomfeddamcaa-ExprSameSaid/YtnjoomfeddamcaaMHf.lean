/-
  Texts of one proof, laid together: ShF.
-/
import Derived.Test.YtnjoomfeddamcaaME
set_option linter.unusedVariables false
set_option linter.unusedSimpArgs false
/-
  What a program of ours printed of the code: each function's operations, one definition each, and that the evaluator does just these.
-/
namespace Go.Proofs.Ytnjoomfeddamcaa
open Go.Ev
set_option maxRecDepth 100000
noncomputable section
def s6_0 (H_6 : AHeap) : O :=
 some ((.bool true), H_6)
def s6_1 (x42 : AV) (k__10 : K) (k__9 : K) (k__8 : K) (k__7 : K) (k__6 : K) (k__5 : K) (k__4 : K) (k__3 : K) (k__2 : K) (k__1 : K) (k_ : K) (H_11 : AHeap) : O :=
 some (x42, (k__10.heap (k__9.heap (k__8.heap (k__7.heap (k__6.heap (k__5.heap (k__4.heap (k__3.heap (k__2.heap (k__1.heap (k_.heap H_11))))))))))))
def s6_2 (x19 : AV) (H : AHeap) (x3 x20 : AV) (x4 x21 : AV) (H_10 : AHeap) (x22 x23 x24 : AV) (H_11 : AHeap) (x25 : AV) (k_ : K) (k__1 : K) (x7 : AV) (k__2 : K) (x30 : AV) (k__3 : K) (k__4 : K) (k__5 : K) (k__6 : K) (k__7 : K) (k__8 : K) (k__9 : K) (x39 : AV) (k__10 : K) (H_9 : AHeap) (x42 : AV) : O :=
 bif dchk [0, 0, 3, 0, 0, 31, 63, 127, 255, 255, 1023, 2047, 4095, 8191, 8191, 32767, 8191, 8191, 262143, 524287, 1048575, 2097151, 4194303, 8388607, 16777215] [0, 1, 2, 5, 6, 7, 8, 9, 10, 11, 12, 13, 14, 15, 18, 19, 20, 21, 22, 23, 24] [⟨0, (.read x19), fun H => aload P H 39 x3⟩, ⟨1, (.read x20), fun H => aload P H 39 x4⟩, ⟨2, (.eff x21 H_10), fun H => none⟩, ⟨3, (.read x22), fun H => aload P H 39 x3⟩, ⟨4, (.read x23), fun H => aload P H 39 x4⟩, ⟨5, (.eff x24 H_11), fun H => none⟩, ⟨6, (.pure x25), fun H => none⟩, ⟨7, (.pure x25), fun H => none⟩, ⟨8, k_, fun H => aload P H 39 x3⟩, ⟨9, k__1, fun H => aload P H 39 x7⟩, ⟨10, k__2, fun H => none⟩, ⟨11, (.pure x30), fun H => none⟩, ⟨12, (.pure x30), fun H => none⟩, ⟨13, k__3, fun H => aload P H 39 x4⟩, ⟨14, k__4, fun H => aload P H 39 x3⟩, ⟨15, k__5, fun H => none⟩, ⟨16, k__6, fun H => aload P H 39 x3⟩, ⟨17, k__7, fun H => aload P H 39 x4⟩, ⟨18, k__8, fun H => none⟩, ⟨19, k__9, fun H => none⟩, ⟨20, (.pure x39), fun H => none⟩, ⟨21, (.pure x39), fun H => none⟩, ⟨22, k__10, fun H => none⟩, ⟨23, (.pure x42), fun H => none⟩, ⟨24, (.pure x42), fun H => none⟩] H_9 then s6_1 x42 k__10 k__9 k__8 k__7 k__6 k__5 k__4 k__3 k__2 k__1 k_ H_11 else none
def s6_3 (x39 x19 : AV) (H : AHeap) (x3 x20 : AV) (x4 x21 : AV) (H_10 : AHeap) (x22 x23 x24 : AV) (H_11 : AHeap) (x25 : AV) (k_ : K) (k__1 : K) (x7 : AV) (k__2 : K) (x30 : AV) (k__3 : K) (k__4 : K) (k__5 : K) (k__6 : K) (k__7 : K) (k__8 : K) (k__9 : K) (H_9 : AHeap) (k__10 : K) : O :=
 xb (pickOf x39 (some k__10.val) (some (.bool false))) (s6_2 x19 H x3 x20 x4 x21 H_10 x22 x23 x24 H_11 x25 k_ k__1 x7 k__2 x30 k__3 k__4 k__5 k__6 k__7 k__8 k__9 x39 k__10 H_9)
def s6_4 (G : CallT) (k__9 : K) (k__8 : K) (k__7 : K) (k__6 : K) (k__5 : K) (k__4 : K) (k__3 : K) (k__2 : K) (k__1 : K) (k_ : K) (H_11 : AHeap) (x19 : AV) (H : AHeap) (x3 x20 : AV) (x4 x21 : AV) (H_10 : AHeap) (x22 x23 : AV) (x24 x25 : AV) (x7 x30 : AV) (H_9 : AHeap) (x39 : AV) : O :=
 xguard x39 true (fun q => xeff (k__9.heap (k__8.heap (k__7.heap (k__6.heap (k__5.heap (k__4.heap (k__3.heap (k__2.heap (k__1.heap (k_.heap H_11)))))))))) (G 17 [] (k__9.heap (k__8.heap (k__7.heap (k__6.heap (k__5.heap (k__4.heap (k__3.heap (k__2.heap (k__1.heap (k_.heap H_11))))))))))) q) (s6_3 x39 x19 H x3 x20 x4 x21 H_10 x22 x23 x24 H_11 x25 k_ k__1 x7 k__2 x30 k__3 k__4 k__5 k__6 k__7 k__8 k__9 H_9)
def s6_5 (G : CallT) (x30 : AV) (k__8 : K) (k__7 : K) (k__6 : K) (k__5 : K) (k__4 : K) (k__3 : K) (k__2 : K) (k__1 : K) (k_ : K) (H_11 : AHeap) (x19 : AV) (H : AHeap) (x3 x20 : AV) (x4 x21 : AV) (H_10 : AHeap) (x22 x23 : AV) (x24 x25 x7 : AV) (H_9 : AHeap) (k__9 : K) : O :=
 xb (pickOf x30 (some k__9.val) (some (.bool false))) (s6_4 G k__9 k__8 k__7 k__6 k__5 k__4 k__3 k__2 k__1 k_ H_11 x19 H x3 x20 x4 x21 H_10 x22 x23 x24 x25 x7 x30 H_9)
def s6_6 (G : CallT) (x30 : AV) (k__5 : K) (k__7 : K) (k__6 : K) (k__4 : K) (k__3 : K) (k__2 : K) (k__1 : K) (k_ : K) (H_11 : AHeap) (x19 : AV) (H : AHeap) (x3 x20 : AV) (x4 x21 : AV) (H_10 : AHeap) (x22 x23 : AV) (x24 x25 x7 : AV) (H_9 : AHeap) (k__8 : K) : O :=
 xguard x30 true (fun q => (fbin P .eql 4 false k__5.val k__8.val).bind fun v => q (.pure v)) (s6_5 G x30 k__8 k__7 k__6 k__5 k__4 k__3 k__2 k__1 k_ H_11 x19 H x3 x20 x4 x21 H_10 x22 x23 x24 x25 x7 H_9)
def s6_7 (G : CallT) (x30 : AV) (k__6 : K) (k__5 : K) (k__4 : K) (k__3 : K) (k__2 : K) (k__1 : K) (k_ : K) (H_11 : AHeap) (x19 : AV) (H : AHeap) (x3 x20 : AV) (x4 x21 : AV) (H_10 : AHeap) (x22 x23 : AV) (x24 x25 x7 : AV) (H_9 : AHeap) (k__7 : K) : O :=
 xguard x30 true (fun q => xeff (k__7.heap (k__6.heap (k__5.heap (k__4.heap (k__3.heap (k__2.heap (k__1.heap (k_.heap H_11)))))))) (G 24 [k__6.val, k__7.val] (k__7.heap (k__6.heap (k__5.heap (k__4.heap (k__3.heap (k__2.heap (k__1.heap (k_.heap H_11))))))))) q) (s6_6 G x30 k__5 k__7 k__6 k__4 k__3 k__2 k__1 k_ H_11 x19 H x3 x20 x4 x21 H_10 x22 x23 x24 x25 x7 H_9)
def s6_8 (G : CallT) (x30 : AV) (k__5 : K) (k__4 : K) (k__3 : K) (k__2 : K) (k__1 : K) (k_ : K) (H_11 : AHeap) (x4 x19 : AV) (H : AHeap) (x3 x20 x21 : AV) (H_10 : AHeap) (x22 x23 : AV) (x24 x25 x7 : AV) (H_9 : AHeap) (k__6 : K) : O :=
 xguard x30 true (fun q => (aload P (k__6.heap (k__5.heap (k__4.heap (k__3.heap (k__2.heap (k__1.heap (k_.heap H_11))))))) 39 x4).bind fun v => q (.read v)) (s6_7 G x30 k__6 k__5 k__4 k__3 k__2 k__1 k_ H_11 x19 H x3 x20 x4 x21 H_10 x22 x23 x24 x25 x7 H_9)
def s6_9 (G : CallT) (x30 : AV) (k__4 : K) (k__3 : K) (k__2 : K) (k__1 : K) (k_ : K) (H_11 : AHeap) (x3 x4 x19 : AV) (H : AHeap) (x20 x21 : AV) (H_10 : AHeap) (x22 x23 : AV) (x24 x25 x7 : AV) (H_9 : AHeap) (k__5 : K) : O :=
 xguard x30 true (fun q => (aload P (k__5.heap (k__4.heap (k__3.heap (k__2.heap (k__1.heap (k_.heap H_11)))))) 39 x3).bind fun v => q (.read v)) (s6_8 G x30 k__5 k__4 k__3 k__2 k__1 k_ H_11 x4 x19 H x3 x20 x21 H_10 x22 x23 x24 x25 x7 H_9)
def s6_10 (G : CallT) (x30 : AV) (k__3 : K) (k__2 : K) (k__1 : K) (k_ : K) (H_11 : AHeap) (x3 x4 x19 : AV) (H : AHeap) (x20 x21 : AV) (H_10 : AHeap) (x22 x23 : AV) (x24 x25 x7 : AV) (H_9 : AHeap) (k__4 : K) : O :=
 xguard x30 true (fun q => xeff (k__4.heap (k__3.heap (k__2.heap (k__1.heap (k_.heap H_11))))) (G 24 [k__3.val, k__4.val] (k__4.heap (k__3.heap (k__2.heap (k__1.heap (k_.heap H_11)))))) q) (s6_9 G x30 k__4 k__3 k__2 k__1 k_ H_11 x3 x4 x19 H x20 x21 H_10 x22 x23 x24 x25 x7 H_9)
def s6_11 (G : CallT) (x30 : AV) (k__2 : K) (k__1 : K) (k_ : K) (H_11 : AHeap) (x3 x4 x19 : AV) (H : AHeap) (x20 x21 : AV) (H_10 : AHeap) (x22 x23 : AV) (x24 x25 x7 : AV) (H_9 : AHeap) (k__3 : K) : O :=
 xguard x30 true (fun q => (aload P (k__3.heap (k__2.heap (k__1.heap (k_.heap H_11)))) 39 x3).bind fun v => q (.read v)) (s6_10 G x30 k__3 k__2 k__1 k_ H_11 x3 x4 x19 H x20 x21 H_10 x22 x23 x24 x25 x7 H_9)
def s6_12 (G : CallT) (k__2 : K) (k__1 : K) (k_ : K) (H_11 : AHeap) (x4 x3 x19 : AV) (H : AHeap) (x20 x21 : AV) (H_10 : AHeap) (x22 x23 : AV) (x24 x25 x7 : AV) (H_9 : AHeap) (x30 : AV) : O :=
 xguard x30 true (fun q => (aload P (k__2.heap (k__1.heap (k_.heap H_11))) 39 x4).bind fun v => q (.read v)) (s6_11 G x30 k__2 k__1 k_ H_11 x3 x4 x19 H x20 x21 H_10 x22 x23 x24 x25 x7 H_9)
def s6_13 (G : CallT) (x25 : AV) (k__1 : K) (k_ : K) (H_11 : AHeap) (x4 x3 x19 : AV) (H : AHeap) (x20 x21 : AV) (H_10 : AHeap) (x22 x23 : AV) (x24 x7 : AV) (H_9 : AHeap) (k__2 : K) : O :=
 xb (pickOf x25 (some k__2.val) (some (.bool false))) (s6_12 G k__2 k__1 k_ H_11 x4 x3 x19 H x20 x21 H_10 x22 x23 x24 x25 x7 H_9)
def s6_14 (G : CallT) (x25 : AV) (k_ : K) (H_11 : AHeap) (x4 x3 x19 : AV) (H : AHeap) (x20 x21 : AV) (H_10 : AHeap) (x22 x23 : AV) (x24 x7 : AV) (H_9 : AHeap) (k__1 : K) : O :=
 xguard x25 true (fun q => xeff (k__1.heap (k_.heap H_11)) (G 24 [k_.val, k__1.val] (k__1.heap (k_.heap H_11))) q) (s6_13 G x25 k__1 k_ H_11 x4 x3 x19 H x20 x21 H_10 x22 x23 x24 x7 H_9)
def s6_15 (G : CallT) (x25 : AV) (H_11 : AHeap) (x7 x4 : AV) (x3 x19 : AV) (H : AHeap) (x20 x21 : AV) (H_10 : AHeap) (x22 x23 x24 : AV) (H_9 : AHeap) (k_ : K) : O :=
 xguard x25 true (fun q => (aload P (k_.heap H_11) 39 x7).bind fun v => q (.read v)) (s6_14 G x25 k_ H_11 x4 x3 x19 H x20 x21 H_10 x22 x23 x24 x7 H_9)
def s6_16 G H_11 x3 x7 x4 x19 H x20 x21 H_10 x22 x23 x24 H_9 x25 :=
 xguard x25 true (fun q => (aload P H_11 39 x3).bind fun v => q (.read v)) (s6_15 G x25 H_11 x7 x4 x3 x19 H x20 x21 H_10 x22 x23 x24 H_9)
def s6_17 G x21 x3 x7 x4 x19 H x20 H_10 x22 x23 H_9 x24 H_11 :=
 xb (fbin P .eql 4 false x21 x24) (s6_16 G H_11 x3 x7 x4 x19 H x20 x21 H_10 x22 x23 x24 H_9)
def s6_18 (G : CallT) H_10 x22 x21 x3 x7 x4 x19 H x20 H_9 x23 :=
 xcall H_10 (G 22 [x22, x23] H_10) (s6_17 G x21 x3 x7 x4 x19 H x20 H_10 x22 x23 H_9)
def s6_19 G H_10 x4 x21 x3 x7 x19 H x20 H_9 x22 :=
 xb (aload P H_10 39 x4) (s6_18 G H_10 x22 x21 x3 x7 x4 x19 H x20 H_9)
def s6_20 G x3 x4 x7 x19 H x20 H_9 x21 H_10 :=
 xb (aload P H_10 39 x3) (s6_19 G H_10 x4 x21 x3 x7 x19 H x20 H_9)
def s6_21 (G : CallT) H_9 x19 x3 x4 x7 H x20 :=
 xcall H_9 (G 24 [x19, x20] H_9) (s6_20 G x3 x4 x7 x19 H x20 H_9)
def s6_22 G H_9 x4 x3 x7 H x19 :=
 xb (aload P H_9 39 x4) (s6_21 G H_9 x19 x3 x4 x7 H)
def s6_23 G x3 x4 x7 H H_9 :=
 xb (aload P H_9 39 x3) (s6_22 G H_9 x4 x3 x7 H)
def s6_24 G H_8 x2 x3 x4 x7 H x18 :=
 xstore H_8 (astore P H_8 3 x18 x2) (s6_23 G x3 x4 x7 H)
def s6_25 G x7 x2 x3 x4 H H_8 :=
 xb (afieldAddr P 39 x7 5) (s6_24 G H_8 x2 x3 x4 x7 H)
def s6_26 G x16 x2 x3 x4 H x7 H_7 :=
 xstore H_7 (astore P H_7 39 x7 x16) (s6_25 G x7 x2 x3 x4 H)
def s6_27 G H_6 x2 x3 x4 H x16 :=
 xalloc H_6 [(.int .i64 0), (.int .i64 0), (.str []), (.str []), (.int .i64 0), AV.nilSl, (.int .i64 0), (.int .i64 0), (.int .i64 0), (.int .i64 0), (.int .i64 0)] (s6_26 G x16 x2 x3 x4 H)
def s6_28 G H_6 x3 x2 x4 H :=
 xb (aload P H_6 39 x3) (s6_27 G H_6 x2 x3 x4 H)
def s6_29 G H_6 x3 x2 x4 H x15 :=
 xif (some x15) (s6_0 H_6) (s6_28 G H_6 x3 x2 x4 H)
def s6_30 G x10 x3 x2 x4 H x14 H_6 :=
 xb (pickOf x10 (some (.bool true)) (some x14)) (s6_29 G H_6 x3 x2 x4 H)
def s6_31 G x10 x3 x2 x4 H x13 H_5 :=
 xg x10 false H_5 (fun q => (fbin P .leq 3 true x13 (.int .i64 0)).bind fun v => q (.pure v)) (s6_30 G x10 x3 x2 x4 H)
def s6_32 (G : CallT) x10 x3 x2 x4 H x12 H_4 :=
 xg x10 false H_4 (fun q => xeff H_4 (G 23 [x12, (.int .i64 300)] H_4) q) (s6_31 G x10 x3 x2 x4 H)
def s6_33 G H_3 x4 x3 x2 H x10 :=
 xg x10 false H_3 (fun q => (aload P H_3 39 x4).bind fun v => q (.read v)) (s6_32 G x10 x3 x2 x4 H)
def s6_34 G x4 x3 x2 H x9 H_3 :=
 xb (fbin P .leq 3 true x9 (.int .i64 0)) (s6_33 G H_3 x4 x3 x2 H)
def s6_35 (G : CallT) H_2 x4 x3 x2 H x8 :=
 xcall H_2 (G 23 [x8, (.int .i64 300)] H_2) (s6_34 G x4 x3 x2 H)
def s6_36 G x3 x2 H x4 H_2 :=
 xb (aload P H_2 39 x3) (s6_35 G H_2 x4 x3 x2 H)
def s6_37 G x1 x2 H x3 H_1 :=
 xmake H_1 (boxOf (H_1).next x1) (s6_36 G x3 x2 H)
/-- runrig/runriglaw3.ExprSame -/
def s6 G x0 x1 x2 H :=
 xmake H (boxOf (H).next x0) (s6_37 G x1 x2 H)
theorem s6_eq (G : CallT) (N : Nat) (x0 : AV) (x1 : AV) (x2 : AV) (H : AHeap) : codeC P G N (bodyOf Try.f6) (retC P Try.f6.results.toList) [] (retC P Try.f6.results.toList) (argsF [x0, x1, x2]) H = s6 G x0 x1 x2 H := by
  refine Eq.trans ((via_leaf _ : ∀ R H, codeC P G N (bodyOf Try.f6) (retC P Try.f6.results.toList) [] (retC P Try.f6.results.toList) R H = _) (argsF [x0, x1, x2]) H) ?_
  delta s6 s6_37 s6_36 s6_35 s6_34 s6_33 s6_32 s6_31 s6_30 s6_29 s6_28 s6_27 s6_26 s6_25 s6_24 s6_23 s6_22 s6_21 s6_20 s6_19 s6_18 s6_17 s6_16 s6_15 s6_14 s6_13 s6_12 s6_11 s6_10 s6_9 s6_8 s6_7 s6_6 s6_5 s6_4 s6_3 s6_2 s6_1 s6_0
  kernel_rfl

theorem run6 (N : Nat) {x0 x1 x2 : AV} {H : AHeap} {r : AV × AHeap} (h : s6 (evw P) x0 x1 x2 H = some r) : evw P 6 [x0, x1, x2] H = some r :=
  evw_code (c := (bodyOf Try.f6)) (M := N) Try.func6 (by kernel_rfl) (by kernel_rfl) (by kernel_rfl) (Eq.trans (s6_eq (evw P) N x0 x1 x2 H) h)


end
end Go.Proofs.Ytnjoomfeddamcaa

