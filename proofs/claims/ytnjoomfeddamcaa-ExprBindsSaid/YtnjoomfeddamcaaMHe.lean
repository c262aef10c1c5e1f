/-
  Texts of one proof, laid together: ShE.
-/
import Derived.Test.YtnjoomfeddamcaaME
set_option linter.unusedVariables false
set_option linter.unusedSimpArgs false
/-
  What a program of ours printed of the code: each function's operations, one definition each, and that the evaluator does just these.
-/
namespace Go.Proofs.Ytnjoomfeddamcaa
open Go.Ev
set_option maxRecDepth 100000
noncomputable section
def s8_0 (H_13 : AHeap) : O :=
 some ((.bool true), H_13)
def s8_1 (H_27 : AHeap) : O :=
 some ((.bool false), H_27)
def s8_2 (x107 : AV) (k__16 : K) (k__15 : K) (k__14 : K) (k__13 : K) (k__12 : K) (k__11 : K) (k__10 : K) (k__9 : K) (k__8 : K) (k__7 : K) (k__6 : K) (k__5 : K) (k__4 : K) (k__3 : K) (k__2 : K) (k__1 : K) (k_ : K) (H_27 : AHeap) : O :=
 some (x107, (k__16.heap (k__15.heap (k__14.heap (k__13.heap (k__12.heap (k__11.heap (k__10.heap (k__9.heap (k__8.heap (k__7.heap (k__6.heap (k__5.heap (k__4.heap (k__3.heap (k__2.heap (k__1.heap (k_.heap H_27))))))))))))))))))
def s8_3 (x78 : AV) (H : AHeap) (x79 x14 : AV) (x0 x82 : AV) (x83 x84 : AV) (k_ : K) (k__1 : K) (k__2 : K) (k__3 : K) (k__4 : K) (k__5 : K) (x92 : AV) (k__6 : K) (k__7 : K) (k__8 : K) (k__9 : K) (k__10 : K) (k__11 : K) (k__12 : K) (k__13 : K) (k__14 : K) (k__15 : K) (x104 : AV) (k__16 : K) (H_27 : AHeap) (x107 : AV) : O :=
 bif dchk [0, 1, 0, 0, 12, 28, 63, 127, 255, 511, 1023, 2047, 4095, 8191, 16383, 32767, 65535, 131071, 262143, 524287, 1048575, 65535, 65535, 6356991, 14745599, 33554431, 67108863, 134217727, 268435455, 536870911, 1073741823] [0, 1, 2, 3, 4, 5, 6, 7, 8, 9, 10, 11, 12, 13, 14, 15, 16, 17, 18, 19, 20, 21, 22, 23, 24, 25, 26, 27, 28, 29, 30] [⟨0, (.pure x78), fun H => none⟩, ⟨1, (.read x79), fun H => aload P H 3 x78⟩, ⟨2, (.pure x14), fun H => none⟩, ⟨3, (.pure x0), fun H => none⟩, ⟨4, (.pure x82), fun H => none⟩, ⟨5, (.read x83), fun H => aload P H 3 x82⟩, ⟨6, (.pure x84), fun H => none⟩, ⟨7, (.pure x84), fun H => none⟩, ⟨8, k_, fun H => none⟩, ⟨9, k__1, fun H => aload P H 35 k_.val⟩, ⟨10, k__2, fun H => none⟩, ⟨11, k__3, fun H => none⟩, ⟨12, k__4, fun H => aload P H 9 k__3.val⟩, ⟨13, k__5, fun H => none⟩, ⟨14, (.pure x92), fun H => none⟩, ⟨15, (.pure x92), fun H => none⟩, ⟨16, k__6, fun H => none⟩, ⟨17, k__7, fun H => aload P H 35 k__6.val⟩, ⟨18, k__8, fun H => none⟩, ⟨19, k__9, fun H => none⟩, ⟨20, k__10, fun H => aload P H 3 k__9.val⟩, ⟨21, k__11, fun H => none⟩, ⟨22, k__12, fun H => none⟩, ⟨23, k__13, fun H => none⟩, ⟨24, k__14, fun H => aload P H 3 k__13.val⟩, ⟨25, k__15, fun H => none⟩, ⟨26, (.pure x104), fun H => none⟩, ⟨27, (.pure x104), fun H => none⟩, ⟨28, k__16, fun H => none⟩, ⟨29, (.pure x107), fun H => none⟩, ⟨30, (.pure x107), fun H => none⟩] H_27 then s8_2 x107 k__16 k__15 k__14 k__13 k__12 k__11 k__10 k__9 k__8 k__7 k__6 k__5 k__4 k__3 k__2 k__1 k_ H_27 else none
def s8_4 (x104 x78 : AV) (H : AHeap) (x79 x14 : AV) (x0 x82 : AV) (x83 x84 : AV) (k_ : K) (k__1 : K) (k__2 : K) (k__3 : K) (k__4 : K) (k__5 : K) (x92 : AV) (k__6 : K) (k__7 : K) (k__8 : K) (k__9 : K) (k__10 : K) (k__11 : K) (k__12 : K) (k__13 : K) (k__14 : K) (k__15 : K) (H_27 : AHeap) (k__16 : K) : O :=
 xb (pickOf x104 (some k__16.val) (some (.bool false))) (s8_3 x78 H x79 x14 x0 x82 x83 x84 k_ k__1 k__2 k__3 k__4 k__5 x92 k__6 k__7 k__8 k__9 k__10 k__11 k__12 k__13 k__14 k__15 x104 k__16 H_27)
def s8_5 (G : CallT) (k__15 : K) (k__14 : K) (k__13 : K) (k__12 : K) (k__11 : K) (k__10 : K) (k__9 : K) (k__8 : K) (k__7 : K) (k__6 : K) (k__5 : K) (k__4 : K) (k__3 : K) (k__2 : K) (k__1 : K) (k_ : K) (H_27 : AHeap) (x78 : AV) (H : AHeap) (x79 x14 : AV) (x0 x82 : AV) (x83 x84 : AV) (x92 x104 : AV) : O :=
 xguard x104 true (fun q => xeff (k__15.heap (k__14.heap (k__13.heap (k__12.heap (k__11.heap (k__10.heap (k__9.heap (k__8.heap (k__7.heap (k__6.heap (k__5.heap (k__4.heap (k__3.heap (k__2.heap (k__1.heap (k_.heap H_27)))))))))))))))) (G 17 [] (k__15.heap (k__14.heap (k__13.heap (k__12.heap (k__11.heap (k__10.heap (k__9.heap (k__8.heap (k__7.heap (k__6.heap (k__5.heap (k__4.heap (k__3.heap (k__2.heap (k__1.heap (k_.heap H_27))))))))))))))))) q) (s8_4 x104 x78 H x79 x14 x0 x82 x83 x84 k_ k__1 k__2 k__3 k__4 k__5 x92 k__6 k__7 k__8 k__9 k__10 k__11 k__12 k__13 k__14 k__15 H_27)
def s8_6 (G : CallT) (x92 : AV) (k__14 : K) (k__13 : K) (k__12 : K) (k__11 : K) (k__10 : K) (k__9 : K) (k__8 : K) (k__7 : K) (k__6 : K) (k__5 : K) (k__4 : K) (k__3 : K) (k__2 : K) (k__1 : K) (k_ : K) (H_27 : AHeap) (x78 : AV) (H : AHeap) (x79 x14 : AV) (x0 x82 : AV) (x83 x84 : AV) (k__15 : K) : O :=
 xb (pickOf x92 (some k__15.val) (some (.bool false))) (s8_5 G k__15 k__14 k__13 k__12 k__11 k__10 k__9 k__8 k__7 k__6 k__5 k__4 k__3 k__2 k__1 k_ H_27 x78 H x79 x14 x0 x82 x83 x84 x92)
def s8_7 (G : CallT) (x92 : AV) (k__10 : K) (k__13 : K) (k__12 : K) (k__11 : K) (k__9 : K) (k__8 : K) (k__7 : K) (k__6 : K) (k__5 : K) (k__4 : K) (k__3 : K) (k__2 : K) (k__1 : K) (k_ : K) (H_27 : AHeap) (x78 : AV) (H : AHeap) (x79 x14 : AV) (x0 x82 : AV) (x83 x84 : AV) (k__14 : K) : O :=
 xguard x92 true (fun q => (fbin P .eql 3 false k__10.val k__14.val).bind fun v => q (.pure v)) (s8_6 G x92 k__14 k__13 k__12 k__11 k__10 k__9 k__8 k__7 k__6 k__5 k__4 k__3 k__2 k__1 k_ H_27 x78 H x79 x14 x0 x82 x83 x84)
def s8_8 (G : CallT) (x92 : AV) (k__12 : K) (k__11 : K) (k__10 : K) (k__9 : K) (k__8 : K) (k__7 : K) (k__6 : K) (k__5 : K) (k__4 : K) (k__3 : K) (k__2 : K) (k__1 : K) (k_ : K) (H_27 : AHeap) (x78 : AV) (H : AHeap) (x79 x14 : AV) (x0 x82 : AV) (x83 x84 : AV) (k__13 : K) : O :=
 xguard x92 true (fun q => (aload P (k__13.heap (k__12.heap (k__11.heap (k__10.heap (k__9.heap (k__8.heap (k__7.heap (k__6.heap (k__5.heap (k__4.heap (k__3.heap (k__2.heap (k__1.heap (k_.heap H_27)))))))))))))) 3 k__13.val).bind fun v => q (.read v)) (s8_7 G x92 k__10 k__13 k__12 k__11 k__9 k__8 k__7 k__6 k__5 k__4 k__3 k__2 k__1 k_ H_27 x78 H x79 x14 x0 x82 x83 x84)
def s8_9 (G : CallT) (x92 : AV) (k__11 : K) (k__10 : K) (k__9 : K) (k__8 : K) (k__7 : K) (k__6 : K) (k__5 : K) (k__4 : K) (k__3 : K) (k__2 : K) (k__1 : K) (k_ : K) (H_27 : AHeap) (x78 : AV) (H : AHeap) (x79 x14 : AV) (x0 x82 : AV) (x83 x84 : AV) (k__12 : K) : O :=
 xguard x92 true (fun q => (aindexAddr P 48 k__11.val k__12.val).bind fun v => q (.pure v)) (s8_8 G x92 k__12 k__11 k__10 k__9 k__8 k__7 k__6 k__5 k__4 k__3 k__2 k__1 k_ H_27 x78 H x79 x14 x0 x82 x83 x84)
def s8_10 G x92 x1 k__10 k__9 k__8 k__7 k__6 k__5 k__4 k__3 k__2 k__1 k_ H_27 x78 H x79 x14 x0 x82 x83 x84 k__11 :=
 xguard x92 true (fun q => q (.pure x1)) (s8_9 G x92 k__11 k__10 k__9 k__8 k__7 k__6 k__5 k__4 k__3 k__2 k__1 k_ H_27 x78 H x79 x14 x0 x82 x83 x84)
def s8_11 G x92 x14 x1 k__9 k__8 k__7 k__6 k__5 k__4 k__3 k__2 k__1 k_ H_27 x78 H x79 x0 x82 x83 x84 k__10 :=
 xguard x92 true (fun q => q (.pure x14)) (s8_10 G x92 x1 k__10 k__9 k__8 k__7 k__6 k__5 k__4 k__3 k__2 k__1 k_ H_27 x78 H x79 x14 x0 x82 x83 x84)
def s8_12 (G : CallT) (x92 : AV) (k__8 : K) (k__7 : K) (k__6 : K) (k__5 : K) (k__4 : K) (k__3 : K) (k__2 : K) (k__1 : K) (k_ : K) (H_27 : AHeap) (x14 x1 x78 : AV) (H : AHeap) (x79 x0 : AV) (x82 x83 x84 : AV) (k__9 : K) : O :=
 xguard x92 true (fun q => (aload P (k__9.heap (k__8.heap (k__7.heap (k__6.heap (k__5.heap (k__4.heap (k__3.heap (k__2.heap (k__1.heap (k_.heap H_27)))))))))) 3 k__9.val).bind fun v => q (.read v)) (s8_11 G x92 x14 x1 k__9 k__8 k__7 k__6 k__5 k__4 k__3 k__2 k__1 k_ H_27 x78 H x79 x0 x82 x83 x84)
def s8_13 (G : CallT) (x92 : AV) (k__7 : K) (k__6 : K) (k__5 : K) (k__4 : K) (k__3 : K) (k__2 : K) (k__1 : K) (k_ : K) (H_27 : AHeap) (x14 x1 x78 : AV) (H : AHeap) (x79 x0 : AV) (x82 x83 x84 : AV) (k__8 : K) : O :=
 xguard x92 true (fun q => (afieldAddr P 39 k__8.val 0).bind fun v => q (.pure v)) (s8_12 G x92 k__8 k__7 k__6 k__5 k__4 k__3 k__2 k__1 k_ H_27 x14 x1 x78 H x79 x0 x82 x83 x84)
def s8_14 (G : CallT) (x92 : AV) (k__6 : K) (k__5 : K) (k__4 : K) (k__3 : K) (k__2 : K) (k__1 : K) (k_ : K) (H_27 : AHeap) (x14 x1 x78 : AV) (H : AHeap) (x79 x0 : AV) (x82 x83 x84 : AV) (k__7 : K) : O :=
 xguard x92 true (fun q => (aindexAddr P 35 k__7.val (.int .i64 1)).bind fun v => q (.pure v)) (s8_13 G x92 k__7 k__6 k__5 k__4 k__3 k__2 k__1 k_ H_27 x14 x1 x78 H x79 x0 x82 x83 x84)
def s8_15 (G : CallT) (x92 : AV) (k__5 : K) (k__4 : K) (k__3 : K) (k__2 : K) (k__1 : K) (k_ : K) (H_27 : AHeap) (x14 x1 x78 : AV) (H : AHeap) (x79 x0 : AV) (x82 x83 x84 : AV) (k__6 : K) : O :=
 xguard x92 true (fun q => (aload P (k__6.heap (k__5.heap (k__4.heap (k__3.heap (k__2.heap (k__1.heap (k_.heap H_27))))))) 35 k__6.val).bind fun v => q (.read v)) (s8_14 G x92 k__6 k__5 k__4 k__3 k__2 k__1 k_ H_27 x14 x1 x78 H x79 x0 x82 x83 x84)
def s8_16 G x10 k__5 k__4 k__3 k__2 k__1 k_ H_27 x14 x1 x78 H x79 x0 x82 x83 x84 x92 :=
 xguard x92 true (fun q => (afieldAddr P 39 x10 4).bind fun v => q (.pure v)) (s8_15 G x92 k__5 k__4 k__3 k__2 k__1 k_ H_27 x14 x1 x78 H x79 x0 x82 x83 x84)
def s8_17 (G : CallT) (x84 x10 : AV) (k__4 : K) (k__3 : K) (k__2 : K) (k__1 : K) (k_ : K) (H_27 : AHeap) (x14 x1 x78 : AV) (H : AHeap) (x79 x0 : AV) (x82 x83 : AV) (k__5 : K) : O :=
 xb (pickOf x84 (some k__5.val) (some (.bool false))) (s8_16 G x10 k__5 k__4 k__3 k__2 k__1 k_ H_27 x14 x1 x78 H x79 x0 x82 x83 x84)
def s8_18 (G : CallT) (x84 x10 : AV) (k__3 : K) (k__2 : K) (k__1 : K) (k_ : K) (H_27 : AHeap) (x14 x1 x78 : AV) (H : AHeap) (x79 x0 : AV) (x82 x83 : AV) (k__4 : K) : O :=
 xguard x84 true (fun q => (fbin P .eql 9 true k__4.val (.str [97])).bind fun v => q (.pure v)) (s8_17 G x84 x10 k__4 k__3 k__2 k__1 k_ H_27 x14 x1 x78 H x79 x0 x82 x83)
def s8_19 (G : CallT) (x84 : AV) (k__2 : K) (k__1 : K) (k_ : K) (H_27 : AHeap) (x10 x14 : AV) (x1 x78 : AV) (H : AHeap) (x79 x0 : AV) (x82 x83 : AV) (k__3 : K) : O :=
 xguard x84 true (fun q => (aload P (k__3.heap (k__2.heap (k__1.heap (k_.heap H_27)))) 9 k__3.val).bind fun v => q (.read v)) (s8_18 G x84 x10 k__3 k__2 k__1 k_ H_27 x14 x1 x78 H x79 x0 x82 x83)
def s8_20 (G : CallT) (x84 : AV) (k__1 : K) (k_ : K) (H_27 : AHeap) (x10 x14 : AV) (x1 x78 : AV) (H : AHeap) (x79 x0 : AV) (x82 x83 : AV) (k__2 : K) : O :=
 xguard x84 true (fun q => (afieldAddr P 39 k__2.val 2).bind fun v => q (.pure v)) (s8_19 G x84 k__2 k__1 k_ H_27 x10 x14 x1 x78 H x79 x0 x82 x83)
def s8_21 (G : CallT) (x84 : AV) (k_ : K) (H_27 : AHeap) (x10 x14 : AV) (x1 x78 : AV) (H : AHeap) (x79 x0 : AV) (x82 x83 : AV) (k__1 : K) : O :=
 xguard x84 true (fun q => (aindexAddr P 35 k__1.val (.int .i64 0)).bind fun v => q (.pure v)) (s8_20 G x84 k__1 k_ H_27 x10 x14 x1 x78 H x79 x0 x82 x83)
def s8_22 (G : CallT) (x84 : AV) (H_27 : AHeap) (x10 x14 : AV) (x1 x78 : AV) (H : AHeap) (x79 x0 : AV) (x82 x83 : AV) (k_ : K) : O :=
 xguard x84 true (fun q => (aload P (k_.heap H_27) 35 k_.val).bind fun v => q (.read v)) (s8_21 G x84 k_ H_27 x10 x14 x1 x78 H x79 x0 x82 x83)
def s8_23 G x10 H_27 x14 x1 x78 H x79 x0 x82 x83 x84 :=
 xguard x84 true (fun q => (afieldAddr P 39 x10 4).bind fun v => q (.pure v)) (s8_22 G x84 H_27 x10 x14 x1 x78 H x79 x0 x82 x83)
def s8_24 G x79 x10 H_27 x14 x1 x78 H x0 x82 x83 :=
 xb (fbin P .eql 3 false x79 x83) (s8_23 G x10 H_27 x14 x1 x78 H x79 x0 x82 x83)
def s8_25 G H_27 x79 x10 x14 x1 x78 H x0 x82 :=
 xb (aload P H_27 3 x82) (s8_24 G x79 x10 H_27 x14 x1 x78 H x0 x82)
def s8_26 G x14 x0 H_27 x10 x1 x78 H x79 :=
 xb (aindexAddr P 48 x14 x0) (s8_25 G H_27 x79 x10 x14 x1 x78 H x0)
def s8_27 G H_27 x14 x0 x10 x1 H x78 :=
 xb (aload P H_27 3 x78) (s8_26 G x14 x0 H_27 x10 x1 x78 H)
def s8_28 G x10 H_27 x14 x0 x1 H :=
 xb (afieldAddr P 39 x10 0) (s8_27 G H_27 x14 x0 x10 x1 H)
def s8_29 (x137 : AV) (k__16 : K) (k__15 : K) (k__14 : K) (k__13 : K) (k__12 : K) (k__11 : K) (k__10 : K) (k__9 : K) (k__8 : K) (k__7 : K) (k__6 : K) (k__5 : K) (k__4 : K) (k__3 : K) (k__2 : K) (k__1 : K) (k_ : K) (H_27 : AHeap) : O :=
 some (x137, (k__16.heap (k__15.heap (k__14.heap (k__13.heap (k__12.heap (k__11.heap (k__10.heap (k__9.heap (k__8.heap (k__7.heap (k__6.heap (k__5.heap (k__4.heap (k__3.heap (k__2.heap (k__1.heap (k_.heap H_27))))))))))))))))))
def s8_30 (x108 : AV) (H : AHeap) (x109 x14 : AV) (x1 x112 : AV) (x113 x114 : AV) (k_ : K) (k__1 : K) (k__2 : K) (k__3 : K) (k__4 : K) (k__5 : K) (x122 : AV) (k__6 : K) (k__7 : K) (k__8 : K) (k__9 : K) (k__10 : K) (k__11 : K) (k__12 : K) (k__13 : K) (k__14 : K) (k__15 : K) (x134 : AV) (k__16 : K) (H_27 : AHeap) (x137 : AV) : O :=
 bif dchk [0, 1, 0, 0, 12, 28, 63, 127, 255, 511, 1023, 2047, 4095, 8191, 16383, 32767, 65535, 131071, 262143, 524287, 1048575, 65535, 65535, 6356991, 14745599, 33554431, 67108863, 134217727, 268435455, 536870911, 1073741823] [0, 1, 2, 3, 4, 5, 6, 7, 8, 9, 10, 11, 12, 13, 14, 15, 16, 17, 18, 19, 20, 21, 22, 23, 24, 25, 26, 27, 28, 29, 30] [⟨0, (.pure x108), fun H => none⟩, ⟨1, (.read x109), fun H => aload P H 3 x108⟩, ⟨2, (.pure x14), fun H => none⟩, ⟨3, (.pure x1), fun H => none⟩, ⟨4, (.pure x112), fun H => none⟩, ⟨5, (.read x113), fun H => aload P H 3 x112⟩, ⟨6, (.pure x114), fun H => none⟩, ⟨7, (.pure x114), fun H => none⟩, ⟨8, k_, fun H => none⟩, ⟨9, k__1, fun H => aload P H 35 k_.val⟩, ⟨10, k__2, fun H => none⟩, ⟨11, k__3, fun H => none⟩, ⟨12, k__4, fun H => aload P H 9 k__3.val⟩, ⟨13, k__5, fun H => none⟩, ⟨14, (.pure x122), fun H => none⟩, ⟨15, (.pure x122), fun H => none⟩, ⟨16, k__6, fun H => none⟩, ⟨17, k__7, fun H => aload P H 35 k__6.val⟩, ⟨18, k__8, fun H => none⟩, ⟨19, k__9, fun H => none⟩, ⟨20, k__10, fun H => aload P H 3 k__9.val⟩, ⟨21, k__11, fun H => none⟩, ⟨22, k__12, fun H => none⟩, ⟨23, k__13, fun H => none⟩, ⟨24, k__14, fun H => aload P H 3 k__13.val⟩, ⟨25, k__15, fun H => none⟩, ⟨26, (.pure x134), fun H => none⟩, ⟨27, (.pure x134), fun H => none⟩, ⟨28, k__16, fun H => none⟩, ⟨29, (.pure x137), fun H => none⟩, ⟨30, (.pure x137), fun H => none⟩] H_27 then s8_29 x137 k__16 k__15 k__14 k__13 k__12 k__11 k__10 k__9 k__8 k__7 k__6 k__5 k__4 k__3 k__2 k__1 k_ H_27 else none
def s8_31 (x134 x108 : AV) (H : AHeap) (x109 x14 : AV) (x1 x112 : AV) (x113 x114 : AV) (k_ : K) (k__1 : K) (k__2 : K) (k__3 : K) (k__4 : K) (k__5 : K) (x122 : AV) (k__6 : K) (k__7 : K) (k__8 : K) (k__9 : K) (k__10 : K) (k__11 : K) (k__12 : K) (k__13 : K) (k__14 : K) (k__15 : K) (H_27 : AHeap) (k__16 : K) : O :=
 xb (pickOf x134 (some k__16.val) (some (.bool false))) (s8_30 x108 H x109 x14 x1 x112 x113 x114 k_ k__1 k__2 k__3 k__4 k__5 x122 k__6 k__7 k__8 k__9 k__10 k__11 k__12 k__13 k__14 k__15 x134 k__16 H_27)
def s8_32 (G : CallT) (k__15 : K) (k__14 : K) (k__13 : K) (k__12 : K) (k__11 : K) (k__10 : K) (k__9 : K) (k__8 : K) (k__7 : K) (k__6 : K) (k__5 : K) (k__4 : K) (k__3 : K) (k__2 : K) (k__1 : K) (k_ : K) (H_27 : AHeap) (x108 : AV) (H : AHeap) (x109 x14 : AV) (x1 x112 : AV) (x113 x114 : AV) (x122 x134 : AV) : O :=
 xguard x134 true (fun q => xeff (k__15.heap (k__14.heap (k__13.heap (k__12.heap (k__11.heap (k__10.heap (k__9.heap (k__8.heap (k__7.heap (k__6.heap (k__5.heap (k__4.heap (k__3.heap (k__2.heap (k__1.heap (k_.heap H_27)))))))))))))))) (G 17 [] (k__15.heap (k__14.heap (k__13.heap (k__12.heap (k__11.heap (k__10.heap (k__9.heap (k__8.heap (k__7.heap (k__6.heap (k__5.heap (k__4.heap (k__3.heap (k__2.heap (k__1.heap (k_.heap H_27))))))))))))))))) q) (s8_31 x134 x108 H x109 x14 x1 x112 x113 x114 k_ k__1 k__2 k__3 k__4 k__5 x122 k__6 k__7 k__8 k__9 k__10 k__11 k__12 k__13 k__14 k__15 H_27)
def s8_33 (G : CallT) (x122 : AV) (k__14 : K) (k__13 : K) (k__12 : K) (k__11 : K) (k__10 : K) (k__9 : K) (k__8 : K) (k__7 : K) (k__6 : K) (k__5 : K) (k__4 : K) (k__3 : K) (k__2 : K) (k__1 : K) (k_ : K) (H_27 : AHeap) (x108 : AV) (H : AHeap) (x109 x14 : AV) (x1 x112 : AV) (x113 x114 : AV) (k__15 : K) : O :=
 xb (pickOf x122 (some k__15.val) (some (.bool false))) (s8_32 G k__15 k__14 k__13 k__12 k__11 k__10 k__9 k__8 k__7 k__6 k__5 k__4 k__3 k__2 k__1 k_ H_27 x108 H x109 x14 x1 x112 x113 x114 x122)
def s8_34 (G : CallT) (x122 : AV) (k__10 : K) (k__13 : K) (k__12 : K) (k__11 : K) (k__9 : K) (k__8 : K) (k__7 : K) (k__6 : K) (k__5 : K) (k__4 : K) (k__3 : K) (k__2 : K) (k__1 : K) (k_ : K) (H_27 : AHeap) (x108 : AV) (H : AHeap) (x109 x14 : AV) (x1 x112 : AV) (x113 x114 : AV) (k__14 : K) : O :=
 xguard x122 true (fun q => (fbin P .eql 3 false k__10.val k__14.val).bind fun v => q (.pure v)) (s8_33 G x122 k__14 k__13 k__12 k__11 k__10 k__9 k__8 k__7 k__6 k__5 k__4 k__3 k__2 k__1 k_ H_27 x108 H x109 x14 x1 x112 x113 x114)
def s8_35 (G : CallT) (x122 : AV) (k__12 : K) (k__11 : K) (k__10 : K) (k__9 : K) (k__8 : K) (k__7 : K) (k__6 : K) (k__5 : K) (k__4 : K) (k__3 : K) (k__2 : K) (k__1 : K) (k_ : K) (H_27 : AHeap) (x108 : AV) (H : AHeap) (x109 x14 : AV) (x1 x112 : AV) (x113 x114 : AV) (k__13 : K) : O :=
 xguard x122 true (fun q => (aload P (k__13.heap (k__12.heap (k__11.heap (k__10.heap (k__9.heap (k__8.heap (k__7.heap (k__6.heap (k__5.heap (k__4.heap (k__3.heap (k__2.heap (k__1.heap (k_.heap H_27)))))))))))))) 3 k__13.val).bind fun v => q (.read v)) (s8_34 G x122 k__10 k__13 k__12 k__11 k__9 k__8 k__7 k__6 k__5 k__4 k__3 k__2 k__1 k_ H_27 x108 H x109 x14 x1 x112 x113 x114)
def s8_36 (G : CallT) (x122 : AV) (k__11 : K) (k__10 : K) (k__9 : K) (k__8 : K) (k__7 : K) (k__6 : K) (k__5 : K) (k__4 : K) (k__3 : K) (k__2 : K) (k__1 : K) (k_ : K) (H_27 : AHeap) (x108 : AV) (H : AHeap) (x109 x14 : AV) (x1 x112 : AV) (x113 x114 : AV) (k__12 : K) : O :=
 xguard x122 true (fun q => (aindexAddr P 48 k__11.val k__12.val).bind fun v => q (.pure v)) (s8_35 G x122 k__12 k__11 k__10 k__9 k__8 k__7 k__6 k__5 k__4 k__3 k__2 k__1 k_ H_27 x108 H x109 x14 x1 x112 x113 x114)
def s8_37 G x122 x0 k__10 k__9 k__8 k__7 k__6 k__5 k__4 k__3 k__2 k__1 k_ H_27 x108 H x109 x14 x1 x112 x113 x114 k__11 :=
 xguard x122 true (fun q => q (.pure x0)) (s8_36 G x122 k__11 k__10 k__9 k__8 k__7 k__6 k__5 k__4 k__3 k__2 k__1 k_ H_27 x108 H x109 x14 x1 x112 x113 x114)
def s8_38 G x122 x14 x0 k__9 k__8 k__7 k__6 k__5 k__4 k__3 k__2 k__1 k_ H_27 x108 H x109 x1 x112 x113 x114 k__10 :=
 xguard x122 true (fun q => q (.pure x14)) (s8_37 G x122 x0 k__10 k__9 k__8 k__7 k__6 k__5 k__4 k__3 k__2 k__1 k_ H_27 x108 H x109 x14 x1 x112 x113 x114)
def s8_39 (G : CallT) (x122 : AV) (k__8 : K) (k__7 : K) (k__6 : K) (k__5 : K) (k__4 : K) (k__3 : K) (k__2 : K) (k__1 : K) (k_ : K) (H_27 : AHeap) (x14 x0 x108 : AV) (H : AHeap) (x109 x1 : AV) (x112 x113 x114 : AV) (k__9 : K) : O :=
 xguard x122 true (fun q => (aload P (k__9.heap (k__8.heap (k__7.heap (k__6.heap (k__5.heap (k__4.heap (k__3.heap (k__2.heap (k__1.heap (k_.heap H_27)))))))))) 3 k__9.val).bind fun v => q (.read v)) (s8_38 G x122 x14 x0 k__9 k__8 k__7 k__6 k__5 k__4 k__3 k__2 k__1 k_ H_27 x108 H x109 x1 x112 x113 x114)
def s8_40 (G : CallT) (x122 : AV) (k__7 : K) (k__6 : K) (k__5 : K) (k__4 : K) (k__3 : K) (k__2 : K) (k__1 : K) (k_ : K) (H_27 : AHeap) (x14 x0 x108 : AV) (H : AHeap) (x109 x1 : AV) (x112 x113 x114 : AV) (k__8 : K) : O :=
 xguard x122 true (fun q => (afieldAddr P 39 k__8.val 0).bind fun v => q (.pure v)) (s8_39 G x122 k__8 k__7 k__6 k__5 k__4 k__3 k__2 k__1 k_ H_27 x14 x0 x108 H x109 x1 x112 x113 x114)
def s8_41 (G : CallT) (x122 : AV) (k__6 : K) (k__5 : K) (k__4 : K) (k__3 : K) (k__2 : K) (k__1 : K) (k_ : K) (H_27 : AHeap) (x14 x0 x108 : AV) (H : AHeap) (x109 x1 : AV) (x112 x113 x114 : AV) (k__7 : K) : O :=
 xguard x122 true (fun q => (aindexAddr P 35 k__7.val (.int .i64 0)).bind fun v => q (.pure v)) (s8_40 G x122 k__7 k__6 k__5 k__4 k__3 k__2 k__1 k_ H_27 x14 x0 x108 H x109 x1 x112 x113 x114)
def s8_42 (G : CallT) (x122 : AV) (k__5 : K) (k__4 : K) (k__3 : K) (k__2 : K) (k__1 : K) (k_ : K) (H_27 : AHeap) (x14 x0 x108 : AV) (H : AHeap) (x109 x1 : AV) (x112 x113 x114 : AV) (k__6 : K) : O :=
 xguard x122 true (fun q => (aload P (k__6.heap (k__5.heap (k__4.heap (k__3.heap (k__2.heap (k__1.heap (k_.heap H_27))))))) 35 k__6.val).bind fun v => q (.read v)) (s8_41 G x122 k__6 k__5 k__4 k__3 k__2 k__1 k_ H_27 x14 x0 x108 H x109 x1 x112 x113 x114)
def s8_43 G x10 k__5 k__4 k__3 k__2 k__1 k_ H_27 x14 x0 x108 H x109 x1 x112 x113 x114 x122 :=
 xguard x122 true (fun q => (afieldAddr P 39 x10 4).bind fun v => q (.pure v)) (s8_42 G x122 k__5 k__4 k__3 k__2 k__1 k_ H_27 x14 x0 x108 H x109 x1 x112 x113 x114)
def s8_44 (G : CallT) (x114 x10 : AV) (k__4 : K) (k__3 : K) (k__2 : K) (k__1 : K) (k_ : K) (H_27 : AHeap) (x14 x0 x108 : AV) (H : AHeap) (x109 x1 : AV) (x112 x113 : AV) (k__5 : K) : O :=
 xb (pickOf x114 (some k__5.val) (some (.bool false))) (s8_43 G x10 k__5 k__4 k__3 k__2 k__1 k_ H_27 x14 x0 x108 H x109 x1 x112 x113 x114)
def s8_45 (G : CallT) (x114 x10 : AV) (k__3 : K) (k__2 : K) (k__1 : K) (k_ : K) (H_27 : AHeap) (x14 x0 x108 : AV) (H : AHeap) (x109 x1 : AV) (x112 x113 : AV) (k__4 : K) : O :=
 xguard x114 true (fun q => (fbin P .eql 9 true k__4.val (.str [99])).bind fun v => q (.pure v)) (s8_44 G x114 x10 k__4 k__3 k__2 k__1 k_ H_27 x14 x0 x108 H x109 x1 x112 x113)
def s8_46 (G : CallT) (x114 : AV) (k__2 : K) (k__1 : K) (k_ : K) (H_27 : AHeap) (x10 x14 : AV) (x0 x108 : AV) (H : AHeap) (x109 x1 : AV) (x112 x113 : AV) (k__3 : K) : O :=
 xguard x114 true (fun q => (aload P (k__3.heap (k__2.heap (k__1.heap (k_.heap H_27)))) 9 k__3.val).bind fun v => q (.read v)) (s8_45 G x114 x10 k__3 k__2 k__1 k_ H_27 x14 x0 x108 H x109 x1 x112 x113)
def s8_47 (G : CallT) (x114 : AV) (k__1 : K) (k_ : K) (H_27 : AHeap) (x10 x14 : AV) (x0 x108 : AV) (H : AHeap) (x109 x1 : AV) (x112 x113 : AV) (k__2 : K) : O :=
 xguard x114 true (fun q => (afieldAddr P 39 k__2.val 2).bind fun v => q (.pure v)) (s8_46 G x114 k__2 k__1 k_ H_27 x10 x14 x0 x108 H x109 x1 x112 x113)
def s8_48 (G : CallT) (x114 : AV) (k_ : K) (H_27 : AHeap) (x10 x14 : AV) (x0 x108 : AV) (H : AHeap) (x109 x1 : AV) (x112 x113 : AV) (k__1 : K) : O :=
 xguard x114 true (fun q => (aindexAddr P 35 k__1.val (.int .i64 1)).bind fun v => q (.pure v)) (s8_47 G x114 k__1 k_ H_27 x10 x14 x0 x108 H x109 x1 x112 x113)
def s8_49 (G : CallT) (x114 : AV) (H_27 : AHeap) (x10 x14 : AV) (x0 x108 : AV) (H : AHeap) (x109 x1 : AV) (x112 x113 : AV) (k_ : K) : O :=
 xguard x114 true (fun q => (aload P (k_.heap H_27) 35 k_.val).bind fun v => q (.read v)) (s8_48 G x114 k_ H_27 x10 x14 x0 x108 H x109 x1 x112 x113)
def s8_50 G x10 H_27 x14 x0 x108 H x109 x1 x112 x113 x114 :=
 xguard x114 true (fun q => (afieldAddr P 39 x10 4).bind fun v => q (.pure v)) (s8_49 G x114 H_27 x10 x14 x0 x108 H x109 x1 x112 x113)
def s8_51 G x109 x10 H_27 x14 x0 x108 H x1 x112 x113 :=
 xb (fbin P .eql 3 false x109 x113) (s8_50 G x10 H_27 x14 x0 x108 H x109 x1 x112 x113)
def s8_52 G H_27 x109 x10 x14 x0 x108 H x1 x112 :=
 xb (aload P H_27 3 x112) (s8_51 G x109 x10 H_27 x14 x0 x108 H x1 x112)
def s8_53 G x14 x1 H_27 x10 x0 x108 H x109 :=
 xb (aindexAddr P 48 x14 x1) (s8_52 G H_27 x109 x10 x14 x0 x108 H x1)
def s8_54 G H_27 x14 x1 x10 x0 H x108 :=
 xb (aload P H_27 3 x108) (s8_53 G x14 x1 H_27 x10 x0 x108 H)
def s8_55 G x10 H_27 x14 x1 x0 H :=
 xb (afieldAddr P 39 x10 0) (s8_54 G H_27 x14 x1 x10 x0 H)
def s8_56 G x10 H_27 x14 x0 x1 H x77 :=
 xif (some x77) (s8_28 G x10 H_27 x14 x0 x1 H) (s8_55 G x10 H_27 x14 x1 x0 H)
def s8_57 G x72 x10 H_27 x14 x0 x1 H x76 :=
 xb (fbin P .gtr 3 false x72 x76) (s8_56 G x10 H_27 x14 x0 x1 H)
def s8_58 G H_27 x72 x10 x14 x0 x1 H x75 :=
 xb (aload P H_27 3 x75) (s8_57 G x72 x10 H_27 x14 x0 x1 H)
def s8_59 G x15 x0 H_27 x10 x14 x1 H x72 :=
 xb (aindexAddr P 48 x15 x0) (s8_58 G H_27 x72 x10 x14 x0 x1 H)
def s8_60 G H_27 x15 x0 x10 x14 x1 H x71 :=
 xb (aload P H_27 3 x71) (s8_59 G x15 x0 H_27 x10 x14 x1 H)
def s8_61 G x15 x1 H_27 x0 x10 x14 H :=
 xb (aindexAddr P 48 x15 x1) (s8_60 G H_27 x15 x0 x10 x14 x1 H)
def s8_62 G H_27 x15 x1 x0 x10 x14 H x68 :=
 xif (some x68) (s8_1 H_27) (s8_61 G x15 x1 H_27 x0 x10 x14 H)
def s8_63 G x62 x15 x1 x0 x10 x14 H x67 H_27 :=
 xb (pickOf x62 (some (.bool true)) (some x67)) (s8_62 G H_27 x15 x1 x0 x10 x14 H)
def s8_64 G x62 x15 x1 x0 x10 x14 H x66 H_26 :=
 xg x62 false H_26 (fun q => (fbin P .neq 3 true x66 (.int .i64 2)).bind fun v => q (.pure v)) (s8_63 G x62 x15 x1 x0 x10 x14 H)
def s8_65 G x62 x15 x1 x0 x10 x14 H x65 H_25 :=
 xg x62 false H_25 (fun q => xboth (abuiltin P .empty .len [35] [x65]) (abuiltin P H_25 .len [35] [x65]) q) (s8_64 G x62 x15 x1 x0 x10 x14 H)
def s8_66 G x62 x15 x1 x0 x10 x14 H x64 H_24 :=
 xg x62 false H_24 (fun q => (aload P H_24 35 x64).bind fun v => q (.read v)) (s8_65 G x62 x15 x1 x0 x10 x14 H)
def s8_67 G H_23 x10 x15 x1 x0 x14 H x62 :=
 xg x62 false H_23 (fun q => (afieldAddr P 39 x10 4).bind fun v => q (.pure v)) (s8_66 G x62 x15 x1 x0 x10 x14 H)
def s8_68 G x58 x10 x15 x1 x0 x14 H x61 H_23 :=
 xb (pickOf x58 (some (.bool true)) (some x61)) (s8_67 G H_23 x10 x15 x1 x0 x14 H)
def s8_69 G x58 x10 x15 x1 x0 x14 H x60 H_22 :=
 xg x58 false H_22 (fun q => (fbin P .neq 3 true x60 (.int .i64 5)).bind fun v => q (.pure v)) (s8_68 G x58 x10 x15 x1 x0 x14 H)
def s8_70 G H_21 x54 x10 x15 x1 x0 x14 H x58 :=
 xg x58 false H_21 (fun q => q (.pure x54)) (s8_69 G x58 x10 x15 x1 x0 x14 H)
def s8_71 G H_21 x54 x10 x15 x1 x0 x14 H x57 :=
 xb (fbin P .neq 23 true x57 (.int .i64 0)) (s8_70 G H_21 x54 x10 x15 x1 x0 x14 H)
def s8_72 G H_21 x54 x10 x15 x1 x0 x14 H x56 :=
 xb (aload P H_21 23 x56) (s8_71 G H_21 x54 x10 x15 x1 x0 x14 H)
def s8_73 G x12 x54 x10 x15 x1 x0 x14 H H_21 :=
 xb (afieldAddr P 25 x12 0) (s8_72 G H_21 x54 x10 x15 x1 x0 x14 H)
def s8_74 G x12 x55 x54 x10 x15 x1 x0 x14 H H_20 :=
 xstore H_20 (astore P H_20 25 x12 x55) (s8_73 G x12 x54 x10 x15 x1 x0 x14 H)
def s8_75 G x10 x53 x55 x54 x15 x1 x0 x14 H x12 H_19 :=
 xstore H_19 (astore P H_19 39 x10 x53) (s8_74 G x12 x55 x54 x10 x15 x1 x0 x14 H)
def s8_76 G x53 x55 x54 x15 x1 x0 x14 H x10 H_18 :=
 xalloc H_18 [(.int .i64 0), (.int .i64 0)] (s8_75 G x10 x53 x55 x54 x15 x1 x0 x14 H)
def s8_77 G H_17 x53 x54 x15 x1 x0 x14 H x55 :=
 xalloc H_17 [(.int .i64 0), (.int .i64 0), (.str []), (.str []), (.int .i64 0), AV.nilSl, (.int .i64 0), (.int .i64 0), (.int .i64 0), (.int .i64 0), (.int .i64 0)] (s8_76 G x53 x55 x54 x15 x1 x0 x14 H)
def s8_78 G x52 H_17 x53 x15 x1 x0 x14 H x54 :=
 xb (aextract x52 2) (s8_77 G H_17 x53 x54 x15 x1 x0 x14 H)
def s8_79 G x52 H_17 x15 x1 x0 x14 H x53 :=
 xb (aextract x52 1) (s8_78 G x52 H_17 x53 x15 x1 x0 x14 H)
def s8_80 G x15 x1 x0 x14 H x52 H_17 :=
 xb (aextract x52 0) (s8_79 G x52 H_17 x15 x1 x0 x14 H)
def s8_81 (G : CallT) H_16 x48 x15 x1 x0 x14 H :=
 xcall H_16 (G 21 [x48, (.int .i64 0), (.int .i64 0)] H_16) (s8_80 G x15 x1 x0 x14 H)
def s8_82 G H_13 x37 x38 x43 x44 x48 x15 x1 x0 x14 H H_16 :=
 bif ((rdIs (aload P H_13 9 x37) x38 && true) && ((rdIs (aload P H_13 9 x43) x44 && true) && true)) then s8_81 G H_16 x48 x15 x1 x0 x14 H else none
def s8_83 G x49 H_13 x37 x38 x43 x44 x48 x15 x1 x0 x14 H x9 H_15 :=
 xstore H_15 (astore P H_15 25 x9 x49) (s8_82 G H_13 x37 x38 x43 x44 x48 x15 x1 x0 x14 H)
def s8_84 G H_14 H_13 x37 x38 x43 x44 x48 x15 x1 x0 x14 H x49 :=
 xalloc H_14 [(.int .i64 0), (.int .i64 0)] (s8_83 G x49 H_13 x37 x38 x43 x44 x48 x15 x1 x0 x14 H)
def s8_85 G x47 H_14 H_13 x37 x38 x43 x44 x15 x1 x0 x14 H x48 :=
 xb (aextract x47 1) (s8_84 G H_14 H_13 x37 x38 x43 x44 x48 x15 x1 x0 x14 H)
def s8_86 G H_13 x37 x38 x43 x44 x15 x1 x0 x14 H x47 H_14 :=
 xb (aextract x47 0) (s8_85 G x47 H_14 H_13 x37 x38 x43 x44 x15 x1 x0 x14 H)
def s8_87 (G : CallT) H_13 x37 x38 x43 x44 x15 x1 x0 x14 H x46 :=
 xcall H_13 (G 15 [x46] H_13) (s8_86 G H_13 x37 x38 x43 x44 x15 x1 x0 x14 H)
def s8_88 G H_13 x37 x38 x43 x44 x15 x1 x0 x14 H x45 :=
 xb (fbin P .add 9 true x45 (.str [32, 99])) (s8_87 G H_13 x37 x38 x43 x44 x15 x1 x0 x14 H)
def s8_89 G x40 H_13 x37 x38 x43 x15 x1 x0 x14 H x44 :=
 xb (fbin P .add 9 false x40 x44) (s8_88 G H_13 x37 x38 x43 x44 x15 x1 x0 x14 H)
def s8_90 G H_13 x40 x37 x38 x15 x1 x0 x14 H x43 :=
 xb (aload P H_13 9 x43) (s8_89 G x40 H_13 x37 x38 x43 x15 x1 x0 x14 H)
def s8_91 G x13 x1 H_13 x37 x38 x15 x0 x14 H x40 :=
 xb (aindexAddr P 46 x13 x1) (s8_90 G H_13 x40 x37 x38 x15 x1 x0 x14 H)
def s8_92 G x13 x1 H_13 x37 x38 x15 x0 x14 H x39 :=
 xb (fbin P .add 9 true x39 (.str [32, 98, 32])) (s8_91 G x13 x1 H_13 x37 x38 x15 x0 x14 H)
def s8_93 G x13 x1 H_13 x37 x15 x0 x14 H x38 :=
 xb (fbin P .add 9 true (.str [97, 32]) x38) (s8_92 G x13 x1 H_13 x37 x38 x15 x0 x14 H)
def s8_94 G H_13 x13 x1 x15 x0 x14 H x37 :=
 xb (aload P H_13 9 x37) (s8_93 G x13 x1 H_13 x37 x15 x0 x14 H)
def s8_95 G x13 x0 H_13 x1 x15 x14 H :=
 xb (aindexAddr P 46 x13 x0) (s8_94 G H_13 x13 x1 x15 x0 x14 H)
def s8_96 G H_13 x13 x0 x1 x15 x14 H x33 :=
 xif (some x33) (s8_0 H_13) (s8_95 G x13 x0 H_13 x1 x15 x14 H)
def s8_97 G x27 x13 x0 x1 x15 x14 H x32 H_13 :=
 xb (pickOf x27 (some (.bool true)) (some x32)) (s8_96 G H_13 x13 x0 x1 x15 x14 H)
def s8_98 G x27 x29 x13 x0 x1 x15 x14 H x31 H_12 :=
 xg x27 false H_12 (fun q => (fbin P .geq 3 false x29 x31).bind fun v => q (.pure v)) (s8_97 G x27 x13 x0 x1 x15 x14 H)
def s8_99 G x27 x29 x13 x0 x1 x15 x14 H x30 H_11 :=
 xg x27 false H_11 (fun q => xboth (abuiltin P .empty .len [46] [x30]) (abuiltin P H_11 .len [46] [x30]) q) (s8_98 G x27 x29 x13 x0 x1 x15 x14 H)
def s8_100 G x27 x13 x0 x1 x15 x14 H x29 H_10 :=
 xg x27 false H_10 (fun q => q (.pure x13)) (s8_99 G x27 x29 x13 x0 x1 x15 x14 H)
def s8_101 G H_9 x1 x13 x0 x15 x14 H x27 :=
 xg x27 false H_9 (fun q => q (.pure x1)) (s8_100 G x27 x13 x0 x1 x15 x14 H)
def s8_102 G x23 x1 x13 x0 x15 x14 H x26 H_9 :=
 xb (pickOf x23 (some (.bool true)) (some x26)) (s8_101 G H_9 x1 x13 x0 x15 x14 H)
def s8_103 G x23 x1 x13 x0 x15 x14 H x25 H_8 :=
 xg x23 false H_8 (fun q => (fbin P .lss 3 true x25 (.int .i64 0)).bind fun v => q (.pure v)) (s8_102 G x23 x1 x13 x0 x15 x14 H)
def s8_104 G H_7 x1 x13 x0 x15 x14 H x23 :=
 xg x23 false H_7 (fun q => q (.pure x1)) (s8_103 G x23 x1 x13 x0 x15 x14 H)
def s8_105 G x17 x1 x13 x0 x15 x14 H x22 H_7 :=
 xb (pickOf x17 (some (.bool true)) (some x22)) (s8_104 G H_7 x1 x13 x0 x15 x14 H)
def s8_106 G x17 x19 x1 x13 x0 x15 x14 H x21 H_6 :=
 xg x17 false H_6 (fun q => (fbin P .geq 3 false x19 x21).bind fun v => q (.pure v)) (s8_105 G x17 x1 x13 x0 x15 x14 H)
def s8_107 G x17 x19 x1 x13 x0 x15 x14 H x20 H_5 :=
 xg x17 false H_5 (fun q => xboth (abuiltin P .empty .len [46] [x20]) (abuiltin P H_5 .len [46] [x20]) q) (s8_106 G x17 x19 x1 x13 x0 x15 x14 H)
def s8_108 G x17 x13 x1 x0 x15 x14 H x19 H_4 :=
 xg x17 false H_4 (fun q => q (.pure x13)) (s8_107 G x17 x19 x1 x13 x0 x15 x14 H)
def s8_109 G H_3 x0 x13 x1 x15 x14 H x17 :=
 xg x17 false H_3 (fun q => q (.pure x0)) (s8_108 G x17 x13 x1 x0 x15 x14 H)
def s8_110 G x0 x13 x1 x14 H x15 H_3 :=
 xb (fbin P .lss 3 true x0 (.int .i64 0)) (s8_109 G H_3 x0 x13 x1 x15 x14 H)
def s8_111 G x0 x13 x1 H x14 H_2 :=
 xmake H_2 (some (.sl (H_2).next 0 11 1 (some 11), .row false 1 [[(.int .i64 1)], [(.int .i64 2)], [(.int .i64 3)], [(.int .i64 3)], [(.int .i64 3)], [(.int .i64 3)], [(.int .i64 4)], [(.int .i64 4)], [(.int .i64 5)], [(.int .i64 5)], [(.int .i64 5)]])) (s8_110 G x0 x13 x1 x14 H)
def s8_112 G x0 x1 H x13 H_1 :=
 xmake H_1 (some (.sl (H_1).next 0 11 1 (some 11), .row false 1 [[(.int .i64 24)], [(.int .i64 23)], [(.int .i64 19)], [(.int .i64 20)], [(.int .i64 21)], [(.int .i64 22)], [(.int .i64 14)], [(.int .i64 15)], [(.int .i64 16)], [(.int .i64 17)], [(.int .i64 18)]])) (s8_111 G x0 x13 x1 H)
/-- runrig/runriglaw3.ExprBinds -/
def s8 G x0 x1 H :=
 xmake H (some (.sl (H).next 0 11 1 (some 11), .row false 1 [[(.str [124, 124])], [(.str [38, 38])], [(.str [60])], [(.str [60, 61])], [(.str [61, 61])], [(.str [33, 61])], [(.str [43])], [(.str [45])], [(.str [42])], [(.str [47])], [(.str [37])]])) (s8_112 G x0 x1 H)
theorem s8_eq (G : CallT) (N : Nat) (x0 : AV) (x1 : AV) (H : AHeap) : codeC P G N (bodyOf Try.f8) (retC P Try.f8.results.toList) [] (retC P Try.f8.results.toList) (argsF [x0, x1]) H = s8 G x0 x1 H := by
  refine Eq.trans ((via_leaf _ : ∀ R H, codeC P G N (bodyOf Try.f8) (retC P Try.f8.results.toList) [] (retC P Try.f8.results.toList) R H = _) (argsF [x0, x1]) H) ?_
  delta s8 s8_112 s8_111 s8_110 s8_109 s8_108 s8_107 s8_106 s8_105 s8_104 s8_103 s8_102 s8_101 s8_100 s8_99 s8_98 s8_97 s8_96 s8_95 s8_94 s8_93 s8_92 s8_91 s8_90 s8_89 s8_88 s8_87 s8_86 s8_85 s8_84 s8_83 s8_82 s8_81 s8_80 s8_79 s8_78 s8_77 s8_76 s8_75 s8_74 s8_73 s8_72 s8_71 s8_70 s8_69 s8_68 s8_67 s8_66 s8_65 s8_64 s8_63 s8_62 s8_61 s8_60 s8_59 s8_58 s8_57 s8_56 s8_55 s8_54 s8_53 s8_52 s8_51 s8_50 s8_49 s8_48 s8_47 s8_46 s8_45 s8_44 s8_43 s8_42 s8_41 s8_40 s8_39 s8_38 s8_37 s8_36 s8_35 s8_34 s8_33 s8_32 s8_31 s8_30 s8_29 s8_28 s8_27 s8_26 s8_25 s8_24 s8_23 s8_22 s8_21 s8_20 s8_19 s8_18 s8_17 s8_16 s8_15 s8_14 s8_13 s8_12 s8_11 s8_10 s8_9 s8_8 s8_7 s8_6 s8_5 s8_4 s8_3 s8_2 s8_1 s8_0
  kernel_rfl

theorem run8 (N : Nat) {x0 x1 : AV} {H : AHeap} {r : AV × AHeap} (h : s8 (evw P) x0 x1 H = some r) : evw P 8 [x0, x1] H = some r :=
  evw_code (c := (bodyOf Try.f8)) (M := N) Try.func8 (by kernel_rfl) (by kernel_rfl) (by kernel_rfl) (Eq.trans (s8_eq (evw P) N x0 x1 H) h)


end
end Go.Proofs.Ytnjoomfeddamcaa

