/-
  Texts of one proof, laid together: Ls Sp X1 Ev25 Pk Ev26 Rt Sr Z1 Z2 Z3 Z4 Z5 Z6 Z7 Z8 Z9.
-/
import Derived.Test.YtnjoomfeddamcaaME
import Derived.Test.YtnjoomfeddamcaaMD
import Derived.WalkKit
import Derived.ProofKit
import Derived.OpenShut
import Derived.ShutString
import Derived.ChangeOld
import Derived.Below
import Derived.Carry
import Derived.Deep.Slices
set_option linter.unusedVariables false
set_option linter.unusedSimpArgs false
namespace Go.Proofs.Ytnjoomfeddamcaa
open Go.Ev
set_option linter.defProp false
def nxB := And.intro @AHeap.next_push @AHeap.next_set
def allB := And.intro (And.intro (And.intro (And.intro (And.intro (And.intro (And.intro (And.intro @zz @xk_eq) (And.intro @qp_some @qr_some)) (And.intro (And.intro @qv_eq @xalloc_eq) (And.intro @xstore_some @xb_some))) (And.intro (And.intro (And.intro @anil_ptr @xif_bool) (And.intro @xmake_some @xg_tt)) (And.intro (And.intro @xg_ff @xg_tf) (And.intro @xg_ft (And.intro @xg_sk @xboth_some))))) (And.intro (And.intro (And.intro (And.intro @pickOf_t @pickOf_f) (And.intro @aun_not @K_val_pure)) (And.intro (And.intro @K_val_read @K_val_skip) (And.intro @K_heap_pure @K_heap_read))) (And.intro (And.intro (And.intro @K_heap_skip @K_val_eff) (And.intro @K_heap_eff @K_val_new)) (And.intro (And.intro @K_heap_new @Option.bind_some.{0,0}) (And.intro @cond_true.{1} (And.intro @cond_false.{1} @aextract_tuple)))))) (And.intro (And.intro (And.intro (And.intro (And.intro @rdIs_int @rdIs_str) (And.intro @rdIs_bool @rdIs_sl)) (And.intro (And.intro @rdIs_nilSl @rdIs_of) (And.intro @List.getElem?_cons_zero.{0} @List.getElem?_cons_succ.{0}))) (And.intro (And.intro (And.intro @List.drop_zero.{0} @List.drop_succ_cons.{0}) (And.intro @List.take_succ_cons.{0} @List.take_zero.{0})) (And.intro (And.intro @List.set_cons_zero.{0} @List.set_cons_succ.{0}) (And.intro @List.cons_append.{0} (And.intro @List.nil_append.{0} @List.length_cons.{0}))))) (And.intro (And.intro (And.intro (And.intro @List.length_nil.{0} @List.all_cons.{0}) (And.intro @List.all_nil.{0} @Bool.and_true)) (And.intro (And.intro @Bool.and_self @Nat.zero_add) (And.intro @Nat.add_zero @Nat.le_refl))) (And.intro (And.intro (And.intro @and_self @and_true) (And.intro @true_and @if_true.{1})) (And.intro (And.intro @Option.some.injEq.{0} @one_int) (And.intro @one_str (And.intro @one_bool @one_sl))))))) (And.intro (And.intro (And.intro (And.intro (And.intro (And.intro @one_nilSl @one_ptr) (And.intro @one_func @ta3)) (And.intro (And.intro @ta4 @ta9) (And.intro @ta22 @ta23))) (And.intro (And.intro (And.intro @ta35 @ta69) (And.intro @ta102 @ta25)) (And.intro (And.intro @ta32 @ta37) (And.intro @ta39 (And.intro @ta65 @ta101))))) (And.intro (And.intro (And.intro (And.intro @ts25 @ts32) (And.intro @ts37 @ts39)) (And.intro (And.intro @ts65 @ts101) (And.intro @ts3 @ts4))) (And.intro (And.intro (And.intro @ts9 @ts22) (And.intro @ts23 @ts35)) (And.intro (And.intro @ts69 @fbin_add) (And.intro @fbin_sub (And.intro @fbin_eql @fbin_neq)))))) (And.intro (And.intro (And.intro (And.intro (And.intro @fbin_lss @fbin_leq) (And.intro @fbin_gtr @fbin_geq)) (And.intro (And.intro @fbin_seql @fbin_sneq) (And.intro @eq4 @ne4))) (And.intro (And.intro (And.intro @AHeap.get_push_eq @AHeap.get_push_other) (And.intro @AHeap.get_set_same @AHeap.get_set_other)) (And.intro (And.intro @AHeap.next_push @AHeap.next_set) (And.intro @AHeap.push_set_eq (And.intro @AHeap.set_set @bd25_0_1))))) (And.intro (And.intro (And.intro (And.intro @bd25_0 @bd65_0_3) (And.intro @bd71_0_1v0 @bd71_0_1v1)) (And.intro (And.intro @bd75_0_1v0 @bd75_0_1v1) (And.intro @bd75_0_1_2v0 (And.intro @bd75_0_1_2v1 @bd71_0_1_2_3v0)))) (And.intro (And.intro (And.intro @bd71_0_1_2_3v1 @bd71_0_1_2_3v2) (And.intro @bd71_0_1_2_3v3 @bd85_0_1_2v0)) (And.intro (And.intro @bd85_0_1_2v1 @bd65_0_1_3) (And.intro @bd65_0_2_3 (And.intro @bd32_0_1 @bd32_1)))))))) (And.intro (And.intro (And.intro (And.intro (And.intro (And.intro (And.intro @bd39_0_4_5v0 @bd39_0_4_5v1) (And.intro @bd101_0_1 @bd65_0)) (And.intro (And.intro @bd54_6 @bd54_0_3v0) (And.intro @bd54_0_3v1 @bd39_0_2_4_5v0))) (And.intro (And.intro (And.intro @bd39_0_2_4_5v1 @bd39_0_1_5) (And.intro @bd39_0_3_5 @bd39_0_5)) (And.intro (And.intro @bd39_0_2_5 @bd54_0_1_3v0) (And.intro @bd54_0_1_3v1 (And.intro @bd54_0_1_2 @bd54_0_1_2_3v0))))) (And.intro (And.intro (And.intro (And.intro @bd54_0_1_2_3v1 @bd54_0_3_4v0) (And.intro @bd54_0_3_4v1 @bd54_0_3_4v2)) (And.intro (And.intro @bd54_0_3_4v3 @bd54_0) (And.intro @bd32_0 @bd39_0_3_4_5v0))) (And.intro (And.intro (And.intro @bd39_0_3_4_5v1 @fa25_0) (And.intro @fa25_1 @fa32_0)) (And.intro (And.intro @fa32_1 @fa37_0) (And.intro @fa37_1 (And.intro @fa37_2 @fa39_0)))))) (And.intro (And.intro (And.intro (And.intro (And.intro @fa39_1 @fa39_2) (And.intro @fa39_3 @fa39_4)) (And.intro (And.intro @fa39_5 @fa39_6) (And.intro @fa39_7 @fa54_0))) (And.intro (And.intro (And.intro @fa54_1 @fa54_2) (And.intro @fa54_3 @fa54_4)) (And.intro (And.intro @fa54_5 @fa54_6) (And.intro @fa54_7 (And.intro @fa65_0 @fa65_1))))) (And.intro (And.intro (And.intro (And.intro @fa65_2 @fa65_3) (And.intro @fa71_0 @fa71_1)) (And.intro (And.intro @fa71_2 @fa71_3) (And.intro @fa71_4 (And.intro @fa75_0 @fa75_1)))) (And.intro (And.intro (And.intro @fa75_2 @fa75_3) (And.intro @fa85_0 @fa85_1)) (And.intro (And.intro @fa85_2 @fa85_3) (And.intro @fa101_0 (And.intro @fa101_1 @fl25_0))))))) (And.intro (And.intro (And.intro (And.intro (And.intro (And.intro @fl25_1 @fl32_0) (And.intro @fl32_1 @fl37_0)) (And.intro (And.intro @fl37_1 @fl37_2) (And.intro @fl39_0 @fl39_1))) (And.intro (And.intro (And.intro @fl39_2 @fl39_3) (And.intro @fl39_4 @fl39_5)) (And.intro (And.intro @fl39_6 @fl39_7) (And.intro @fl54_0 (And.intro @fl54_1 @fl54_2))))) (And.intro (And.intro (And.intro (And.intro @fl54_3 @fl54_4) (And.intro @fl54_5 @fl54_6)) (And.intro (And.intro @fl54_7 @fl65_0) (And.intro @fl65_1 @fl65_2))) (And.intro (And.intro (And.intro @fl65_3 @fl71_0) (And.intro @fl71_1 @fl71_2)) (And.intro (And.intro @fl71_3 @fl71_4) (And.intro @fl75_0 (And.intro @fl75_1 @fl75_2)))))) (And.intro (And.intro (And.intro (And.intro (And.intro @fl75_3 @fl85_0) (And.intro @fl85_1 @fl85_2)) (And.intro (And.intro @fl85_3 @fl101_0) (And.intro @fl101_1 @ln9))) (And.intro (And.intro (And.intro @ln22 @ln22n) (And.intro @ln35 @ln35n)) (And.intro (And.intro @ln46 @ln46n) (And.intro @ln48 (And.intro @ln48n @ln50))))) (And.intro (And.intro (And.intro (And.intro @ln50n @ln69) (And.intro @ln69n @ln102)) (And.intro (And.intro @ln102n @ln108) (And.intro @ln108n (And.intro @ln109 @ln109n)))) (And.intro (And.intro (And.intro @ia22 @ia35) (And.intro @ia46 @ia48)) (And.intro (And.intro @ia50 @ia69) (And.intro @ia102 (And.intro @ia108 @ia109))))))))
def evB := And.intro (And.intro (And.intro (And.intro (And.intro @zz @xk_eq) (And.intro @qp_some (And.intro @qr_some @qv_eq))) (And.intro (And.intro @xalloc_eq @xstore_some) (And.intro @xb_some (And.intro @anil_ptr @xif_bool)))) (And.intro (And.intro (And.intro @xmake_some @xg_tt) (And.intro @xg_ff (And.intro @xg_tf @xg_ft))) (And.intro (And.intro @xg_sk @xboth_some) (And.intro @pickOf_t (And.intro @pickOf_f @aun_not))))) (And.intro (And.intro (And.intro (And.intro @K_val_pure @K_val_read) (And.intro @K_val_skip (And.intro @K_heap_pure @K_heap_read))) (And.intro (And.intro @K_heap_skip @K_val_eff) (And.intro @K_heap_eff (And.intro @K_val_new @K_heap_new)))) (And.intro (And.intro (And.intro @Option.bind_some.{0,0} @cond_true.{1}) (And.intro @cond_false.{1} (And.intro @aextract_tuple @rdIs_int))) (And.intro (And.intro @rdIs_str @rdIs_bool) (And.intro @rdIs_sl (And.intro @rdIs_nilSl @rdIs_of)))))
def lsB := And.intro (And.intro (And.intro (And.intro @List.getElem?_cons_zero.{0} (And.intro @List.getElem?_cons_succ.{0} @List.drop_zero.{0})) (And.intro (And.intro @List.drop_succ_cons.{0} @List.take_succ_cons.{0}) (And.intro @List.take_zero.{0} @List.set_cons_zero.{0}))) (And.intro (And.intro (And.intro @List.set_cons_succ.{0} @List.cons_append.{0}) (And.intro @List.nil_append.{0} @List.length_cons.{0})) (And.intro (And.intro @List.length_nil.{0} @List.all_cons.{0}) (And.intro @List.all_nil.{0} @Bool.and_true)))) (And.intro (And.intro (And.intro (And.intro @Bool.and_self @Nat.zero_add) (And.intro @Nat.add_zero @Nat.le_refl)) (And.intro (And.intro @and_self @and_true) (And.intro @true_and @if_true.{1}))) (And.intro (And.intro (And.intro @Option.some.injEq.{0} @one_int) (And.intro @one_str @one_bool)) (And.intro (And.intro @one_sl @one_nilSl) (And.intro @one_ptr @one_func))))
def tyB := And.intro (And.intro (And.intro (And.intro @ta3 (And.intro @ta4 @ta9)) (And.intro @ta22 (And.intro @ta23 @ta35))) (And.intro (And.intro @ta69 (And.intro @ta102 @ta25)) (And.intro (And.intro @ta32 @ta37) (And.intro @ta39 @ta65)))) (And.intro (And.intro (And.intro @ta101 (And.intro @ts25 @ts32)) (And.intro (And.intro @ts37 @ts39) (And.intro @ts65 @ts101))) (And.intro (And.intro @ts3 (And.intro @ts4 @ts9)) (And.intro (And.intro @ts22 @ts23) (And.intro @ts35 @ts69))))
def binB := And.intro (And.intro (And.intro @fbin_add (And.intro @fbin_sub @fbin_eql)) (And.intro @fbin_neq (And.intro @fbin_lss @fbin_leq))) (And.intro (And.intro @fbin_gtr (And.intro @fbin_geq @fbin_seql)) (And.intro @fbin_sneq (And.intro @eq4 @ne4)))
def heapB := And.intro (And.intro (And.intro @AHeap.get_push_eq @AHeap.get_push_other) (And.intro @AHeap.get_set_same @AHeap.get_set_other)) (And.intro (And.intro @AHeap.next_push @AHeap.next_set) (And.intro @AHeap.push_set_eq @AHeap.set_set))
def tabB := And.intro (And.intro (And.intro (And.intro (And.intro (And.intro (And.intro @bd25_0_1 @bd25_0) (And.intro @bd65_0_3 @bd71_0_1v0)) (And.intro (And.intro @bd71_0_1v1 @bd75_0_1v0) (And.intro @bd75_0_1v1 (And.intro @bd75_0_1_2v0 @bd75_0_1_2v1)))) (And.intro (And.intro (And.intro @bd71_0_1_2_3v0 @bd71_0_1_2_3v1) (And.intro @bd71_0_1_2_3v2 (And.intro @bd71_0_1_2_3v3 @bd85_0_1_2v0))) (And.intro (And.intro @bd85_0_1_2v1 @bd65_0_1_3) (And.intro @bd65_0_2_3 (And.intro @bd32_0_1 @bd32_1))))) (And.intro (And.intro (And.intro (And.intro @bd39_0_4_5v0 @bd39_0_4_5v1) (And.intro @bd101_0_1 (And.intro @bd65_0 @bd54_6))) (And.intro (And.intro @bd54_0_3v0 @bd54_0_3v1) (And.intro @bd39_0_2_4_5v0 (And.intro @bd39_0_2_4_5v1 @bd39_0_1_5)))) (And.intro (And.intro (And.intro @bd39_0_3_5 @bd39_0_5) (And.intro @bd39_0_2_5 (And.intro @bd54_0_1_3v0 @bd54_0_1_3v1))) (And.intro (And.intro @bd54_0_1_2 @bd54_0_1_2_3v0) (And.intro @bd54_0_1_2_3v1 (And.intro @bd54_0_3_4v0 @bd54_0_3_4v1)))))) (And.intro (And.intro (And.intro (And.intro (And.intro @bd54_0_3_4v2 @bd54_0_3_4v3) (And.intro @bd54_0 @bd32_0)) (And.intro (And.intro @bd39_0_3_4_5v0 @bd39_0_3_4_5v1) (And.intro @fa25_0 (And.intro @fa25_1 @fa32_0)))) (And.intro (And.intro (And.intro @fa32_1 @fa37_0) (And.intro @fa37_1 (And.intro @fa37_2 @fa39_0))) (And.intro (And.intro @fa39_1 @fa39_2) (And.intro @fa39_3 (And.intro @fa39_4 @fa39_5))))) (And.intro (And.intro (And.intro (And.intro @fa39_6 @fa39_7) (And.intro @fa54_0 (And.intro @fa54_1 @fa54_2))) (And.intro (And.intro @fa54_3 @fa54_4) (And.intro @fa54_5 (And.intro @fa54_6 @fa54_7)))) (And.intro (And.intro (And.intro @fa65_0 @fa65_1) (And.intro @fa65_2 (And.intro @fa65_3 @fa71_0))) (And.intro (And.intro @fa71_1 @fa71_2) (And.intro @fa71_3 (And.intro @fa71_4 @fa75_0))))))) (And.intro (And.intro (And.intro (And.intro (And.intro (And.intro @fa75_1 @fa75_2) (And.intro @fa75_3 @fa85_0)) (And.intro (And.intro @fa85_1 @fa85_2) (And.intro @fa85_3 (And.intro @fa101_0 @fa101_1)))) (And.intro (And.intro (And.intro @fl25_0 @fl25_1) (And.intro @fl32_0 (And.intro @fl32_1 @fl37_0))) (And.intro (And.intro @fl37_1 @fl37_2) (And.intro @fl39_0 (And.intro @fl39_1 @fl39_2))))) (And.intro (And.intro (And.intro (And.intro @fl39_3 @fl39_4) (And.intro @fl39_5 (And.intro @fl39_6 @fl39_7))) (And.intro (And.intro @fl54_0 @fl54_1) (And.intro @fl54_2 (And.intro @fl54_3 @fl54_4)))) (And.intro (And.intro (And.intro @fl54_5 @fl54_6) (And.intro @fl54_7 (And.intro @fl65_0 @fl65_1))) (And.intro (And.intro @fl65_2 @fl65_3) (And.intro @fl71_0 (And.intro @fl71_1 @fl71_2)))))) (And.intro (And.intro (And.intro (And.intro (And.intro @fl71_3 @fl71_4) (And.intro @fl75_0 (And.intro @fl75_1 @fl75_2))) (And.intro (And.intro @fl75_3 @fl85_0) (And.intro @fl85_1 (And.intro @fl85_2 @fl85_3)))) (And.intro (And.intro (And.intro @fl101_0 @fl101_1) (And.intro @ln9 (And.intro @ln22 @ln22n))) (And.intro (And.intro @ln35 @ln35n) (And.intro @ln46 (And.intro @ln46n @ln48))))) (And.intro (And.intro (And.intro (And.intro @ln48n @ln50) (And.intro @ln50n (And.intro @ln69 @ln69n))) (And.intro (And.intro @ln102 @ln102n) (And.intro @ln108 (And.intro @ln108n @ln109)))) (And.intro (And.intro (And.intro @ln109n @ia22) (And.intro @ia35 (And.intro @ia46 @ia48))) (And.intro (And.intro @ia50 @ia69) (And.intro @ia102 (And.intro @ia108 @ia109)))))))
def oneB := And.intro (And.intro @one_int (And.intro @one_str @one_bool)) (And.intro (And.intro @one_sl @one_nilSl) (And.intro @one_ptr @one_func))
end Go.Proofs.Ytnjoomfeddamcaa

namespace Go.Proofs.Ytnjoomfeddamcaa
open Go.Ev
abbrev Bs := List UInt8
structure Tok where
 kind : Int
 text : Bs
 n : Int
 pos : Int
def Tok.none : Tok := ⟨0, [], 0, 0⟩
def tokAt (T : List Tok) (at_ : Int) : Tok := if at_ < 0 ∨ (T.length : Int) ≤ at_ then .none else T[at_.toNat]?.getD .none
structure St where
 at_ : Int
 opn : Int
 fe : Int
 fa : Int
abbrev w64 (n : Int) : Int := IntKind.i64.wrap n
structure Ea where
 kind : Int
 n : Int := 0
 name : Bs := []
 ofn : Bs := []
 ofd : Int := 0
 pos : Int := 0
 tb : Int := 0
 tr : Int := 0
 td : Int := 0
 ref : Int := 0
inductive Ex where
 | mk (a : Ea) (kids : List Ex)
def Ex.zero : Ex := .mk { kind := 0 } []
def isB (T : List Tok) (s : St) (k : Int) (x : Bs) : Bool := s.fe == 0 && ((tokAt T s.at_).kind == k && (tokAt T s.at_).text == x)
def failS (T : List Tok) (e : Int) (s : St) : St := if s.fe = 0 then { s with fe := e, fa := (tokAt T s.at_).pos } else s
def goS (s : St) : St := { s with at_ := w64 (s.at_ + 1) }
def takesS (T : List Tok) (k : Int) (x : Bs) (s : St) : Bool × St := bif isB T s k x then (true, goS s) else (false, s)
def wantsS (T : List Tok) (x : Bs) (s : St) : Bool × St := bif isB T s 4 x then (true, goS s) else (false, failS T 2 s)
def opensS (T : List Tok) (x : Bs) (s : St) : Bool × St := bif isB T s 4 x then (if 50 ≤ s.opn then (false, failS T 4 s) else (true, { s with at_ := w64 (s.at_ + 1), opn := w64 (s.opn + 1) })) else (false, failS T 2 s)
def outS (s : St) : St := { s with opn := w64 (s.opn - 1) }
def closesS (T : List Tok) (x : Bs) (s : St) : Bool × St := wantsS T x (outS s)
def ofL (T : List Tok) : Nat → Int → St → (Int × St) ⊕ St
 | 0, d, s => bif isB T s 4 [91] then .inr (failS T 4 s) else .inl (d, s)
 | n + 1, d, s => bif isB T s 4 [91] then ofL T n (d + 1) (goS s) else .inl (d, s)
def wantN (T : List Tok) (x : Bs) : Nat → St → St
 | 0, s => s
 | n + 1, s => wantN T x n (wantsS T x s).2
def ofE (T : List Tok) (d : Int) (s : St) : (Bs × Int) × St :=
 bif ((tokAt T s.at_).kind != 1 && (!isB T s 3 [105, 110, 116] && !isB T s 3 [98, 111, 111, 108])) then (([], 0), failS T 2 s)
 else (((tokAt T s.at_).text, d), wantN T [93] d.toNat (goS s))
def ofS (T : List Tok) (s : St) : (Bs × Int) × St := match ofL T 3 0 s with
 | .inr s' => (([], 0), s')
 | .inl (d, s') => ofE T d s'
def lvls : List (List (Bs × Int)) := [[([124, 124], 24)], [([38, 38], 23)], [([60], 19), ([60, 61], 20), ([61, 61], 21), ([33, 61], 22)], [([43], 14), ([45], 15)], [([42], 16), ([47], 17), ([37], 18)]]
def kindL (T : List Tok) (s : St) : List (Bs × Int) → Int
 | [] => 0
 | (x, k) :: r => bif isB T s 4 x then k else kindL T s r
def kindS (T : List Tok) (lev : Nat) (s : St) : Int := kindL T s (lvls[lev]?.getD [])
def truthS (T : List Tok) (s : St) : Ex × St := (.mk { kind := 2, n := bif (tokAt T s.at_).text == [116, 114, 117, 101] then 1 else 0, pos := (tokAt T s.at_).pos } [], goS s)
def nullS (T : List Tok) (s : St) : Ex × St := (.mk { kind := 3, ofn := (ofS T (goS s)).1.1, ofd := (ofS T (goS s)).1.2, pos := (tokAt T s.at_).pos } [], (ofS T (goS s)).2)
def readS (T : List Tok) (s : St) : Ex × St := (.mk { kind := 11, pos := (tokAt T s.at_).pos } [], bif (opensS T [40] (goS s)).1 then (closesS T [41] (opensS T [40] (goS s)).2).2 else (opensS T [40] (goS s)).2)
def fieldS (T : List Tok) (e : Ex) (s : St) : Ex × St :=
 (.mk { kind := 5, name := (tokAt T (goS s).at_).text, pos := (tokAt T s.at_).pos } [e], goS (bif (tokAt T (goS s).at_).kind != 1 then failS T 2 (goS s) else goS s))
abbrev R (α : Type) := Option (α × St)
mutual
def rowF (T : List Tok) : Nat → Nat → St → R Ex
 | 0, _, _ => none
 | n + 1, lev, s => if lev = 5 then unaryF T n s else (rowF T n (lev + 1) s).bind fun p => rowL T n lev p.1 p.2
def rowL (T : List Tok) : Nat → Nat → Ex → St → R Ex
 | 0, _, _, _ => none
 | n + 1, lev, e, s => if kindS T lev s = 0 then some (e, s) else
   (rowF T n (lev + 1) (goS s)).bind fun p => rowL T n lev (.mk { kind := kindS T lev s, pos := (tokAt T s.at_).pos } [e, p.1]) p.2
def unaryF (T : List Tok) : Nat → St → R Ex
 | 0, _ => none
 | n + 1, s => bif isB T s 4 [45] then signF T n [45] 12 s else bif isB T s 4 [33] then signF T n [33] 13 s else chainF T n s
def signF (T : List Tok) : Nat → Bs → Int → St → R Ex
 | 0, _, _, _ => none
 | n + 1, x, k, s => bif (opensS T x s).1 then (unaryF T n (opensS T x s).2).bind fun p => some (.mk { kind := k, pos := (tokAt T s.at_).pos } [p.1], outS p.2) else some (.zero, (opensS T x s).2)
def chainF (T : List Tok) : Nat → St → R Ex
 | 0, _ => none
 | n + 1, s => (firstF T n s).bind fun p => chainL T n p.1 p.2
def chainL (T : List Tok) : Nat → Ex → St → R Ex
 | 0, _, _ => none
 | n + 1, e, s => bif s.fe == 0 && (tokAt T s.at_).kind == 4 then
   (bif (tokAt T s.at_).text == [46] then chainL T n (fieldS T e s).1 (fieldS T e s).2
   else bif (tokAt T s.at_).text == [91] then (singleF T n [91] [93] s).bind fun p => chainL T n (.mk { kind := 6, pos := (tokAt T s.at_).pos } [e, p.1]) p.2
   else some (e, s)) else some (e, s)
def singleF (T : List Tok) : Nat → Bs → Bs → St → R Ex
 | 0, _, _, _ => none
 | n + 1, b, c, s => bif (opensS T b s).1 then (rowF T n 0 (opensS T b s).2).bind fun p => some (p.1, (closesS T c p.2).2) else some (.zero, (opensS T b s).2)
def firstF (T : List Tok) : Nat → St → R Ex
 | 0, _ => none
 | n + 1, s => if s.fe ≠ 0 then some (.zero, s) else
   if (tokAt T s.at_).kind = 2 then some (.mk { kind := 1, n := (tokAt T s.at_).n, pos := (tokAt T s.at_).pos } [], goS s) else
   if (tokAt T s.at_).kind = 1 then nameF T n s else
   if (tokAt T s.at_).kind = 3 ∨ (tokAt T s.at_).kind = 4 then
    (bif (tokAt T s.at_).kind == 4 then (bif (tokAt T s.at_).text == [40] then singleF T n [40] [41] s else some (.zero, failS T 2 s))
    else bif (tokAt T s.at_).text == [116, 114, 117, 101] || (tokAt T s.at_).text == [102, 97, 108, 115, 101] then some (truthS T s)
    else bif (tokAt T s.at_).text == [110, 117, 108, 108] then some (nullS T s)
    else bif (tokAt T s.at_).text == [110, 101, 119] then freshF T n s
    else bif (tokAt T s.at_).text == [108, 101, 110] then (singleF T n [40] [41] (goS s)).bind fun p => some (.mk { kind := 10, pos := (tokAt T s.at_).pos } [p.1], p.2)
    else bif (tokAt T s.at_).text == [114, 101, 97, 100] then some (readS T s)
    else some (.zero, failS T 2 s))
   else some (.zero, failS T 2 s)
def nameF (T : List Tok) : Nat → St → R Ex
 | 0, _ => none
 | n + 1, s => bif isB T (goS s) 4 [40] then (listF T n (goS s)).bind fun p => some (.mk { kind := 7, name := (tokAt T s.at_).text, pos := (tokAt T s.at_).pos } p.1, p.2)
   else some (.mk { kind := 4, name := (tokAt T s.at_).text, pos := (tokAt T s.at_).pos } [], goS s)
def freshF (T : List Tok) : Nat → St → R Ex
 | 0, _ => none
 | n + 1, s => bif isB T (goS s) 4 [91] then
   (singleF T n [40] [41] (wantsS T [93] (ofS T (goS (goS s))).2).2).bind fun p =>
    some (.mk { kind := 9, ofn := (ofS T (goS (goS s))).1.1, ofd := (ofS T (goS (goS s))).1.2, pos := (tokAt T s.at_).pos } [p.1], p.2)
   else some (.mk { kind := 8, ofn := (tokAt T (goS s).at_).text, pos := (tokAt T s.at_).pos } [], goS (bif (tokAt T (goS s).at_).kind != 1 then failS T 2 (goS s) else goS s))
def listF (T : List Tok) : Nat → St → R (List Ex)
 | 0, _ => none
 | n + 1, s => bif (opensS T [40] s).1 then
   (bif isB T (opensS T [40] s).2 4 [41] then some ([], (closesS T [41] (opensS T [40] s).2).2)
   else (rowF T n 0 (opensS T [40] s).2).bind fun p => listL T n [p.1] p.2)
   else some ([], (opensS T [40] s).2)
def listL (T : List Tok) : Nat → List Ex → St → R (List Ex)
 | 0, _, _ => none
 | n + 1, l, s => bif (takesS T 4 [44] s).1 then (rowF T n 0 (takesS T 4 [44] s).2).bind fun p => listL T n (l ++ [p.1]) p.2
   else some (l, (closesS T [41] (takesS T 4 [44] s).2).2)
end
end Go.Proofs.Ytnjoomfeddamcaa

namespace Go.Proofs.Ytnjoomfeddamcaa
open Go.Ev
def Tok.cells (t : Tok) : List AV := [.int .i64 t.kind, .str t.text, .int .i64 t.n, .int .i64 t.pos]
def Tok.v (t : Tok) : AV := .agg [.int .i64 t.kind, .str t.text, .int .i64 t.n, .int .i64 t.pos]
def TokSl (H : AHeap) (v : AV) (T : List Tok) : Prop := (v = .nilSl ∧ T = []) ∨ ∃ l i cap, v = .sl l i T.length 4 cap ∧ (T = [] ∨ ∃ ro els, H.get l = some (.row ro 4 els) ∧ ∀ (k : Nat) (t : Tok), T[k]? = some t → els[i + k]? = some t.cells)
def Rd (H : AHeap) (r : Nat) (tv lv : AV) (s : St) : Prop := H.get r = some (.row false 6 [[tv, .int .i64 s.at_, .int .i64 s.opn, lv, .int .i64 s.fe, .int .i64 s.fa]])
def lvRows : List (List (List AV)) := [[[.str [124, 124], .int .i64 24]], [[.str [38, 38], .int .i64 23]], [[.str [60], .int .i64 19], [.str [60, 61], .int .i64 20], [.str [61, 61], .int .i64 21], [.str [33, 61], .int .i64 22]], [[.str [43], .int .i64 14], [.str [45], .int .i64 15]], [[.str [42], .int .i64 16], [.str [47], .int .i64 17], [.str [37], .int .i64 18]]]
def LvOk (H : AHeap) (lv : AV) : Prop := ∃ l i cap ro els, lv = .sl l i 5 1 cap ∧ H.get l = some (.row ro 1 els) ∧ ∀ (k : Nat) (row : List (List AV)), lvRows[k]? = some row → ∃ l' i' cap' ro' els', els[i + k]? = some [.sl l' i' row.length 2 cap'] ∧ H.get l' = some (.row ro' 2 els') ∧ ∀ (j : Nat) (e : List AV), row[j]? = some e → els'[i' + j]? = some e
def LvC (H : AHeap) (lv : AV) : Prop := lv = .nilSl ∨ LvOk H lv
structure Rx (H : AHeap) (r : Nat) (T : List Tok) (tv lv : AV) (s : St) : Prop where
 rd : Rd H r tv lv s
 tk : TokSl H tv T
 lv : LvC H lv
abbrev Mt (r : Nat) : AHeap → AHeap → Prop := Mut (· = r)
theorem TokSl.keep {H H' : AHeap} {v : AV} {T : List Tok} (h : TokSl H v T) (p : ∀ l ro els, H.get l = some (.row ro 4 els) → H'.get l = some (.row ro 4 els)) : TokSl H' v T := by
 rcases h with h | ⟨l, i, cap, h1, h2 | ⟨ro, els, h2, h3⟩⟩
 ·exact .inl h
 ·exact .inr ⟨l, i, cap, h1, .inl h2⟩
 ·exact .inr ⟨l, i, cap, h1, .inr ⟨ro, els, p _ _ _ h2, h3⟩⟩
theorem TokSl.pur {H H' : AHeap} {v : AV} {T : List Tok} (h : TokSl H v T) (p : Pur H H') : TokSl H' v T := h.keep fun _ _ _ e => p.get e
theorem TokSl.one {H : AHeap} {v : AV} {T : List Tok} (h : TokSl H v T) : v.one = true := by
 rcases h with ⟨rfl, _⟩ | ⟨l, i, cap, rfl, _⟩ <;> rfl
theorem LvOk.one {H : AHeap} {v : AV} (h : LvOk H v) : v.one = true := by
 obtain ⟨l, i, cap, ro, els, rfl, _⟩ := h; rfl
theorem LvC.one {H : AHeap} {v : AV} (h : LvC H v) : v.one = true := by
 rcases h with rfl | h
 ·rfl
 ·exact h.one
theorem LvOk.keep {H H' : AHeap} {v : AV} (h : LvOk H v) (p : ∀ l ro n els, n ≠ 6 → H.get l = some (.row ro n els) → H'.get l = some (.row ro n els)) : LvOk H' v := by
 obtain ⟨l, i, cap, ro, els, h1, h2, h3⟩ := h
 refine ⟨l, i, cap, ro, els, h1, p _ _ _ _ (by omega) h2, fun k row hk => ?_⟩
 obtain ⟨l', i', cap', ro', els', e1, e2, e3⟩ := h3 k row hk
 exact ⟨l', i', cap', ro', els', e1, p _ _ _ _ (by omega) e2, e3⟩
theorem LvC.keep {H H' : AHeap} {v : AV} (h : LvC H v) (p : ∀ l ro n els, n ≠ 6 → H.get l = some (.row ro n els) → H'.get l = some (.row ro n els)) : LvC H' v := by
 rcases h with rfl | h
 ·exact .inl rfl
 ·exact .inr (h.keep p)
theorem Rd.pur {H H' : AHeap} {r : Nat} {tv lv : AV} {s : St} (hr : Rd H r tv lv s) (p : Pur H H') : Rd H' r tv lv s := p.get hr
theorem Rd.lt {H : AHeap} {r : Nat} {tv lv : AV} {s : St} (hr : Rd H r tv lv s) : r < H.next := AHeap.get_lt hr
theorem Rx.mut {H H' : AHeap} {r : Nat} {T : List Tok} {tv lv : AV} {s s' : St} (h : Rx H r T tv lv s) (m : Mt r H H') (hd : Rd H' r tv lv s') : Rx H' r T tv lv s' := by
 have hne : ∀ l ro n els, n ≠ 6 → H.get l = some (.row ro n els) → H'.get l = some (.row ro n els) := fun l ro n els hn e => m.get e (by
  rintro rfl
  rw [h.rd] at e
  simp only [Option.some.injEq, ABlk.row.injEq] at e
  exact hn e.2.1.symm)
 exact ⟨hd, h.tk.keep fun l ro els e => hne l ro 4 els (by omega) e, h.lv.keep hne⟩
theorem Rx.pur {H H' : AHeap} {r : Nat} {T : List Tok} {tv lv : AV} {s : St} (h : Rx H r T tv lv s) (p : Pur H H') : Rx H' r T tv lv s := h.mut (p.mut _) (h.rd.pur p)
theorem tok_spec {H : AHeap} {r : Nat} {tv lv : AV} {s : St} {T : List Tok} (hr : Rd H r tv lv s) (ht : TokSl H tv T) : W (evw P 62 [.ptr r 0 0] H) fun v H' => v = (tokAt T s.at_).v ∧ Pur H H' := by
 unfold Rd at hr
 have hl := AHeap.get_lt hr
 refine W_of (fun _ => run62 0) ?_
 by_cases h0 : s.at_ < 0
 ·simp -implicitDefEqProofs (disch := first | assumption | omega | (simp only [nxB]; omega) | (simp only [oneB])) only [s62, xlen, evB, Nat.reduceAdd, Nat.reduceLeDiff, reduceIte, AV.cells, splice, lsB, aload, tyB, astore, tyB, binB, heapB, fa71_0, fa71_1, hr, h0, decide_true, W_some]
  exact ⟨by simp [tokAt, h0, Tok.v, Tok.none], Pur.push _ _⟩
 ·rcases ht with ⟨rfl, rfl⟩ | ⟨l, i, cap, rfl, h23⟩
  ·have h1 : (0 : Int) ≤ s.at_ := by omega
   simp -implicitDefEqProofs (disch := first | assumption | omega | (simp only [nxB]; omega) | (simp only [oneB])) only [s62, xlen, evB, Nat.reduceAdd, Nat.reduceLeDiff, reduceIte, AV.cells, splice, lsB, aload, tyB, astore, tyB, binB, heapB, fa71_0, fa71_1, hr, h0, h1, decide_true, decide_false, W_some, ln22n]
   exact ⟨by simp [tokAt, h0, Tok.v, Tok.none, h1], Pur.push _ _⟩
  ·by_cases h1 : (T.length : Int) ≤ s.at_
   ·simp -implicitDefEqProofs (disch := first | assumption | omega | (simp only [nxB]; omega) | (simp only [oneB])) only [s62, xlen, evB, Nat.reduceAdd, Nat.reduceLeDiff, reduceIte, AV.cells, splice, lsB, aload, tyB, astore, tyB, binB, heapB, fa71_0, fa71_1, hr, h0, h1, decide_true, decide_false, W_some, ln22]
    exact ⟨by simp [tokAt, h0, Tok.v, Tok.none, h1], Pur.push _ _⟩
   ·have hlt : s.at_.toNat < T.length := by omega
    obtain ⟨ro, els, h2, h3⟩ := h23.resolve_left (by rintro rfl; simp at hlt)
    have hl2 := AHeap.get_lt h2
    have h4 := h3 s.at_.toNat T[s.at_.toNat] (by simp [hlt])
    simp only [Tok.cells] at h4
    simp -implicitDefEqProofs (disch := first | assumption | omega | (simp only [nxB]; omega) | (simp only [oneB])) only [s62, xlen, evB, Nat.reduceAdd, Nat.reduceLeDiff, reduceIte, AV.cells, splice, lsB, aload, tyB, astore, tyB, binB, heapB, fa71_0, fa71_1, hr, h0, h1, decide_true, decide_false, W_some, ln22, ia22, h2, h4]
    refine ⟨?_, Pur.push _ _⟩
    simp [tokAt, h0, h1, Tok.v, hlt]
theorem failed_spec {H : AHeap} {r : Nat} {tv lv : AV} {s : St} (hr : Rd H r tv lv s) : W (evw P 36 [.ptr r 0 0] H) fun v H' => v = .bool (s.fe != 0) ∧ H' = H := by
 unfold Rd at hr
 refine W_of (fun _ => run36 0) ?_
 simp -implicitDefEqProofs (disch := first | assumption | omega | (simp only [nxB]; omega) | (simp only [oneB])) only [s36, xlen, evB, Nat.reduceAdd, Nat.reduceLeDiff, reduceIte, AV.cells, splice, lsB, aload, tyB, astore, tyB, binB, heapB, fa71_4, fa25_0, hr, W_some]
theorem is_spec {H : AHeap} {r : Nat} {tv lv : AV} {s : St} {T : List Tok} (hr : Rd H r tv lv s) (ht : TokSl H tv T) (k : Int) (x : List UInt8) : W (evw P 60 [.ptr r 0 0, .int .i64 k, .str x] H) fun v H' => v = .bool (isB T s k x) ∧ Pur H H' := by
 refine W_of (fun _ => run60 0) ?_
 rw [s60]
 refine W_call (tok_spec hr ht) ?_
 rintro _ H1 ⟨rfl, p1⟩
 refine ⟨p1.1, ?_⟩
 simp -implicitDefEqProofs (disch := first | assumption | omega | (simp only [nxB]; omega) | (simp only [oneB])) only [s60, xlen, evB, Nat.reduceAdd, Nat.reduceLeDiff, reduceIte, AV.cells, splice, lsB, aload, tyB, astore, tyB, binB, heapB, Tok.v]
 refine W_call (failed_spec (hr.pur (p1.then_push _))) ?_
 rintro _ H2 ⟨rfl, rfl⟩
 refine ⟨Nat.le_refl _, ?_⟩
 by_cases h1 : s.fe = 0
 ·by_cases h2 : (tokAt T s.at_).kind = k
  ·simp -implicitDefEqProofs (disch := first | assumption | omega | (simp only [nxB]; omega) | (simp only [oneB])) only [s60, xlen, evB, Nat.reduceAdd, Nat.reduceLeDiff, reduceIte, AV.cells, splice, lsB, aload, tyB, astore, tyB, binB, heapB, fa65_0, fa65_1, W_some, h1, h2, bne_self_eq_false, Bool.not_false, beq_self_eq_true]
   exact ⟨by simp [isB, h1, h2], p1.then_push _⟩
  ·have h2' : ((tokAt T s.at_).kind == k) = false := by simpa using h2
   simp -implicitDefEqProofs (disch := first | assumption | omega | (simp only [nxB]; omega) | (simp only [oneB])) only [s60, xlen, evB, Nat.reduceAdd, Nat.reduceLeDiff, reduceIte, AV.cells, splice, lsB, aload, tyB, astore, tyB, binB, heapB, fa65_0, fa65_1, W_some, h1, h2', bne_self_eq_false, Bool.not_false]
   exact ⟨by simp [isB, h1, h2], p1.then_push _⟩
 ·have h1' : (s.fe != 0) = true := by simpa using h1
  simp -implicitDefEqProofs (disch := first | assumption | omega | (simp only [nxB]; omega) | (simp only [oneB])) only [s60, xlen, evB, Nat.reduceAdd, Nat.reduceLeDiff, reduceIte, AV.cells, splice, lsB, aload, tyB, astore, tyB, binB, heapB, fa65_0, fa65_1, W_some, h1', Bool.not_true]
  exact ⟨by simp [isB, h1], p1.then_push _⟩
theorem fail_set {H : AHeap} {r : Nat} {tv lv : AV} {s : St} (hr : Rd H r tv lv s) (s' : St) : Mt r H (H.set r (.row false 6 [[tv, .int .i64 s'.at_, .int .i64 s'.opn, lv, .int .i64 s'.fe, .int .i64 s'.fa]])) ∧ Rd (H.set r (.row false 6 [[tv, .int .i64 s'.at_, .int .i64 s'.opn, lv, .int .i64 s'.fe, .int .i64 s'.fa]])) r tv lv s' :=
 ⟨Mut.then_set (S := (· = r)) (Mut.refl _ _) (.inl rfl) _, AHeap.get_set_same hr.lt⟩
theorem fail_spec {H : AHeap} {r : Nat} {T : List Tok} {tv lv : AV} {s : St} (hx : Rx H r T tv lv s) (e : Int) : W (evw P 61 [.ptr r 0 0, .int .i64 e] H) fun v H' => v = .bool false ∧ Mt r H H' ∧ Rx H' r T tv lv (failS T e s) := by
 refine W_of (fun _ => run61 0) ?_
 have hr := hx.rd
 have ho1 := hx.tk.one
 have ho2 := hx.lv.one
 rw [s61]
 refine W_call (failed_spec hr) ?_
 rintro _ H1 ⟨rfl, rfl⟩
 refine ⟨Nat.le_refl _, ?_⟩
 by_cases h1 : s.fe = 0
 ·rw [show failS T e s = { s with fe := e, fa := (tokAt T s.at_).pos } by simp [failS, h1]]
  simp -implicitDefEqProofs (disch := first | assumption | omega | (simp only [nxB]; omega) | (simp only [oneB])) only [s61_j0, s61, xlen, evB, h1, bne_self_eq_false, Bool.not_false]
  refine W_call (tok_spec hr hx.tk) ?_
  rintro _ H2 ⟨rfl, p2⟩
  refine ⟨p2.1, ?_⟩
  have hr2 : Rd H2 r tv lv s := hr.pur p2
  have hr2' := hr2
  unfold Rd at hr2'
  simp -implicitDefEqProofs (disch := first | assumption | omega | (simp only [nxB]; omega) | (simp only [oneB])) only [s61_j0, s61, xlen, evB, Nat.reduceAdd, Nat.reduceLeDiff, reduceIte, AV.cells, splice, lsB, aload, tyB, astore, tyB, heapB, Tok.v, fl65_3, bd25_0_1, fa71_4, hr2', ho1, ho2]
  obtain ⟨m, hd⟩ := fail_set hr2 { s with fe := e, fa := (tokAt T s.at_).pos }
  exact W_some.2 ⟨rfl, (p2.mut _).trans m, hx.mut ((p2.mut _).trans m) hd⟩
 ·have h1' : (s.fe != 0) = true := by simpa using h1
  rw [show failS T e s = s by simp [failS, h1]]
  simp -implicitDefEqProofs (disch := first | assumption | omega | (simp only [nxB]; omega) | (simp only [oneB])) only [s61_j0, s61, xlen, evB, h1', Bool.not_true]
  exact W_some.2 ⟨rfl, Mut.refl _ _, hx⟩
theorem takes_spec {H : AHeap} {r : Nat} {T : List Tok} {tv lv : AV} {s : St} (hx : Rx H r T tv lv s) (k : Int) (x : List UInt8) : W (evw P 80 [.ptr r 0 0, .int .i64 k, .str x] H) fun v H' => v = .bool (takesS T k x s).1 ∧ Mt r H H' ∧ Rx H' r T tv lv (takesS T k x s).2 := by
 refine W_of (fun _ => run80 0) ?_
 have hr := hx.rd
 have ho1 := hx.tk.one
 have ho2 := hx.lv.one
 rw [s80]
 refine W_call (is_spec hr hx.tk k x) ?_
 rintro _ H1 ⟨rfl, p1⟩
 refine ⟨p1.1, ?_⟩
 have hr2 : Rd H1 r tv lv s := hr.pur p1
 have hr2' := hr2
 unfold Rd at hr2'
 cases hb : isB T s k x with
 | false =>
  rw [show takesS T k x s = (false, s) by simp [takesS, hb]]
  simp -implicitDefEqProofs (disch := first | assumption | omega | (simp only [nxB]; omega) | (simp only [oneB])) only [s80, xlen, evB, Bool.not_false]
  exact W_some.2 ⟨rfl, p1.mut _, hx.pur p1⟩
 | true =>
  rw [show takesS T k x s = (true, goS s) by simp [takesS, hb]]
  simp -implicitDefEqProofs (disch := first | assumption | omega | (simp only [nxB]; omega) | (simp only [oneB])) only [s80, xlen, evB, Nat.reduceAdd, Nat.reduceLeDiff, reduceIte, AV.cells, splice, lsB, aload, tyB, astore, tyB, binB, heapB, fa71_1, hr2', ho1, ho2, Bool.not_true]
  obtain ⟨m, hd⟩ := fail_set hr2 (goS s)
  exact W_some.2 ⟨rfl, (p1.mut _).trans m, hx.mut ((p1.mut _).trans m) hd⟩
theorem wants_spec {H : AHeap} {r : Nat} {T : List Tok} {tv lv : AV} {s : St} (hx : Rx H r T tv lv s) (x : List UInt8) : W (evw P 63 [.ptr r 0 0, .str x] H) fun v H' => v = .bool (wantsS T x s).1 ∧ Mt r H H' ∧ Rx H' r T tv lv (wantsS T x s).2 := by
 refine W_of (fun _ => run63 0) ?_
 rw [s63]
 refine W_call (takes_spec hx 4 x) ?_
 rintro _ H1 ⟨rfl, m1, hx1⟩
 refine ⟨m1.1, ?_⟩
 cases hb : isB T s 4 x with
 | true =>
  rw [show wantsS T x s = (true, goS s) by simp [wantsS, hb]]
  simp only [takesS, hb, cond_true] at hx1 ⊢
  simp -implicitDefEqProofs (disch := first | assumption | omega | (simp only [nxB]; omega) | (simp only [oneB])) only [s63, xlen, evB]
  exact W_some.2 ⟨rfl, m1, hx1⟩
 | false =>
  rw [show wantsS T x s = (false, failS T 2 s) by simp [wantsS, hb]]
  simp only [takesS, hb, cond_false] at hx1 ⊢
  simp -implicitDefEqProofs (disch := first | assumption | omega | (simp only [nxB]; omega) | (simp only [oneB])) only [s63, xlen, evB]
  refine W_eff (fail_spec hx1 2) ?_
  rintro _ H2 ⟨rfl, m2, hx2⟩
  refine ⟨m2.1, ?_⟩
  simp -implicitDefEqProofs (disch := first | assumption | omega | (simp only [nxB]; omega) | (simp only [oneB])) only [s63, xlen, evB]
  exact W_some.2 ⟨rfl, m1.trans m2, hx2⟩
theorem opens_spec {H : AHeap} {r : Nat} {T : List Tok} {tv lv : AV} {s : St} (hx : Rx H r T tv lv s) (x : List UInt8) : W (evw P 101 [.ptr r 0 0, .str x] H) fun v H' => v = .bool (opensS T x s).1 ∧ Mt r H H' ∧ Rx H' r T tv lv (opensS T x s).2 := by
 refine W_of (fun _ => run101 0) ?_
 have hr := hx.rd
 have ho1 := hx.tk.one
 have ho2 := hx.lv.one
 rw [s101]
 refine W_call (is_spec hr hx.tk 4 x) ?_
 rintro _ H1 ⟨rfl, p1⟩
 refine ⟨p1.1, ?_⟩
 have hx1 := hx.pur p1
 have hr2 := hx1.rd
 have hl2 := hr2.lt
 have hr2' := hr2
 unfold Rd at hr2'
 cases hb : isB T s 4 x with
 | false =>
  rw [show opensS T x s = (false, failS T 2 s) by simp [opensS, hb]]
  simp -implicitDefEqProofs (disch := first | assumption | omega | (simp only [nxB]; omega) | (simp only [oneB])) only [s101, xlen, evB, Bool.not_false]
  refine W_call (fail_spec hx1 2) ?_
  rintro _ H2 ⟨rfl, m2, hx2⟩
  refine ⟨m2.1, ?_⟩
  try simp only [s101]
  exact W_some.2 ⟨rfl, (p1.mut _).trans m2, hx2⟩
 | true =>
  by_cases ho : 50 ≤ s.opn
  ·rw [show opensS T x s = (false, failS T 4 s) by simp [opensS, hb, ho]]
   simp -implicitDefEqProofs (disch := first | assumption | omega | (simp only [nxB]; omega) | (simp only [oneB])) only [s101, xlen, evB, Nat.reduceAdd, Nat.reduceLeDiff, reduceIte, AV.cells, splice, lsB, aload, tyB, astore, tyB, binB, heapB, fa71_2, hr2', Bool.not_true, ho, decide_true]
   refine W_call (fail_spec hx1 4) ?_
   rintro _ H2 ⟨rfl, m2, hx2⟩
   refine ⟨m2.1, ?_⟩
   try simp -implicitDefEqProofs (disch := first | assumption | omega | (simp only [nxB]; omega) | (simp only [oneB])) only [s101]
   exact W_some.2 ⟨rfl, (p1.mut _).trans m2, hx2⟩
  ·rw [show opensS T x s = (true, { s with at_ := w64 (s.at_ + 1), opn := w64 (s.opn + 1) }) by simp [opensS, hb, ho]]
   simp -implicitDefEqProofs (disch := first | assumption | omega | (simp only [nxB]; omega) | (simp only [oneB])) only [s101, xlen, evB, Nat.reduceAdd, Nat.reduceLeDiff, reduceIte, AV.cells, splice, lsB, aload, tyB, astore, tyB, binB, heapB, fa71_1, fa71_2, hr2', hr2.lt, ho1, ho2, Bool.not_true, ho, decide_false]
   obtain ⟨m, hd⟩ := fail_set hr2 { s with at_ := w64 (s.at_ + 1), opn := w64 (s.opn + 1) }
   exact W_some.2 ⟨rfl, (p1.mut _).trans m, hx.mut ((p1.mut _).trans m) hd⟩
theorem closes_spec {H : AHeap} {r : Nat} {T : List Tok} {tv lv : AV} {s : St} (hx : Rx H r T tv lv s) (x : List UInt8) : W (evw P 120 [.ptr r 0 0, .str x] H) fun v H' => v = .bool (closesS T x s).1 ∧ Mt r H H' ∧ Rx H' r T tv lv (closesS T x s).2 := by
 refine W_of (fun _ => run120 0) ?_
 have hr := hx.rd
 have ho1 := hx.tk.one
 have ho2 := hx.lv.one
 have hr' := hr
 unfold Rd at hr'
 simp -implicitDefEqProofs (disch := first | assumption | omega | (simp only [nxB]; omega) | (simp only [oneB])) only [s120_0, s120, xlen, evB, Nat.reduceAdd, Nat.reduceLeDiff, reduceIte, AV.cells, splice, lsB, aload, tyB, astore, tyB, binB, heapB, fa71_2, hr', ho1, ho2]
 obtain ⟨m, hd⟩ := fail_set hr (outS s)
 refine W_call (wants_spec (hx.mut m hd) x) ?_
 rintro _ H1 ⟨rfl, m1, hx1⟩
 refine ⟨m1.1, ?_⟩
 simp only [s120_0]
 exact W_some.2 ⟨rfl, m.trans m1, hx1⟩
end Go.Proofs.Ytnjoomfeddamcaa

namespace Go.Ev
theorem Tr.putP_comm {α : Type} (x y : α) : ∀ (p q : List D8) (t : Tr α), p ≠ q → Tr.putP x p (Tr.putP y q t) = Tr.putP y q (Tr.putP x p t)
  | [], [], _, h => absurd rfl h
  | [], d :: q, .leaf, _ => by cases d <;> simp [Tr.putP]
  | [], d :: q, .node .., _ => by cases d <;> simp [Tr.putP]
  | d :: p, [], .leaf, _ => by cases d <;> simp [Tr.putP]
  | d :: p, [], .node .., _ => by cases d <;> simp [Tr.putP]
  | d :: p, e :: q, .leaf, h => by
    by_cases hd : d = e
    · subst hd
      have ih := Tr.putP_comm x y p q .leaf (fun hh => h (by rw [hh]))
      cases d <;> simp [Tr.putP, ih]
    · cases d <;> cases e <;> first | exact absurd rfl hd | simp [Tr.putP]
  | d :: p, e :: q, .node v c0 c1 c2 c3 c4 c5 c6 c7, h => by
    by_cases hd : d = e
    · subst hd
      have ih := fun c => Tr.putP_comm x y p q c (fun hh => h (by rw [hh]))
      cases d <;> simp [Tr.putP, ih]
    · cases d <;> cases e <;> first | exact absurd rfl hd | simp [Tr.putP]
theorem AHeap.push_set_lt {H : AHeap} {b c : ABlk} {l : Nat} (h : l < H.next) : (H.push b).set l c = (H.set l c).push b := by
  simp only [AHeap.push, AHeap.set, Tr.put]
  rw [Tr.putP_comm _ _ _ _ _ (fun e => by have := path_inj e; omega)]
theorem xguard_tt (m : (K → O) → O) (k : K → O) : xguard (.bool true) true m k = m k := rfl
theorem xguard_ff (m : (K → O) → O) (k : K → O) : xguard (.bool false) false m k = m k := rfl
theorem xguard_tf (m : (K → O) → O) (k : K → O) : xguard (.bool true) false m k = k .skip := rfl
theorem xguard_ft (m : (K → O) → O) (k : K → O) : xguard (.bool false) true m k = k .skip := rfl
theorem xguard_sk (w : Bool) (m : (K → O) → O) (k : K → O) : xguard (.tuple []) w m k = k .skip := rfl
theorem W_bif {c : Bool} {a b : O} {Q : AV → AHeap → Prop} (hc : c = true) (h : W a Q) : W (bif c then a else b) Q := by rw [hc]; exact h
def traceH : List Tc → AHeap → List AHeap
  | [], H => [H]
  | t :: ts, H => H :: traceH ts (t.k.heap H)
theorem winC_true {ms : List Nat} {rd : AHeap → Bool} {i : Nat} : ∀ (T : List Tc) (H : AHeap), (∀ H' ∈ traceH T H, rd H' = true) → winC ms rd i T H = true
  | [], H, h => h H (by simp [traceH])
  | t :: ts, H, h => by
    have h0 := h H (by simp [traceH])
    have ih := winC_true (ms := ms) (rd := rd) (i := i) ts (t.k.heap H) (fun H' hm => h H' (by simp [traceH, hm]))
    rw [winC]
    cases hk : t.k.isHeap with
    | true => simp [h0, ih]
    | false =>
      have : t.k.heap H = H := by cases hh : t.k <;> simp [hh, K.isHeap, K.heap] at hk ⊢
      rw [this] at ih
      simp [ih]
theorem seeC_true {ms : List Nat} {rd : AHeap → Bool} {i : Nat} {T : List Tc} {H : AHeap} (h : ∀ H' ∈ traceH T H, rd H' = true) : seeC ms rd i T H = true := by
  rw [seeC, winC_true T H h]; cases candC ms i T false <;> rfl
def winsP (ez : List Nat) (T : List Tc) (H : AHeap) : List Tc → Prop
  | [] => True
  | t :: ts => (∀ v, t.k = .read v → ez.contains t.i = true ∨ ∀ H' ∈ traceH T H, rdIs (t.rd H') v = true) ∧ winsP ez T H ts
theorem winsC_true {ms ez : List Nat} {T : List Tc} {H : AHeap} : ∀ S : List Tc, winsP ez T H S → winsC ms ez T H S = true
  | [], _ => rfl
  | t :: ts, h => by
    rw [winsP] at h
    rw [winsC, winsC_true ts h.2, Bool.and_true]
    split
    · rename_i v hk
      rcases h.1 v hk with h1 | h1
      · rw [h1, Bool.true_or]
      · rw [seeC_true h1, Bool.or_true]
    · rfl
theorem dchk_true {ms ez : List Nat} {T : List Tc} {H : AHeap} (h1 : effC ms T [] = true) (h2 : winsP ez T H T) : dchk ms ez T H = true := by
  rw [dchk, h1, winsC_true T h2]; rfl
section
variable {P : Program}
def CallOk1 (P : Program) (g : Nat) (args : List AV) (H : AHeap) (v : AV) (H' : AHeap) : Prop :=
  ∀ (ρ : Env) (w : World) (xs : List Value), Rel ρ H w → Fresh ρ H.next H'.next → VRels ρ args xs → H.next ≤ H'.next →
    ∀ next : Value → World → Prop, (∀ x w' ρ', VRel ρ' v x → Step ρ H w ρ' H' w' → next x w') → Upon P (callFunc g xs.toArray) w next
theorem callOk_of {G : CallT} (h : ∀ g args H v H', G g args H = some (v, H') → CallOk1 P g args H v H') : CallOk P G := fun g args H v H' e => h g args H v H' e
theorem evCode_ok1 (hP : ProgOk P) {G : CallT} (hG : CallOk P G) {N f : Nat} {args : List AV} {H H1 : AHeap} {fn : Func} {c : Code} {ex : Ex} {R : Regs} {vs : List AV}
    (hfn : P.funcs[f]? = some fn) (hc : fn.body = some c) (hev : evCode (regRun P G) N c (Regs.enter fn.ntmps args) H = some (ex, R, H1)) (hne : ∀ id, ex ≠ .exit id) (hvs : ares P R H1 fn.results.toList = some vs) : CallOk1 P f args H (aone vs) H1 := by
  intro ρ w xs hR hf hargs hn next hnext
  have hcode := evCode_sound (N := N) regRun_mono (regRun_sound hP.mixed hG) c (hP.plans _ _ _ hfn hc)
  have hname : (fn.name == "runtime.NumGoroutine") = false := hP.names fn (Array.mem_of_getElem? hfn)
  have hrun : (callFunc f xs.toArray).run P w = .ok (.enter f xs.toArray) w := by
    unfold callFunc
    simp [hfn, hc]
    intro hh
    simp [hh] at hname
  unfold Upon
  rw [hrun]
  simp only
  refine calls_of_wp hfn hc (hcode _ _ _ _ _ hev ρ w _ _ hR hf (enter_rel hargs fn.ntmps) fun ρ' a' w' h1 h2 => ?_)
  obtain ⟨x, e1, e2⟩ := results_sound h2.rel h1 hvs
  have hnx := hnext x w' ρ' e2 h2
  cases ex with
  | normal => exact ⟨h1.none, x, e1, hnx⟩
  | ret => exact ⟨h1.none, x, e1, hnx⟩
  | exit id => exact absurd rfl (hne id)
theorem code_ok1 (hP : ProgOk P) {G : CallT} (hG : CallOk P G) {f : Nat} {args : List AV} {H : AHeap} {fn : Func} {c : Code} {M : Nat} {r : AV × AHeap} (hf : P.funcs[f]? = some fn) (hb : fn.body = some c) (hd : dstsOk fn.ntmps c = true) (hn : Nat.ble args.length fn.ntmps = true)
    (h : codeC P G M c (retC P fn.results.toList) [] (retC P fn.results.toList) (argsF args) H = some r) : CallOk1 P f args H r.1 r.2 := by
  have hs : (Regs.enter fn.ntmps args).size = fn.ntmps := by have := Nat.le_of_ble_eq_true hn; simp only [Regs.enter]; omega
  rw [← argsF_eq fn.ntmps, codeC_eq c _ _ _ _ _ (by rw [hs]; exact hd)] at h
  unfold endC at h
  have fin : ∀ (R : Regs) (H' : AHeap), retC P fn.results.toList R.get H' = some r → ∃ vs, ares P R H' fn.results.toList = some vs ∧ r = (aone vs, H') := by
    intro R H' hh
    unfold retC at hh
    rw [resC_eq] at hh
    cases ha : ares P R H' fn.results.toList with
    | none => rw [ha] at hh; cases hh
    | some vs => rw [ha] at hh; exact ⟨vs, rfl, (Option.some.inj hh).symm⟩
  split at h
  · rename_i R H' he
    obtain ⟨vs, h1, rfl⟩ := fin R H' h
    exact evCode_ok1 hP hG hf hb he (fun id => by intro hh; cases hh) h1
  · cases h
  · rename_i R H' he
    obtain ⟨vs, h1, rfl⟩ := fin R H' h
    exact evCode_ok1 hP hG hf hb he (fun id => by intro hh; cases hh) h1
  · cases h
theorem Rel.keepAll {ρ : Env} {H : AHeap} {w w' : World} (h : Rel ρ H w) (hk : ∀ b, b < w.heap.size → w'.heap[b]? = w.heap[b]?) : Rel ρ H w' := by
  have key : ∀ b x, w.heap[b]? = some x → w'.heap[b]? = some x := fun b x e => by
    rw [hk b ?_]; exact e
    exact (Array.getElem?_eq_some_iff.1 e).1
  refine ⟨fun l ro esz els e => ?_, fun l es e => ?_, h.apart⟩
  · obtain ⟨loc, h1, h2, c, t, fz, h3, h4⟩ := h.row l ro esz els e
    exact ⟨loc, h1, h2, c, t, fz, key _ _ h3, h4⟩
  · obtain ⟨loc, h1, ents, clock, h3, h4⟩ := h.map l es e
    exact ⟨loc, h1, ents, clock, key _ _ h3, h4⟩
theorem AHeap.empty_get (l : Nat) : AHeap.empty.get l = none := by
  cases h : AHeap.empty.get l with
  | none => rfl
  | some b => exact absurd (AHeap.get_lt h) (Nat.not_lt_zero l)
theorem rel_empty (w : World) : Rel (fun _ => none) AHeap.empty w := by
  refine ⟨fun l ro esz els e => ?_, fun l es e => ?_, fun l l' loc loc' _ _ _ h => ?_⟩
  · rw [AHeap.empty_get] at e; cases e
  · rw [AHeap.empty_get] at e; cases e
  · cases h
theorem not_owned_empty (b : Nat) : ¬ Owned (fun _ => none) AHeap.empty b := by
  rintro ⟨l, loc, _, h, _⟩; cases h
theorem callOk1_bool {g : Nat} {b : Bool} {H0 : AHeap} (h : CallOk1 P g [] AHeap.empty (.bool b) H0) (H : AHeap) : CallOk1 P g [] H (.bool b) H := by
  intro ρ w xs hR hf hargs hn next hnext
  cases hargs
  refine h (fun _ => none) w [] (rel_empty w) (fun _ _ _ => rfl) .nil (Nat.zero_le _) next fun x w' ρ' hx hs => ?_
  cases hx
  have hk : ∀ b, b < w.heap.size → w'.heap[b]? = w.heap[b]? := fun b hb => hs.frame b hb (not_owned_empty b)
  exact hnext _ w' ρ (.bool b) ⟨ρ.le_refl, Nat.le_refl _, fun _ _ => rfl, hR.keepAll hk, hs.os, hs.tape, hs.output, hs.size, fun b hb _ => hk b hb, fun _ h => .inl h, fun _ _ _ h => h⟩
def isBool (b : Bool) : O → Bool
  | some (.bool c, _) => c == b
  | _ => false
theorem callOk1_run (hP : ProgOk P) {N n g : Nat} {b : Bool} (h : isBool b (ev P N n g [] AHeap.empty) = true) (H : AHeap) : CallOk1 P g [] H (.bool b) H := by
  unfold isBool at h
  split at h
  · rename_i c H0 he
    have : c = b := by simpa using h
    subst this
    exact callOk1_bool (fun ρ w xs => ev_ok hP n g [] _ _ _ he ρ w xs) H
  · cases h
noncomputable def evb (P : Program) (g : Nat) (b : Bool) : CallT := fun f args H => if f = g ∧ args = [] then some (.bool b, H) else evw P f args H
theorem evb_ok (hP : ProgOk P) {g : Nat} {b : Bool} (h : ∀ H, CallOk1 P g [] H (.bool b) H) : CallOk P (evb P g b) := by
  refine callOk_of fun f args H v H' e => ?_
  unfold evb at e
  split at e
  · rename_i hc
    obtain ⟨rfl, rfl⟩ := hc
    simp only [Option.some.injEq, Prod.mk.injEq] at e
    obtain ⟨rfl, rfl⟩ := e
    exact h H
  · exact fun ρ w xs => evw_ok hP f args H v H' e ρ w xs
theorem evb_self {g : Nat} {b : Bool} (H : AHeap) : evb P g b g [] H = some (.bool b, H) := by simp [evb]
theorem evb_other {f g : Nat} {b : Bool} {args : List AV} {H : AHeap} (h : f ≠ g) : evb P g b f args H = evw P f args H := by simp [evb, h]
end
end Go.Ev

namespace Go.Proofs.Ytnjoomfeddamcaa
open Go.Ev
def namesOk (fs : List Func) : Bool := fs.all fun fn => !(fn.name == "runtime.NumGoroutine")
def bodiesOk (fs : List Func) : Bool := fs.all fun fn => match fn.body with
 | some c => plansOk c
 | none => true
theorem progOk_of {P : Program} (h1 : P.follows .mixedOrders = true) (h2 : namesOk P.funcs.toList = true) (h3 : bodiesOk P.funcs.toList = true) : ProgOk P := by
 refine ⟨h1, fun fn hfn => ?_, fun f fn c hf hc => ?_⟩
 ·have := List.all_eq_true.1 h2 fn (Array.mem_toList_iff.2 hfn)
  simpa using this
 ·have := List.all_eq_true.1 h3 fn (Array.mem_toList_iff.2 (Array.mem_of_getElem? hf))
  simpa [hc] using this
set_option maxRecDepth 1000000
theorem progOk : ProgOk P := progOk_of (by kernel_rfl) (by kernel_rfl) (by kernel_rfl)
end Go.Proofs.Ytnjoomfeddamcaa
namespace Go.Ev
open Go.ChangeShapes Go.WideShapes Go.ChangeAt Go.RowKit
def LawOk (P : Program) (f : Nat) (args : List Value) (W : World) : Prop :=
  ∃ (ρ : Env) (H : AHeap) (avs : List AV) (H' : AHeap), Rel ρ H W ∧ (∀ l, ¬ H.rw l) ∧ (∀ l, H.next ≤ l → ρ l = none) ∧ H.next ≤ H'.next ∧ VRels ρ avs args ∧ CallOk1 P f avs H (.bool true) H'
theorem law_walk {P : Program} {f : Nat} {fn : Func} {c : Code} {args : List Value} {W : World} (hP : ProgOk P) (hfn : P.funcs[f]? = some fn) (hc : fn.body = some c) (h : LawOk P f args W) :
    Calls P f args.toArray W fun e w' => e = .returned (.bool true) ∧ Below W.heap.size W w' := by
  obtain ⟨ρ, H, avs, H', h1, h2, h3, h4, h5, h6⟩ := h
  have hno : ∀ b, ¬ Owned ρ H b := by rintro b ⟨l, loc, hl, _⟩; exact h2 l hl
  have hup := h6 ρ W args h1 (fun l hl _ => h3 l hl) h5 h4 (fun x w' => x = .bool true ∧ Below W.heap.size W w') (fun x w' ρ' hx hs => by
    cases hx
    exact ⟨rfl, hs.os, hs.tape, hs.output, hs.size, fun k hk => hs.frame k hk (hno k)⟩)
  have hname : (fn.name == "runtime.NumGoroutine") = false := hP.names fn (Array.mem_of_getElem? hfn)
  have hrun : (callFunc f args.toArray).run P W = .ok (.enter f args.toArray) W := by
    unfold callFunc
    simp [hfn, hc]
    intro hh
    simp [hh] at hname
  unfold Upon at hup
  rw [hrun] at hup
  simp only at hup
  refine hup.mono fun e w' hr => ?_
  split at hr
  · exact ⟨by rw [hr.1], hr.2⟩
  · exact hr.elim
theorem trodAll_below {H : Type} {enc : TypeId × Value → H} {P : Program} {W W' : World} (hl : laidOutB P = true) (hb : Below W.heap.size W W') : ∀ {ts : List TypeId} {vs : List Value} {ds : List (DataW H)} {ps : List MemPlace}, (∀ t ∈ ts, P.readableRec t = true ∧ t < P.types.size) →
    DataW.TrodAll enc P W 0 (fun _ => true) true ts vs ds ps → ∃ ps', DataW.TrodAll enc P W' 0 (fun b => decide (b < W.heap.size)) true ts vs ds ps'
  | [], vs, ds, ps, _, h => by
    obtain ⟨rfl, rfl, rfl⟩ := trodAll_nil h
    exact ⟨[], trodAll_mk0⟩
  | t :: ts, vs, ds, ps, ht, h => by
    obtain ⟨v, vs', d, ds', p, q, rfl, rfl, rfl, h1, h2⟩ := trodAll_cons h
    obtain ⟨ps', h3⟩ := trodAll_below hl hb (fun t ht' => ht t (List.mem_cons_of_mem _ ht')) h2
    have hlt : ∀ x ∈ p, x.block < W.heap.size := by obtain ⟨m, hm⟩ := h1; exact DataW.trod_lt m _ _ _ hm
    exact ⟨_, trodAll_cons_mk (Below.trod hl (ht t (List.mem_cons_self ..)).1 (ht t (List.mem_cons_self ..)).2 h1 hb hlt) h3⟩
theorem law_plain {P : Program} {f : Nat} {args : List Value} {W : World} {avs : List AV} {H' : AHeap} (h : VRels (fun _ => none) avs args) (hc : CallOk1 P f avs AHeap.empty (.bool true) H') : LawOk P f args W :=
  have hno : ∀ l, ¬ AHeap.empty.rw l := fun l hl => by
    rcases hl with ⟨e, s, h⟩ | ⟨es, h⟩ <;> rw [AHeap.empty_get] at h <;> cases h
  ⟨fun _ => none, AHeap.empty, avs, H', rel_empty W, hno, fun _ _ => rfl, Nat.zero_le _, h, hc⟩
def env1 (loc : Loc) : Env := fun l => if l = 0 then some loc else none
def heap1 (esz : Nat) (els : List (List AV)) : AHeap := AHeap.empty.push (.row true esz els)
theorem heap1_get (esz : Nat) (els : List (List AV)) (l : Nat) (b : ABlk) (h : (heap1 esz els).get l = some b) : l = 0 ∧ b = .row true esz els := by
  unfold heap1 at h
  rw [AHeap.get_push] at h
  split at h
  · rename_i hl; exact ⟨hl, (Option.some.inj h).symm⟩
  · rw [AHeap.empty_get] at h; cases h
theorem heap1_rel {loc : Loc} {esz : Nat} {els : List (List AV)} {w : World} (h : RowOk (env1 loc) w loc true esz els) : Rel (env1 loc) (heap1 esz els) w := by
  refine ⟨fun l ro e s hg => ?_, fun l es hg => ?_, fun l l' loc loc' hl _ _ _ _ => ?_⟩
  · obtain ⟨rfl, hb⟩ := heap1_get _ _ _ _ hg
    cases hb
    exact ⟨loc, rfl, h⟩
  · obtain ⟨rfl, hb⟩ := heap1_get _ _ _ _ hg
    cases hb
  · rcases hl with ⟨e, s, hg⟩ | ⟨es, hg⟩ <;> obtain ⟨_, hb⟩ := heap1_get _ _ _ _ hg <;> cases hb
theorem heap1_rw (esz : Nat) (els : List (List AV)) (l : Nat) : ¬ (heap1 esz els).rw l := by
  rintro (⟨e, s, hg⟩ | ⟨es, hg⟩) <;> obtain ⟨_, hb⟩ := heap1_get _ _ _ _ hg <;> cases hb
theorem add_off {a : Addr} (h : a.spot = none) (j : Nat) : a.add j = ⟨a.block, a.off + j, none⟩ := by
  obtain ⟨b, o, s⟩ := a
  cases h
  exact addr_add b o j
structure Seen (ρ : Env) (H : AHeap) (W : World) : Prop where
  rel : Rel ρ H W
  ro : ∀ l, ¬ H.rw l
  top : ∀ l, H.next ≤ l → ρ l = none
theorem Seen.empty (W : World) : Seen (fun _ => none) AHeap.empty W :=
  have hno : ∀ l, ¬ AHeap.empty.rw l := fun l hl => by
    rcases hl with ⟨e, s, h⟩ | ⟨es, h⟩ <;> rw [AHeap.empty_get] at h <;> cases h
  ⟨rel_empty W, hno, fun _ _ => rfl⟩
theorem Seen.le_upd {ρ : Env} {H : AHeap} {W : World} (h : Seen ρ H W) (loc : Go.Ev.Loc) : ρ.le (ρ.upd H.next loc) := fun l loc' e => by
  have : l ≠ H.next := by rintro rfl; rw [h.top _ (Nat.le_refl _)] at e; cases e
  simp only [Env.upd, if_neg this]; exact e
theorem RowOk.mono {ρ ρ' : Env} (hle : ρ.le ρ') {w : World} {loc : Go.Ev.Loc} {ro : Bool} {esz : Nat} {els : List (List AV)} (h : RowOk ρ w loc ro esz els) : RowOk ρ' w loc ro esz els := by
  obtain ⟨h1, c, t, fz, h2, h3, h4⟩ := h
  refine ⟨h1, c, t, fz, h2, h3, fun i e he => ⟨(h4 i e he).1, fun j v hv => ?_⟩⟩
  obtain ⟨q1, x, q2, q3⟩ := (h4 i e he).2 j v hv
  exact ⟨q1, x, q2, q3.mono hle⟩
theorem Seen.push {ρ : Env} {H : AHeap} {W : World} (h : Seen ρ H W) {loc : Go.Ev.Loc} {esz : Nat} {els : List (List AV)} (hr : RowOk ρ W loc true esz els) : Seen (ρ.upd H.next loc) (H.push (.row true esz els)) W := by
  have hle := h.le_upd loc
  have hrw : ∀ l, ¬ (H.push (.row true esz els)).rw l := by
    rintro l (⟨e, s, hg⟩ | ⟨es, hg⟩)
    · rw [AHeap.get_push] at hg
      split at hg
      · cases hg
      · exact h.ro l (.inl ⟨e, s, hg⟩)
    · rw [AHeap.get_push] at hg
      split at hg
      · cases hg
      · exact h.ro l (.inr ⟨es, hg⟩)
  refine ⟨⟨fun l ro e s hg => ?_, fun l es hg => ?_, fun l l' _ _ hl => absurd hl (hrw l)⟩, hrw, fun l hl => ?_⟩
  · rw [AHeap.get_push] at hg
    split at hg
    · rename_i hl
      cases hg
      exact ⟨loc, by simp [Env.upd, hl], hr.mono hle⟩
    · obtain ⟨loc', h1, h2⟩ := h.rel.row l ro e s hg
      exact ⟨loc', hle _ _ h1, h2.mono hle⟩
  · exact absurd (.inr ⟨es, hg⟩) (hrw l)
  · simp only [AHeap.next_push] at hl
    have : l ≠ H.next := by omega
    simp only [Env.upd, if_neg this]
    exact h.top l (by omega)
theorem Seen.blank {ρ : Env} {H : AHeap} {W : World} (h : Seen ρ H W) (loc : Go.Ev.Loc) : Seen (ρ.upd H.next loc) (H.push .dead) W := by
  have hle := h.le_upd loc
  have hrw : ∀ l, ¬ (H.push .dead).rw l := by
    rintro l (⟨e, s, hg⟩ | ⟨es, hg⟩)
    · rw [AHeap.get_push] at hg
      split at hg
      · cases hg
      · exact h.ro l (.inl ⟨e, s, hg⟩)
    · rw [AHeap.get_push] at hg
      split at hg
      · cases hg
      · exact h.ro l (.inr ⟨es, hg⟩)
  refine ⟨⟨fun l ro e s hg => ?_, fun l es hg => ?_, fun l l' _ _ hl => absurd hl (hrw l)⟩, hrw, fun l hl => ?_⟩
  · rw [AHeap.get_push] at hg
    split at hg
    · cases hg
    · obtain ⟨loc', h1, h2⟩ := h.rel.row l ro e s hg
      exact ⟨loc', hle _ _ h1, h2.mono hle⟩
  · exact absurd (.inr ⟨es, hg⟩) (hrw l)
  · simp only [AHeap.next_push] at hl
    have : l ≠ H.next := by omega
    simp only [Env.upd, if_neg this]
    exact h.top l (by omega)
def fldOf (P : Program) (t i : Nat) : Option (Nat × Nat) := match P.underlying t with
  | some (.struct fs) => (fs[i]?).map fun f => (f.type, f.offset)
  | _ => none
theorem trod_fld {H : Type} {enc : TypeId × Value → H} {P : Program} {w : World} {base : Nat} {sp : Nat → Bool} {held : Bool} {n t : Nat} {cs : List Value} {x : DataW H × List MemPlace} {i ty off : Nat}
    (hf : fldOf P t i = some (ty, off)) (h : DataW.trod enc P w base sp held n t cs = some x) : ∃ m y, DataW.trod enc P w base sp held m ty ((cs.drop off).take (P.cellsOf ty)) = some y := by
  unfold fldOf at hf
  split at hf
  · rename_i fs ht
    obtain ⟨f, h1, h2⟩ := Option.map_eq_some_iff.1 hf
    simp only [Prod.mk.injEq] at h2
    obtain ⟨rfl, rfl⟩ := h2
    obtain ⟨xs, m, _, _, _, hl, hx⟩ := DataW.trod_struct ht h
    have hi : i < xs.length := by rw [hl]; exact (Array.getElem?_eq_some_iff.1 h1).1
    exact ⟨m, xs[i], by rw [hx i f h1]; simp [hi]⟩
  · cases hf
theorem trod_fldn {H : Type} {enc : TypeId × Value → H} {P : Program} {w : World} {base : Nat} {sp : Nat → Bool} {held : Bool} {n t : Nat} {cs : List Value} {x : DataW H × List MemPlace} {i ty off : Nat}
    (hf : fldOf P t i = some (ty, off)) (h : DataW.trod enc P w base sp held n t cs = some x) : ∃ m y, m < n ∧ DataW.trod enc P w base sp held m ty ((cs.drop off).take (P.cellsOf ty)) = some y := by
  unfold fldOf at hf
  split at hf
  · rename_i fs ht
    obtain ⟨f, h1, h2⟩ := Option.map_eq_some_iff.1 hf
    simp only [Prod.mk.injEq] at h2
    obtain ⟨rfl, rfl⟩ := h2
    obtain ⟨xs, m, hm, _, _, hl, hx⟩ := DataW.trod_struct ht h
    have hi : i < xs.length := by rw [hl]; exact (Array.getElem?_eq_some_iff.1 h1).1
    exact ⟨m, xs[i], by omega, by rw [hx i f h1]; simp [hi]⟩
  · cases hf
theorem trod_len {H : Type} {enc : TypeId × Value → H} {P : Program} {w : World} {base : Nat} {sp : Nat → Bool} {held : Bool} {n t : Nat} {cs : List Value} {x : DataW H × List MemPlace} {i ty off : Nat}
    (hf : fldOf P t i = some (ty, off)) (h : DataW.trod enc P w base sp held n t cs = some x) : cs.length = P.cellsOf t := by
  unfold fldOf at hf
  split at hf
  · rename_i fs ht
    obtain ⟨xs, m, _, _, hl, _⟩ := DataW.trod_struct ht h
    exact hl
  · cases hf
theorem trod_int1 {H : Type} {enc : TypeId × Value → H} {P : Program} {w : World} {base : Nat} {sp : Nat → Bool} {held : Bool} {n t : Nat} {v : Value} {x : DataW H × List MemPlace} {k : IntKind}
    (ht : P.underlying t = some (.int k)) (h : DataW.trod enc P w base sp held n t [v] = some x) : ∃ z, v = .int k z := by
  obtain ⟨z, h1, _⟩ := DataW.trod_int ht h
  simp only [List.cons.injEq, and_true] at h1
  exact ⟨z, h1⟩
theorem trod_str1 {H : Type} {enc : TypeId × Value → H} {P : Program} {w : World} {base : Nat} {sp : Nat → Bool} {held : Bool} {n t : Nat} {v : Value} {x : DataW H × List MemPlace}
    (ht : P.underlying t = some .string) (h : DataW.trod enc P w base sp held n t [v] = some x) : ∃ s : List UInt8, v = .string ⟨s.toArray⟩ := by
  obtain ⟨s, h1, _⟩ := DataW.trod_string ht h
  simp only [List.cons.injEq, and_true] at h1
  exact ⟨s.data.toList, by rw [h1]⟩
theorem open_sl {H : Type} {enc : TypeId × Value → H} {P : Program} {w : World} {fuel t e : Nat} {cs : List Value} {x : DataW H × List MemPlace} (ht : P.underlying t = some (.slice e)) (h : DataW.trod enc P w 0 (fun _ => true) true fuel t cs = some x) :
    cs = [.slice none 0 0] ∨ ∃ a len cap q, fuel = q + 1 ∧ cs = [.slice (some a) len cap] ∧ len ≤ cap ∧ ∀ i, i < cap → ∃ cs', w.cells? 0 (a.add (i * P.cellsOf e)) (P.cellsOf e) = some cs' ∧ ∃ z, DataW.trod enc P w 0 (fun _ => true) true q e cs' = some z := by
  rcases DataW.trod_slice ht h with ⟨h0, _⟩ | ⟨a, len, cap, elems, rest, n, hf, rfl, _, _, hl, _, hlen, hel, hsp, _⟩
  · exact .inl h0
  · refine .inr ⟨a, len, cap, n, hf, rfl, hl, fun i hi => ?_⟩
    obtain ⟨hr, hrest⟩ := hsp rfl
    have key : ∃ z, (w.cells? 0 (a.add (i * P.cellsOf e)) (P.cellsOf e)).bind (DataW.trod enc P w 0 (fun _ => true) true n e) = some z := by
      by_cases hil : i < len
      · exact ⟨elems[i]'(by omega), by rw [hel i hil]; simp⟩
      · have hj : i - len < cap - len := by omega
        have := hrest (i - len) hj
        rw [show len + (i - len) = i by omega] at this
        exact ⟨rest[i - len]'(by omega), by rw [this]; simp⟩
    obtain ⟨z, hz⟩ := key
    obtain ⟨cs', h1, h2⟩ := Option.bind_eq_some_iff.1 hz
    exact ⟨cs', h1, z, h2⟩
end Go.Ev

namespace Go.Proofs.Ytnjoomfeddamcaa
open Go.Ev
open Go.ChangeShapes Go.WideShapes Go.ChangeAt Go.RowKit Go.Deep
theorem own : ownKnob Try.prog.godebug = none := by kernel_rfl
theorem laidOut : laidOutB Try.prog = true := by kernel_rfl
theorem und3 : P.underlying 3 = some (.int .i64) := by kernel_rfl
theorem und4 : P.underlying 4 = some .bool := by kernel_rfl
theorem und9 : P.underlying 9 = some .string := by kernel_rfl
theorem und22 : P.underlying 22 = some (.slice 65) := by kernel_rfl
theorem cells65 : P.cellsOf 65 = 4 := by kernel_rfl
theorem cells3 : P.cellsOf 3 = 1 := by kernel_rfl
theorem cells9 : P.cellsOf 9 = 1 := by kernel_rfl
theorem trod65 {H : Type} {enc : TypeId × Value → H} {w : World} {n : Nat} {cs : List Value} {x : DataW H × List MemPlace} (h : DataW.trod enc P w 0 (fun _ => true) true n 65 cs = some x) : ∃ t : Tok, cs = [.int .i64 t.kind, .string ⟨t.text.toArray⟩, .int .i64 t.n, .int .i64 t.pos] := by
 have f0 : fldOf P 65 0 = some (3, 0) := by kernel_rfl
 have f1 : fldOf P 65 1 = some (9, 1) := by kernel_rfl
 have f2 : fldOf P 65 2 = some (3, 2) := by kernel_rfl
 have f3 : fldOf P 65 3 = some (3, 3) := by kernel_rfl
 have hl := trod_len f0 h
 rw [cells65] at hl
 match cs, hl with
 | [a, b, c, d], _ =>
  obtain ⟨_, _, h0⟩ := trod_fld f0 h
  obtain ⟨_, _, h1⟩ := trod_fld f1 h
  obtain ⟨_, _, h2⟩ := trod_fld f2 h
  obtain ⟨_, _, h3⟩ := trod_fld f3 h
  rw [cells3] at h0 h2 h3
  rw [cells9] at h1
  obtain ⟨k, rfl⟩ := trod_int1 und3 h0
  obtain ⟨s, rfl⟩ := trod_str1 und9 h1
  obtain ⟨m, rfl⟩ := trod_int1 und3 h2
  obtain ⟨q, rfl⟩ := trod_int1 und3 h3
  exact ⟨⟨k, s, m, q⟩, rfl⟩
set_option maxRecDepth 100000 in
theorem open_toks {H : Type} {enc : TypeId × Value → H} {W : World} {r : Reach} {base : Nat} {v : Value} {d : DataW H} {ps : List MemPlace} (hval : Value.okWide P W r base 22 v) (h : DataW.Trod enc P W 0 (fun _ => true) true 22 v d ps) :
  ∃ (T : List Tok) (ρ : Env) (H : AHeap) (tv : AV), Rel ρ H W ∧ (∀ l, ¬ H.rw l) ∧ (∀ l, H.next ≤ l → ρ l = none) ∧ VRel ρ tv v ∧ TokSl H tv T := by
 obtain ⟨a0, len, cap, rfl⟩ := okWide_slice (P := P) und22 hval
 obtain ⟨fuel, hf⟩ := h
 rcases open_slice (P := P) und22 hf with ⟨hcs, _⟩ | ⟨a, l, c, m, n, D, Pl, hcs, _, hlc, _, hm, _, hx⟩
 ·simp [Value.cells] at hcs
  obtain ⟨rfl, rfl, rfl⟩ := hcs
  refine ⟨[], fun _ => none, AHeap.empty, .nilSl, rel_empty W, fun l hl => ?_, fun _ _ => rfl, .nilSl, .inl ⟨rfl, rfl⟩⟩
  rcases hl with ⟨e, s, h⟩ | ⟨es, h⟩ <;> rw [AHeap.empty_get] at h <;> cases h
 ·simp [Value.cells] at hcs
  obtain ⟨rfl, rfl, rfl⟩ := hcs
  simp only [if_true] at hm
  replace hm := hm.symm
  subst hm
  rw [cells65] at hx
  have hel : ∀ i, i < cap → ∃ t : Tok, W.cells? 0 (a.add (i * 4)) 4 = some [.int .i64 t.kind, .string ⟨t.text.toArray⟩, .int .i64 t.n, .int .i64 t.pos] := by
   intro i hi
   obtain ⟨cs, h1, h2⟩ := hx i hi
   obtain ⟨t, rfl⟩ := trod65 h2
   exact ⟨t, h1⟩
  obtain ⟨tf, htf⟩ := @choose_lt Tok ⟨Tok.none⟩ cap _ hel
  by_cases hc : 0 < cap
  ·have hsp : a.spot = none := by
    have := (World.cells?_some (htf 0 hc)).2.2 0 (by omega)
    have h2 := World.cell?_spot this
    simpa [Addr.add] using h2
   obtain ⟨cc, tt, fz, hblk⟩ : ∃ cc tt fz, W.heap[a.block]? = some (.cells cc tt fz) := by
    have := (World.cells?_some (htf 0 hc)).2.2 0 (by omega)
    rw [add_off hsp, add_off rfl] at this
    unfold World.cell? at this
    simp only at this
    split at this
    ·exact ⟨_, _, _, ‹_›⟩
    ·cases this
   have hcell : ∀ i, i < cap → ∀ j, j < 4 → cc[a.off + i * 4 + j]? = [Value.int .i64 (tf i).kind, .string ⟨(tf i).text.toArray⟩, .int .i64 (tf i).n, .int .i64 (tf i).pos][j]? := by
    intro i hi j hj
    have := (World.cells?_some (htf i hi)).2.2 j hj
    rw [add_off hsp, add_off rfl] at this
    unfold World.cell? at this
    simpa [hblk] using this
   refine ⟨(List.range len).map tf, env1 ⟨a.block, a.off, 4, a.off + cap * 4⟩, heap1 4 ((List.range len).map fun i => (tf i).cells), .sl 0 0 len 4 none, heap1_rel ⟨rfl, cc, tt, fz, hblk, (fun h => by cases h), ?_⟩, heap1_rw _ _, fun l hl => ?_, ?_, ?_⟩
   ·intro i e he
    simp only [List.getElem?_map, Option.map_eq_some_iff] at he
    obtain ⟨i', hi', rfl⟩ := he
    have hi2 := List.getElem?_eq_some_iff.1 hi'
    obtain ⟨hlt, hi3⟩ := hi2
    simp at hlt hi3
    subst hi3
    refine ⟨rfl, fun j v hv => ?_⟩
    have hcl := hcell i (by omega)
    match j, hv with
    | 0, hv => cases hv; exact ⟨rfl, _, hcl 0 (by omega), .int _ _⟩
    | 1, hv => cases hv; exact ⟨rfl, _, hcl 1 (by omega), .str _⟩
    | 2, hv => cases hv; exact ⟨rfl, _, hcl 2 (by omega), .int _ _⟩
    | 3, hv => cases hv; exact ⟨rfl, _, hcl 3 (by omega), .int _ _⟩
    | j + 4, hv => simp [Tok.cells] at hv
   ·have : l ≠ 0 := by simp only [heap1, AHeap.next_push] at hl; omega
    simp [env1, this]
   ·exact .sl 0 0 len none ⟨a.block, a.off, 4, a.off + cap * 4⟩ a cap rfl hlc (fun k hk => by cases hk) (fun _ => ⟨by obtain ⟨b, o, s⟩ := a; cases hsp; simp, by simp⟩)
   ·refine .inr ⟨0, 0, none, by simp, .inr ⟨true, _, by unfold heap1; exact AHeap.get_push_same _ _, fun k t hk => ?_⟩⟩
    simp only [List.getElem?_map, Option.map_eq_some_iff] at hk ⊢
    obtain ⟨k', h1, rfl⟩ := hk
    exact ⟨k', by simpa using h1, rfl⟩
  ·obtain rfl : cap = 0 := by omega
   obtain rfl : len = 0 := by omega
   refine ⟨[], env1 ⟨0, 0, 4, 0⟩, ⟨.leaf, 1⟩, .sl 0 0 0 4 none, ⟨fun l ro esz els hg => ?_, fun l es hg => ?_, fun l l' loc loc' hl _ _ _ _ => ?_⟩, fun l hl => ?_, fun l hl => ?_, ?_, .inr ⟨0, 0, none, rfl, .inl rfl⟩⟩
   ·cases hg' : AHeap.get ⟨.leaf, 1⟩ l <;> simp [AHeap.get, Tr.get_leaf] at hg
   ·simp [AHeap.get, Tr.get_leaf] at hg
   ·rcases hl with ⟨e, s, hg⟩ | ⟨es, hg⟩ <;> simp [AHeap.get, Tr.get_leaf] at hg
   ·rcases hl with ⟨e, s, hg⟩ | ⟨es, hg⟩ <;> simp [AHeap.get, Tr.get_leaf] at hg
   ·have : l ≠ 0 := by simp only at hl; omega
    simp [env1, this]
   ·exact .sl 0 0 0 none ⟨0, 0, 4, 0⟩ a 0 rfl (Nat.le_refl _) (fun k hk => by cases hk) (fun h => absurd h (by omega))
end Go.Proofs.Ytnjoomfeddamcaa

namespace Go.Proofs.Ytnjoomfeddamcaa
open Go.Ev
def kw (x : Bs) : Int := match x with
 | c :: _ => if 97 ≤ c.toNat ∧ c.toNat ≤ 122 then 3 else 4
 | [] => 4
def isR (T : List Tok) (s : St) (x : Bs) : Bool := isB T s (kw x) x
def takeR (T : List Tok) (x : Bs) (s : St) : St := bif isR T s x then goS s else failS T 2 s
def inS (s : St) : St := { s with opn := w64 (s.opn + 1) }
def opensR (T : List Tok) (x : Bs) (s : St) : St := bif isR T s x && decide (50 ≤ s.opn) then failS T 4 s else inS (takeR T x s)
def closesR (T : List Tok) (x : Bs) (s : St) : St := outS (takeR T x s)
def nameR (T : List Tok) (s : St) : Bs × St := bif s.fe == 0 && (tokAt T s.at_).kind == 1 then ((tokAt T s.at_).text, goS s) else ([], failS T 2 s)
def takeN (T : List Tok) (x : Bs) : Nat → St → St
 | 0, s => s
 | n + 1, s => takeN T x n (takeR T x s)
def ofRL (T : List Tok) : Nat → Int → St → (Int × St) ⊕ St
 | 0, d, s => bif isR T s [91] then .inr (failS T 4 s) else .inl (d, s)
 | n + 1, d, s => bif isR T s [91] then ofRL T n (d + 1) (goS s) else .inl (d, s)
def ofRE (T : List Tok) (d : Int) (s : St) : (Bs × Int) × St :=
 bif isR T s [105, 110, 116] || isR T s [98, 111, 111, 108] then (((tokAt T s.at_).text, d), takeN T [93] d.toNat (goS s))
 else (((nameR T s).1, d), takeN T [93] d.toNat (nameR T s).2)
def ofR (T : List Tok) (s : St) : (Bs × Int) × St := match ofRL T 3 0 s with
 | .inr s' => (([], 0), s')
 | .inl (d, s') => ofRE T d s'
def levL (x : Bs) : List (Bs × Int) → Int
 | [] => 0
 | (y, k) :: r => bif y == x then k else levL x r
def levR (lev : Nat) (t : Tok) : Int := bif t.kind != 4 then 0 else levL t.text (lvls[lev]?.getD [])
mutual
def exprR (T : List Tok) : Nat → Nat → St → R Ex
 | 0, _, _ => none
 | n + 1, lev, s => if lev = 5 then unaryR T n s else (exprR T n (lev + 1) s).bind fun p => exprRL T n lev p.1 p.2
def exprRL (T : List Tok) : Nat → Nat → Ex → St → R Ex
 | 0, _, _, _ => none
 | n + 1, lev, e, s => bif s.fe == 0 && levR lev (tokAt T s.at_) != 0 then
   (exprR T n (lev + 1) (goS s)).bind fun p => exprRL T n lev (.mk { kind := levR lev (tokAt T s.at_), pos := (tokAt T s.at_).pos } [e, p.1]) p.2
   else some (e, s)
def unaryR (T : List Tok) : Nat → St → R Ex
 | 0, _ => none
 | n + 1, s => bif isR T s [45] then signR T n 12 s else bif isR T s [33] then signR T n 13 s else (firstR T n s).bind fun p => behindR T n p.1 p.2
def signR (T : List Tok) : Nat → Int → St → R Ex
 | 0, _, _ => none
 | n + 1, k, s => (exprR T n 5 (opensR T (tokAt T s.at_).text s)).bind fun p => some (.mk { kind := k, pos := (tokAt T s.at_).pos } [p.1], outS p.2)
def behindR (T : List Tok) : Nat → Ex → St → R Ex
 | 0, _, _ => none
 | n + 1, e, s => bif isR T s [46] then behindR T n (.mk { kind := 5, name := (nameR T (goS s)).1, pos := (tokAt T s.at_).pos } [e]) (nameR T (goS s)).2
   else bif isR T s [91] then (exprR T n 0 (opensR T [91] s)).bind fun p => behindR T n (.mk { kind := 6, pos := (tokAt T s.at_).pos } [e, p.1]) (closesR T [93] p.2)
   else some (e, s)
def innerR (T : List Tok) : Nat → St → R Ex
 | 0, _ => none
 | n + 1, s => (exprR T n 0 (opensR T [40] s)).bind fun p => some (p.1, closesR T [41] p.2)
def firstR (T : List Tok) : Nat → St → R Ex
 | 0, _ => none
 | n + 1, s => bif s.fe == 0 && (tokAt T s.at_).kind == 2 then some (.mk { kind := 1, n := (tokAt T s.at_).n, pos := (tokAt T s.at_).pos } [], goS s)
   else bif isR T s [116, 114, 117, 101] || isR T s [102, 97, 108, 115, 101] then some (.mk { kind := 2, n := bif (tokAt T s.at_).text == [116, 114, 117, 101] then 1 else 0, pos := (tokAt T s.at_).pos } [], goS s)
   else bif isR T s [110, 117, 108, 108] then some (.mk { kind := 3, ofn := (ofR T (goS s)).1.1, ofd := (ofR T (goS s)).1.2, pos := (tokAt T s.at_).pos } [], (ofR T (goS s)).2)
   else bif isR T s [110, 101, 119] then freshR T n (tokAt T s.at_).pos (goS s)
   else bif isR T s [108, 101, 110] then (innerR T n (goS s)).bind fun p => some (.mk { kind := 10, pos := (tokAt T s.at_).pos } [p.1], p.2)
   else bif isR T s [114, 101, 97, 100] then some (.mk { kind := 11, pos := (tokAt T s.at_).pos } [], closesR T [41] (opensR T [40] (goS s)))
   else bif isR T s [40] then innerR T n s
   else bif isR T (nameR T s).2 [40] then (argsR T n (nameR T s).2).bind fun p => some (.mk { kind := 7, name := (nameR T s).1, pos := (tokAt T s.at_).pos } p.1, p.2)
   else some (.mk { kind := 4, name := (nameR T s).1, pos := (tokAt T s.at_).pos } [], (nameR T s).2)
def freshR (T : List Tok) : Nat → Int → St → R Ex
 | 0, _, _ => none
 | n + 1, pos, s => bif isR T s [91] then
   (innerR T n (takeR T [93] (ofR T (goS s)).2)).bind fun p => some (.mk { kind := 9, ofn := (ofR T (goS s)).1.1, ofd := (ofR T (goS s)).1.2, pos := pos } [p.1], p.2)
   else some (.mk { kind := 8, ofn := (nameR T s).1, pos := pos } [], (nameR T s).2)
def argsR (T : List Tok) : Nat → St → R (List Ex)
 | 0, _ => none
 | n + 1, s => bif isR T (opensR T [40] s) [41] then some ([], closesR T [41] (opensR T [40] s))
   else (exprR T n 0 (opensR T [40] s)).bind fun p => argsRL T n [p.1] p.2
def argsRL (T : List Tok) : Nat → List Ex → St → R (List Ex)
 | 0, _, _ => none
 | n + 1, l, s => bif isR T s [44] then (exprR T n 0 (goS s)).bind fun p => argsRL T n (l ++ [p.1]) p.2 else some (l, closesR T [41] s)
end
end Go.Proofs.Ytnjoomfeddamcaa

namespace Go.Proofs.Ytnjoomfeddamcaa
open Go.Ev
def left (T : List Tok) (s : St) : Nat := if s.fe = 0 ∧ 0 ≤ s.at_ ∧ s.at_ < T.length then T.length - s.at_.toNat else 0
def Same {α : Type} (p q : α × St) : Prop := (p.2.fe = 0 ∧ q = p) ∨ (p.2.fe ≠ 0 ∧ q.2.fe = p.2.fe ∧ q.2.fa = p.2.fa)
theorem isB_failed {T : List Tok} {s : St} (h : s.fe ≠ 0) (k : Int) (x : Bs) : isB T s k x = false := by simp [isB, h]
theorem isR_failed {T : List Tok} {s : St} (h : s.fe ≠ 0) (x : Bs) : isR T s x = false := isB_failed h _ _
theorem failS_failed {T : List Tok} {s : St} (h : s.fe ≠ 0) (e : Int) : failS T e s = s := by simp [failS, h]
theorem kindL_failed {T : List Tok} {s : St} (h : s.fe ≠ 0) : ∀ l, kindL T s l = 0
 | [] => rfl
 | (x, k) :: r => by simp [kindL, isB_failed h, kindL_failed h r]
theorem kindS_failed {T : List Tok} {s : St} (h : s.fe ≠ 0) (lev : Nat) : kindS T lev s = 0 := kindL_failed h _
theorem chainF_failed {T : List Tok} {s : St} (h : s.fe ≠ 0) (n : Nat) (hn : 2 ≤ n) : chainF T n s = some (.zero, s) := by
 obtain ⟨n, rfl⟩ : ∃ m, n = m + 2 := ⟨n - 2, by omega⟩
 have hb : (s.fe == 0) = false := by simpa using h
 simp [chainF, firstF, h, chainL, hb]
theorem unaryF_failed {T : List Tok} {s : St} (h : s.fe ≠ 0) (n : Nat) (hn : 3 ≤ n) : unaryF T n s = some (.zero, s) := by
 obtain ⟨n, rfl⟩ : ∃ m, n = m + 1 := ⟨n - 1, by omega⟩
 simp [unaryF, isB_failed h, chainF_failed h n (by omega)]
theorem rowL_failed {T : List Tok} {s : St} (h : s.fe ≠ 0) (n : Nat) (hn : 1 ≤ n) (lev : Nat) (e : Ex) : rowL T n lev e s = some (e, s) := by
 obtain ⟨n, rfl⟩ : ∃ m, n = m + 1 := ⟨n - 1, by omega⟩
 simp [rowL, kindS_failed h]
theorem rowF_failed {T : List Tok} {s : St} (h : s.fe ≠ 0) : ∀ (n lev : Nat), lev ≤ 5 → 9 ≤ n + lev → rowF T n lev s = some (.zero, s)
 | 0, lev, h5, hn => by omega
 | n + 1, lev, h5, hn => by
  by_cases hl : lev = 5
  ·simp [rowF, hl, unaryF_failed h n (by omega)]
  ·simp [rowF, hl, rowF_failed h n (lev + 1) (by omega) (by omega), rowL_failed h n (by omega)]
theorem isB_kind {T : List Tok} {s : St} {k : Int} {x : Bs} (h : isB T s k x = true) : s.fe = 0 ∧ (tokAt T s.at_).kind = k ∧ (tokAt T s.at_).text = x := by
 simpa [isB] using h
def deadE (T : List Tok) (s : St) : Ex := .mk { kind := 4, pos := (tokAt T s.at_).pos } []
theorem nameR_failed {T : List Tok} {s : St} (h : s.fe ≠ 0) : nameR T s = ([], s) := by
 have hb : (s.fe == 0) = false := by simpa using h
 simp [nameR, hb, failS_failed h]
theorem firstR_failed {T : List Tok} {s : St} (h : s.fe ≠ 0) (n : Nat) (hn : 1 ≤ n) : firstR T n s = some (deadE T s, s) := by
 obtain ⟨n, rfl⟩ : ∃ m, n = m + 1 := ⟨n - 1, by omega⟩
 have hb : (s.fe == 0) = false := by simpa using h
 simp [firstR, hb, isR_failed h, nameR_failed h, deadE]
theorem behindR_failed {T : List Tok} {s : St} (h : s.fe ≠ 0) (n : Nat) (hn : 1 ≤ n) (e : Ex) : behindR T n e s = some (e, s) := by
 obtain ⟨n, rfl⟩ : ∃ m, n = m + 1 := ⟨n - 1, by omega⟩
 simp [behindR, isR_failed h]
theorem unaryR_failed {T : List Tok} {s : St} (h : s.fe ≠ 0) (n : Nat) (hn : 2 ≤ n) : unaryR T n s = some (deadE T s, s) := by
 obtain ⟨n, rfl⟩ : ∃ m, n = m + 1 := ⟨n - 1, by omega⟩
 simp [unaryR, isR_failed h, firstR_failed h n (by omega), behindR_failed h n (by omega)]
theorem exprRL_failed {T : List Tok} {s : St} (h : s.fe ≠ 0) (n : Nat) (hn : 1 ≤ n) (lev : Nat) (e : Ex) : exprRL T n lev e s = some (e, s) := by
 obtain ⟨n, rfl⟩ : ∃ m, n = m + 1 := ⟨n - 1, by omega⟩
 have hb : (s.fe == 0) = false := by simpa using h
 simp [exprRL, hb]
theorem exprR_failed {T : List Tok} {s : St} (h : s.fe ≠ 0) : ∀ (n lev : Nat), lev ≤ 5 → 9 ≤ n + lev → exprR T n lev s = some (deadE T s, s)
 | 0, lev, h5, hn => by omega
 | n + 1, lev, h5, hn => by
  by_cases hl : lev = 5
  ·simp [exprR, hl, unaryR_failed h n (by omega)]
  ·simp [exprR, hl, exprR_failed h n (lev + 1) (by omega) (by omega), exprRL_failed h n (by omega)]
theorem levL_zero {x : Bs} : ∀ l : List (Bs × Int), (∀ p ∈ l, p.2 ≠ 0) → ∀ T s, s.fe = 0 → (tokAt T s.at_).kind = 4 → kindL T s l = levL (tokAt T s.at_).text l
 | [], _, _, _, _, _ => rfl
 | (y, k) :: r, h, T, s, hf, hk => by
  have ih := levL_zero (x := x) r (fun p hp => h p (by simp [hp])) T s hf hk
  have hc : isB T s 4 y = (y == (tokAt T s.at_).text) := by
   simp only [isB, hf, hk, beq_self_eq_true, Bool.true_and]
   exact BEq.comm
  simp [kindL, levL, ih, hc]
theorem kindL_other {T : List Tok} {s : St} (hk : (tokAt T s.at_).kind ≠ 4) : ∀ l, kindL T s l = 0
 | [] => rfl
 | (y, k) :: r => by
  have hc : isB T s 4 y = false := by simp [isB, hk]
  simp [kindL, hc, kindL_other hk r]
theorem kindS_levR {T : List Tok} {s : St} (hf : s.fe = 0) {lev : Nat} (hl : lev < 5) : kindS T lev s = levR lev (tokAt T s.at_) := by
 by_cases hk : (tokAt T s.at_).kind = 4
 ·have : ((tokAt T s.at_).kind != 4) = false := by simp [hk]
  simp only [kindS, levR, this, cond_false]
  refine levL_zero (x := []) _ ?_ T s hf hk
  have : lev = 0 ∨ lev = 1 ∨ lev = 2 ∨ lev = 3 ∨ lev = 4 := by omega
  rcases this with rfl | rfl | rfl | rfl | rfl <;> simp [lvls]
 ·have : ((tokAt T s.at_).kind != 4) = true := by simp [hk]
  simp [kindS, levR, this, kindL_other hk]
end Go.Proofs.Ytnjoomfeddamcaa

namespace Go.Proofs.Ytnjoomfeddamcaa
open Go.Ev
def SameS (s s' : St) : Prop := (s.fe = 0 ∧ s' = s) ∨ (s.fe ≠ 0 ∧ s'.fe = s.fe ∧ s'.fa = s.fa)
theorem SameS.refl (s : St) : SameS s s := by
 by_cases h : s.fe = 0
 ·exact .inl ⟨h, rfl⟩
 ·exact .inr ⟨h, rfl, rfl⟩
theorem SameS.out {s s' : St} (h : SameS s s') : SameS (outS s) (outS s') := by
 rcases h with ⟨h, rfl⟩ | ⟨h, h1, h2⟩
 ·exact .inl ⟨h, rfl⟩
 ·exact .inr ⟨h, h1, h2⟩
theorem failS_fe {T : List Tok} {s : St} (h : s.fe = 0) (e : Int) : (failS T e s).fe = e ∧ (failS T e s).fa = (tokAt T s.at_).pos := by simp [failS, h]
theorem wants_same {T : List Tok} {s s' : St} (h : SameS s s') {x : Bs} (hx : kw x = 4) : SameS (wantsS T x s).2 (takeR T x s') := by
 rcases h with ⟨h, rfl⟩ | ⟨h, h1, h2⟩
 ·cases hb : isB T s' 4 x with
  | true => simp only [wantsS, takeR, isR, hx, hb, cond_true]; exact .refl _
  | false => simp only [wantsS, takeR, isR, hx, hb, cond_false]; exact .refl _
 ·have h' : s'.fe ≠ 0 := by rw [h1]; exact h
  simp only [wantsS, takeR, isB_failed h, isR_failed h', cond_false, failS_failed h, failS_failed h']
  exact .inr ⟨h, h1, h2⟩
theorem closes_same {T : List Tok} {s s' : St} (h : SameS s s') {x : Bs} (hx : kw x = 4) : SameS (closesS T x s).2 (closesR T x s') := by
 have h1 := wants_same (T := T) h.out hx
 have h2 : SameS (takeR T x (outS s')) (closesR T x s') := by
  by_cases hf : s'.fe = 0
  ·have hb : isR T (outS s') x = isR T s' x := rfl
   cases hi : isR T s' x with
   | true => simp only [closesR, takeR, hb, hi, cond_true]; exact .inl ⟨hf, rfl⟩
   | false =>
    simp only [closesR, takeR, hb, hi, cond_false]
    have ho : (outS s').fe = 0 := hf
    refine .inr ⟨by rw [(failS_fe ho 2).1]; decide, ?_, ?_⟩
    ·rw [(failS_fe ho 2).1]; exact (failS_fe hf 2).1
    ·rw [(failS_fe ho 2).2]; exact (failS_fe hf 2).2
  ·have ho : (outS s').fe ≠ 0 := hf
   simp only [closesR, takeR, isR_failed hf, isR_failed ho, cond_false, failS_failed hf, failS_failed ho]
   exact .refl _
 rcases h1 with ⟨a, b⟩ | ⟨a, b, c⟩
 ·rcases h2 with ⟨d, e⟩ | ⟨d, e, f⟩
  ·exact .inl ⟨a, by rw [e, b]; rfl⟩
  ·exact absurd (by rw [b]; exact a) d
 ·rcases h2 with ⟨d, e⟩ | ⟨d, e, f⟩
  ·exact absurd (b.symm.trans d) a
  ·exact .inr ⟨a, e.trans b, f.trans c⟩
theorem opens_same {T : List Tok} {s : St} (h : s.fe = 0) {x : Bs} (hx : kw x = 4) :
  ((opensS T x s).1 = true ∧ isB T s 4 x = true ∧ (opensS T x s).2 = inS (goS s) ∧ opensR T x s = inS (goS s)) ∨
  ((opensS T x s).1 = false ∧ (opensS T x s).2.fe ≠ 0 ∧ SameS (opensS T x s).2 (opensR T x s)) := by
 cases hb : isB T s 4 x with
 | true =>
  by_cases ho : 50 ≤ s.opn
  ·refine .inr ?_
   simp only [opensS, opensR, isR, hx, hb, cond_true, Bool.true_and, decide_eq_true ho, if_pos ho]
   exact ⟨trivial, by rw [(failS_fe h 4).1]; decide, .refl _⟩
  ·refine .inl ?_
   simp only [opensS, opensR, takeR, isR, hx, hb, cond_true, Bool.true_and, decide_eq_false ho, if_neg ho, cond_false]
   exact ⟨trivial, trivial, rfl, trivial⟩
 | false =>
  refine .inr ?_
  simp only [opensS, opensR, takeR, isR, hx, hb, cond_false, Bool.false_and]
  exact ⟨trivial, by rw [(failS_fe h 2).1]; decide, .inr ⟨by rw [(failS_fe h 2).1]; decide, rfl, rfl⟩⟩
end Go.Proofs.Ytnjoomfeddamcaa

namespace Go.Proofs.Ytnjoomfeddamcaa
open Go.Ev
theorem Same.of {α : Type} {a b : α} {s s' : St} (h : SameS s s') (hab : s.fe = 0 → b = a) : Same (a, s) (b, s') := by
 rcases h with ⟨h, rfl⟩ | ⟨h, h1, h2⟩
 ·exact .inl ⟨h, by rw [hab h]⟩
 ·exact .inr ⟨h, h1, h2⟩
theorem Same.st {α : Type} {p q : α × St} (h : Same p q) : SameS p.2 q.2 := by
 rcases h with ⟨h, rfl⟩ | ⟨h, h1, h2⟩
 ·exact .inl ⟨h, rfl⟩
 ·exact .inr ⟨h, h1, h2⟩
theorem wantN_same {T : List Tok} {x : Bs} (hx : kw x = 4) : ∀ (n : Nat) {s s' : St}, SameS s s' → SameS (wantN T x n s) (takeN T x n s')
 | 0, _, _, h => h
 | n + 1, _, _, h => wantN_same hx n (wants_same h hx)
theorem takeN_failed {T : List Tok} {x : Bs} : ∀ (n : Nat) {s : St}, s.fe ≠ 0 → takeN T x n s = s
 | 0, _, _ => rfl
 | n + 1, s, h => by simp [takeN, takeR, isR_failed h, failS_failed h, takeN_failed n h]
theorem wantN_failed {T : List Tok} {x : Bs} : ∀ (n : Nat) {s : St}, s.fe ≠ 0 → wantN T x n s = s
 | 0, _, _ => rfl
 | n + 1, s, h => by simp [wantN, wantsS, isB_failed h, failS_failed h, wantN_failed n h]
theorem ofL_same {T : List Tok} : ∀ (n : Nat) (d : Int) (s : St), ofRL T n d s = ofL T n d s
 | 0, d, s => rfl
 | n + 1, d, s => by
  have : isR T s [91] = isB T s 4 [91] := rfl
  simp [ofRL, ofL, this, ofL_same n]
theorem ofE_same {T : List Tok} (d : Int) (s : St) : Same (ofE T d s) (ofRE T d s) := by
 have e1 : isR T s [105, 110, 116] = isB T s 3 [105, 110, 116] := rfl
 have e2 : isR T s [98, 111, 111, 108] = isB T s 3 [98, 111, 111, 108] := rfl
 by_cases hf : s.fe = 0
 ·cases h1 : isB T s 3 [105, 110, 116] with
  | true =>
   simp only [ofE, ofRE, e1, e2, h1, Bool.not_true, Bool.false_and, Bool.and_false, cond_false, Bool.true_or, cond_true]
   exact Same.of (wantN_same rfl _ (.refl _)) fun _ => rfl
  | false =>
   cases h2 : isB T s 3 [98, 111, 111, 108] with
   | true =>
    simp only [ofE, ofRE, e1, e2, h1, h2, Bool.not_true, Bool.and_false, cond_false, Bool.false_or, cond_true]
    exact Same.of (wantN_same rfl _ (.refl _)) fun _ => rfl
   | false =>
    by_cases hk : (tokAt T s.at_).kind = 1
    ·simp only [ofE, ofRE, e1, e2, h1, h2, nameR, hf, hk, Bool.not_false, Bool.and_self, Bool.and_true, bne_self_eq_false, cond_false, Bool.or_self, beq_self_eq_true, cond_true]
     exact Same.of (wantN_same rfl _ (.refl _)) fun _ => rfl
    ·have hb : ((tokAt T s.at_).kind == 1) = false := by simpa using hk
     have hb' : ((tokAt T s.at_).kind != 1) = true := by simpa using hk
     have hf2 : (failS T 2 s).fe ≠ 0 := by rw [(failS_fe hf 2).1]; decide
     simp only [ofE, ofRE, e1, e2, h1, h2, nameR, hf, hb, hb', Bool.not_false, Bool.and_self, Bool.and_false, cond_true, Bool.or_self, cond_false, takeN_failed _ hf2]
     exact Same.of (.refl _) fun h => absurd h hf2
 ·have hb : (s.fe == 0) = false := by simpa using hf
  have hg : (goS s).fe ≠ 0 := hf
  simp only [ofE, ofRE, e1, e2, isB_failed hf, nameR, hb, Bool.false_and, Bool.or_self, cond_false, failS_failed hf, takeN_failed _ hf, wantN_failed _ hg, Bool.not_false, Bool.and_self, Bool.and_true]
  cases (tokAt T s.at_).kind != 1 with
  | true => exact .inr ⟨hf, rfl, rfl⟩
  | false => exact .inr ⟨hf, rfl, rfl⟩
theorem of_same (T : List Tok) (s : St) : Same (ofS T s) (ofR T s) := by
 simp only [ofS, ofR, ofL_same]
 cases ofL T 3 0 s with
 | inr s' => exact Same.of (.refl _) fun _ => rfl
 | inl p => exact ofE_same p.1 p.2
end Go.Proofs.Ytnjoomfeddamcaa

namespace Go.Proofs.Ytnjoomfeddamcaa
open Go.Ev
theorem left_failed {T : List Tok} {s : St} (h : s.fe ≠ 0) : left T s = 0 := by simp [left, h]
theorem left_in {T : List Tok} (s : St) : left T (inS s) = left T s := rfl
theorem left_out {T : List Tok} (s : St) : left T (outS s) = left T s := rfl
theorem left_fail {T : List Tok} (s : St) (e : Int) : left T (failS T e s) ≤ left T s := by
 by_cases h : s.fe = 0
 ·unfold left
  simp only [failS, h, if_true, true_and]
  split
  ·rename_i hh
   rw [if_pos hh.2]
   omega
  ·omega
 ·rw [failS_failed h]; omega
theorem tok_range {T : List Tok} {a : Int} (h : (tokAt T a).kind ≠ 0) : 0 ≤ a ∧ a < T.length := by
 unfold tokAt at h
 split at h
 ·exact absurd rfl h
 ·omega
theorem left_go {T : List Tok} (hT : T.length ≤ 40000000) {s : St} (hf : s.fe = 0) (hk : (tokAt T s.at_).kind ≠ 0) : left T (goS s) + 1 ≤ left T s := by
 obtain ⟨h0, h1⟩ := tok_range hk
 have hw : w64 (s.at_ + 1) = s.at_ + 1 := wrap_i64 (by omega) (by omega)
 have e1 : left T s = T.length - s.at_.toNat := by
  unfold left; rw [if_pos ⟨hf, h0, h1⟩]
 have e2 : left T (goS s) ≤ T.length - (s.at_ + 1).toNat := by
  unfold left
  simp only [goS, hw]
  split <;> omega
 omega
theorem left_is {T : List Tok} (hT : T.length ≤ 40000000) {s : St} {k : Int} {x : Bs} (hk0 : k ≠ 0) (h : isB T s k x = true) : left T (goS s) + 1 ≤ left T s := by
 obtain ⟨h1, h2, _⟩ := isB_kind h
 exact left_go hT h1 (by rw [h2]; exact hk0)
theorem left_wants {T : List Tok} (hT : T.length ≤ 40000000) (s : St) (x : Bs) : left T (wantsS T x s).2 ≤ left T s := by
 cases h : isB T s 4 x with
 | true => simp only [wantsS, h, cond_true]; have := left_is hT (by decide) h; omega
 | false => simp only [wantsS, h, cond_false]; exact left_fail s 2
theorem left_closes {T : List Tok} (hT : T.length ≤ 40000000) (s : St) (x : Bs) : left T (closesS T x s).2 ≤ left T s := left_wants hT (outS s) x
theorem left_wantN {T : List Tok} (hT : T.length ≤ 40000000) (x : Bs) : ∀ (n : Nat) (s : St), left T (wantN T x n s) ≤ left T s
 | 0, s => Nat.le_refl _
 | n + 1, s => Nat.le_trans (left_wantN hT x n _) (left_wants hT s x)
theorem left_ofL {T : List Tok} (hT : T.length ≤ 40000000) : ∀ (n : Nat) (d : Int) (s : St), (∀ d' s', ofL T n d s = .inl (d', s') → left T s' ≤ left T s) ∧ (∀ s', ofL T n d s = .inr s' → left T s' ≤ left T s)
 | 0, d, s => by
  cases h : isB T s 4 [91] with
  | true => simp only [ofL, h, cond_true]; exact ⟨by simp, by rintro _ ⟨⟩; exact left_fail s 4⟩
  | false => simp only [ofL, h, cond_false]; exact ⟨by rintro _ _ ⟨⟩; exact Nat.le_refl _, by simp⟩
 | n + 1, d, s => by
  cases h : isB T s 4 [91] with
  | true =>
   simp only [ofL, h, cond_true]
   obtain ⟨i1, i2⟩ := left_ofL hT n (d + 1) (goS s)
   have hg := left_is hT (by decide) h
   exact ⟨fun d' s' h' => by have := i1 d' s' h'; omega, fun s' h' => by have := i2 s' h'; omega⟩
  | false => simp only [ofL, h, cond_false]; exact ⟨by rintro _ _ ⟨⟩; exact Nat.le_refl _, by simp⟩
theorem left_ofE {T : List Tok} (hT : T.length ≤ 40000000) (d : Int) (s : St) : left T (ofE T d s).2 ≤ left T s := by
 by_cases hf : s.fe = 0
 ·cases hc : ((tokAt T s.at_).kind != 1 && (!isB T s 3 [105, 110, 116] && !isB T s 3 [98, 111, 111, 108])) with
  | true => simp only [ofE, hc, cond_true]; exact left_fail s 2
  | false =>
   simp only [ofE, hc, cond_false]
   have hk : (tokAt T s.at_).kind ≠ 0 := by
    intro hk
    have h1 : ∀ x, isB T s 3 x = false := fun x => by simp [isB, hk]
    simp [hk, h1] at hc
   have := left_wantN hT [93] d.toNat (goS s)
   have := left_go hT hf hk
   omega
 ·have hg : (goS s).fe ≠ 0 := hf
  simp only [ofE]
  cases ((tokAt T s.at_).kind != 1 && (!isB T s 3 [105, 110, 116] && !isB T s 3 [98, 111, 111, 108])) with
  | true => exact left_fail s 2
  | false => simp only [cond_false, wantN_failed _ hg, left_failed hg]; omega
theorem left_of {T : List Tok} (hT : T.length ≤ 40000000) (s : St) : left T (ofS T s).2 ≤ left T s := by
 obtain ⟨i1, i2⟩ := left_ofL hT 3 0 s
 simp only [ofS]
 cases h : ofL T 3 0 s with
 | inr s' => exact i2 s' h
 | inl p =>
  have := i1 p.1 p.2 h
  have := left_ofE hT p.1 p.2
  exact Nat.le_trans (left_ofE hT p.1 p.2) (i1 p.1 p.2 h)
def Both {α : Type} (T : List Tok) (s : St) (a b : Option (α × St)) : Prop := ∃ p q, a = some p ∧ b = some q ∧ Same p q ∧ left T p.2 ≤ left T s
def RowB (T : List Tok) (k : Nat) : Prop := ∀ (s : St), left T s ≤ k → ∀ (lev n n' : Nat), lev ≤ 5 → 30 * k + 20 ≤ n + lev → 30 * k + 20 ≤ n' + lev → Both T s (rowF T n lev s) (exprR T n' lev s)
theorem row_failed {T : List Tok} {s : St} (h : s.fe ≠ 0) (lev n n' : Nat) (hl : lev ≤ 5) (hn : 9 ≤ n + lev) (hn' : 9 ≤ n' + lev) : Both T s (rowF T n lev s) (exprR T n' lev s) :=
 ⟨_, _, rowF_failed h n lev hl hn, exprR_failed h n' lev hl hn', .inr ⟨h, rfl, rfl⟩, Nat.le_refl _⟩
end Go.Proofs.Ytnjoomfeddamcaa

namespace Go.Proofs.Ytnjoomfeddamcaa
open Go.Ev
theorem row_open {T : List Tok} (hT : T.length ≤ 40000000) {k : Nat} (ih : ∀ j, j < k → RowB T j) {s : St} (hf : s.fe = 0) (hs : left T s ≤ k) {x : Bs} (hx : kw x = 4) (lev n n' : Nat) (hl : lev ≤ 5) (hn : 30 * k + 9 ≤ n) (hn' : 30 * k + 9 ≤ n') :
  ((opensS T x s).1 = true ∧ left T (opensS T x s).2 + 1 ≤ left T s ∧ Both T (opensS T x s).2 (rowF T n lev (opensS T x s).2) (exprR T n' lev (opensR T x s))) ∨
  ((opensS T x s).1 = false ∧ (opensS T x s).2.fe ≠ 0 ∧ (opensR T x s).fe = (opensS T x s).2.fe ∧ (opensR T x s).fa = (opensS T x s).2.fa ∧ exprR T n' lev (opensR T x s) = some (deadE T (opensR T x s), opensR T x s)) := by
 rcases opens_same (T := T) hf hx with ⟨h1, h2, h3, h4⟩ | ⟨h1, h2, h3⟩
 ·refine .inl ⟨h1, ?_, ?_⟩
  ·rw [h3, left_in]; exact left_is hT (by decide) h2
  ·have hg := left_is hT (by decide) h2
   rw [h3, h4]
   exact ih (k - 1) (by omega) _ (by rw [left_in]; omega) lev n n' hl (by omega) (by omega)
 ·rcases h3 with ⟨h3, _⟩ | ⟨_, h4, h5⟩
  ·exact absurd h3 h2
  ·exact .inr ⟨h1, h2, h4, h5, exprR_failed (by rw [h4]; exact h2) n' lev hl (by omega)⟩
theorem single_both {T : List Tok} (hT : T.length ≤ 40000000) {k : Nat} (ih : ∀ j, j < k → RowB T j) {s : St} (hf : s.fe = 0) (hs : left T s ≤ k) (n n' : Nat) (hn : 30 * k + 9 ≤ n) (hn' : 30 * k + 9 ≤ n') : Both T s (singleF T (n + 1) [40] [41] s) (innerR T (n' + 1) s) := by
 rcases row_open hT ih hf hs (x := [40]) rfl 0 n n' (by omega) hn hn' with ⟨h1, h2, p, q, h3, h4, h5, h6⟩ | ⟨h1, h2, h3, h4, h5⟩
 ·refine ⟨(p.1, (closesS T [41] p.2).2), (q.1, closesR T [41] q.2), ?_, ?_, ?_, ?_⟩
  ·simp [singleF, h1, h3]
  ·simp [innerR, h4]
  ·rcases h5 with ⟨h, rfl⟩ | ⟨h, ha, hb⟩
   ·exact Same.of (closes_same (.inl ⟨h, rfl⟩) rfl) fun _ => rfl
   ·refine Same.of (closes_same (.inr ⟨h, ha, hb⟩) rfl) fun hc => absurd hc ?_
    have : (outS p.2).fe ≠ 0 := h
    simp only [closesS, wantsS, isB_failed this, cond_false, failS_failed this]
    exact h
  ·have := left_closes hT p.2 [41]
   simp only
   omega
 ·refine ⟨(.zero, (opensS T [40] s).2), _, by simp [singleF, h1], by simp only [innerR, h5]; rfl, ?_, ?_⟩
  ·have hR : (opensR T [40] s).fe ≠ 0 := by rw [h3]; exact h2
   have hc := closes_same (T := T) (x := [41]) (SameS.refl (opensR T [40] s)) rfl
   refine .inr ⟨h2, ?_, ?_⟩ <;> simp [closesR, takeR, isR_failed hR, failS_failed hR, outS, h3, h4]
  ·simp only [left_failed h2]; omega
end Go.Proofs.Ytnjoomfeddamcaa

namespace Go.Proofs.Ytnjoomfeddamcaa
open Go.Ev
theorem Both.le {α : Type} {T : List Tok} {s s0 : St} {a b : Option (α × St)} (h : Both T s a b) (hl : left T s ≤ left T s0) : Both T s0 a b := by
 obtain ⟨p, q, h1, h2, h3, h4⟩ := h
 exact ⟨p, q, h1, h2, h3, Nat.le_trans h4 hl⟩
theorem closes_failed {T : List Tok} {s : St} (h : s.fe ≠ 0) (x : Bs) : (closesS T x s).2.fe ≠ 0 := by
 have ho : (outS s).fe ≠ 0 := h
 simp only [closesS, wantsS, isB_failed ho, cond_false, failS_failed ho]
 exact h
theorem list_both {T : List Tok} (hT : T.length ≤ 40000000) {k : Nat} (ih : ∀ j, j < k → RowB T j) : ∀ (c n n' : Nat) (s s' : St) (l l' : List Ex), left T s ≤ c → c ≤ k → 30 * c + 10 ≤ n → 30 * c + 10 ≤ n' → SameS s s' → (s.fe = 0 → l' = l) → Both T s (listL T n l s) (argsRL T n' l' s')
 | c, 0, n', s, s', l, l', h1, h2, h3, h3', h4, h5 => by omega
 | c, n + 1, 0, s, s', l, l', h1, h2, h3, h3', h4, h5 => by omega
 | c, n + 1, n' + 1, s, s', l, l', h1, h2, h3, h3', h4, h5 => by
  by_cases hf : s.fe = 0
  ·obtain ⟨_, rfl⟩ : s.fe = 0 ∧ s' = s := h4.resolve_right (by rintro ⟨h, _⟩; exact h hf)
   cases h5 hf
   have e1 : isR T s' [44] = isB T s' 4 [44] := rfl
   cases hb : isB T s' 4 [44] with
   | true =>
    have hg := left_is hT (by decide) hb
    obtain ⟨p, q, g1, g2, g3, g4⟩ := ih (c - 1) (by omega) (goS s') (by omega) 0 n n' (by omega) (by omega) (by omega)
    have := list_both hT ih (c - 1) n n' p.2 q.2 (l ++ [p.1]) (l ++ [q.1]) (by omega) (by omega) (by omega) (by omega) g3.st (fun hp => by
     rcases g3 with ⟨_, rfl⟩ | ⟨h, _⟩
     ·rfl
     ·exact absurd hp h)
    have := this.le (s0 := s') (by omega)
    simpa [listL, takesS, hb, argsRL, e1, g1, g2] using this
   | false =>
    refine ⟨(l, (closesS T [41] s').2), (l, closesR T [41] s'), by simp [listL, takesS, hb], by simp [argsRL, e1, hb], Same.of (closes_same (.refl _) rfl) fun _ => rfl, left_closes hT s' [41]⟩
  ·have hf' : s'.fe ≠ 0 := by
    rcases h4 with ⟨h, _⟩ | ⟨_, h, _⟩
    ·exact absurd h hf
    ·rw [h]; exact hf
   refine ⟨(l, (closesS T [41] s).2), (l', closesR T [41] s'), by simp [listL, takesS, isB_failed hf], by simp [argsRL, isR_failed hf'], Same.of (closes_same h4 rfl) fun h => absurd h (closes_failed hf _), left_closes hT s [41]⟩
end Go.Proofs.Ytnjoomfeddamcaa

namespace Go.Proofs.Ytnjoomfeddamcaa
open Go.Ev
theorem args_both {T : List Tok} (hT : T.length ≤ 40000000) {k : Nat} (ih : ∀ j, j < k → RowB T j) {s : St} (hf : s.fe = 0) (hs : left T s ≤ k) (n n' : Nat) (hn : 30 * k + 10 ≤ n) (hn' : 30 * k + 10 ≤ n') : Both T s (listF T (n + 1) s) (argsR T (n' + 1) s) := by
 rcases opens_same (T := T) hf (x := [40]) rfl with ⟨h1, h2, h3, h4⟩ | ⟨h1, h2, h3⟩
 ·have hg := left_is hT (by decide) h2
  have hl : left T (inS (goS s)) = left T (goS s) := rfl
  have hfo : (inS (goS s)).fe = 0 := hf
  have e1 : isR T (inS (goS s)) [41] = isB T (inS (goS s)) 4 [41] := rfl
  cases hb : isB T (inS (goS s)) 4 [41] with
  | true =>
   refine ⟨([], (closesS T [41] (inS (goS s))).2), ([], closesR T [41] (inS (goS s))), by simp [listF, h1, h3, hb], by simp [argsR, h4, e1, hb], Same.of (closes_same (.refl _) rfl) fun _ => rfl, ?_⟩
   have := left_closes hT (inS (goS s)) [41]
   simp only
   omega
  | false =>
   obtain ⟨p, q, g1, g2, g3, g4⟩ := ih (k - 1) (by omega) (inS (goS s)) (by omega) 0 n n' (by omega) (by omega) (by omega)
   have := list_both hT ih k n n' p.2 q.2 [p.1] [q.1] (by omega) (by omega) (by omega) (by omega) g3.st (fun hp => by
    rcases g3 with ⟨_, rfl⟩ | ⟨h, _⟩
    ·rfl
    ·exact absurd hp h)
   have := this.le (s0 := s) (by omega)
   simpa [listF, h1, h3, hb, argsR, h4, e1, g1, g2] using this
 ·have h3' := h3.resolve_left (by rintro ⟨h, _⟩; exact h2 h)
  have hR : (opensR T [40] s).fe ≠ 0 := by rw [h3'.2.1]; exact h2
  have hx := exprR_failed (T := T) hR n' 0 (by omega) (by omega)
  have hL : ∀ l, argsRL T n' l (opensR T [40] s) = some (l, closesR T [41] (opensR T [40] s)) := fun l => by
   obtain ⟨n', rfl⟩ : ∃ m, n' = m + 1 := ⟨n' - 1, by omega⟩
   simp [argsRL, isR_failed hR]
  refine ⟨([], (opensS T [40] s).2), _, by simp [listF, h1], by simp only [argsR, isR_failed hR, cond_false, hx, Option.bind_some, hL]; rfl, ?_, ?_⟩
  ·refine .inr ⟨h2, ?_, ?_⟩ <;> simp [closesR, takeR, isR_failed hR, failS_failed hR, outS, h3'.2.1, h3'.2.2]
  ·simp only [left_failed h2]; omega
end Go.Proofs.Ytnjoomfeddamcaa

namespace Go.Proofs.Ytnjoomfeddamcaa
open Go.Ev
theorem rowL_both {T : List Tok} (hT : T.length ≤ 40000000) {k : Nat} (ih : ∀ j, j < k → RowB T j) {lev : Nat} (hlev : lev < 5) : ∀ (c n n' : Nat) (s s' : St) (e e' : Ex), left T s ≤ c → c ≤ k → 30 * c + 10 ≤ n → 30 * c + 10 ≤ n' → SameS s s' → (s.fe = 0 → e' = e) → Both T s (rowL T n lev e s) (exprRL T n' lev e' s')
 | c, 0, n', s, s', e, e', h1, h2, h3, h3', h4, h5 => by omega
 | c, n + 1, 0, s, s', e, e', h1, h2, h3, h3', h4, h5 => by omega
 | c, n + 1, n' + 1, s, s', e, e', h1, h2, h3, h3', h4, h5 => by
  by_cases hf : s.fe = 0
  ·obtain ⟨_, rfl⟩ : s.fe = 0 ∧ s' = s := h4.resolve_right (by rintro ⟨h, _⟩; exact h hf)
   cases h5 hf
   have hk := kindS_levR (T := T) hf hlev
   have hb : (s'.fe == 0) = true := by simpa using hf
   by_cases hz : kindS T lev s' = 0
   ·have hz' : (levR lev (tokAt T s'.at_) != 0) = false := by rw [← hk]; simpa using hz
    exact ⟨(e, s'), (e, s'), by simp [rowL, hz], by simp [exprRL, hb, hz'], .inl ⟨hf, rfl⟩, Nat.le_refl _⟩
   ·have hz' : (levR lev (tokAt T s'.at_) != 0) = true := by rw [← hk]; simpa using hz
    have ht : (tokAt T s'.at_).kind ≠ 0 := by
     intro h0
     exact hz (kindL_other (by rw [h0]; decide) _)
    have hg := left_go hT hf ht
    obtain ⟨p, q, g1, g2, g3, g4⟩ := ih (c - 1) (by omega) (goS s') (by omega) (lev + 1) n n' (by omega) (by omega) (by omega)
    have := rowL_both hT ih hlev (c - 1) n n' p.2 q.2 (.mk { kind := kindS T lev s', pos := (tokAt T s'.at_).pos } [e, p.1]) (.mk { kind := levR lev (tokAt T s'.at_), pos := (tokAt T s'.at_).pos } [e, q.1]) (by omega) (by omega) (by omega) (by omega) g3.st (fun hp => by
     rcases g3 with ⟨_, rfl⟩ | ⟨h, _⟩
     ·rw [hk]
     ·exact absurd hp h)
    have := this.le (s0 := s') (by omega)
    simpa [rowL, hz, exprRL, hb, hz', g1, g2] using this
  ·have hf' : s'.fe ≠ 0 := by
    rcases h4 with ⟨h, _⟩ | ⟨_, h, _⟩
    ·exact absurd h hf
    ·rw [h]; exact hf
   exact ⟨(e, s), (e', s'), rowL_failed hf (n + 1) (by omega) lev e, exprRL_failed hf' (n' + 1) (by omega) lev e', Same.of h4 fun h => absurd h hf, Nat.le_refl _⟩
end Go.Proofs.Ytnjoomfeddamcaa

namespace Go.Proofs.Ytnjoomfeddamcaa
open Go.Ev
theorem field_same {T : List Tok} {s : St} (hf : s.fe = 0) (e : Ex) : Same (fieldS T e s) (Ex.mk { kind := 5, name := (nameR T (goS s)).1, pos := (tokAt T s.at_).pos } [e], (nameR T (goS s)).2) := by
 have hg : (goS s).fe = 0 := hf
 by_cases hk : (tokAt T (goS s).at_).kind = 1
 ·refine Or.inl ⟨?_, ?_⟩
  ·have hb : ((tokAt T (goS s).at_).kind != 1) = false := by simp [hk]
   simp only [fieldS, hb, cond_false]; exact hf
  ·simp [fieldS, nameR, hk, hg]
 ·have hb : ((tokAt T (goS s).at_).kind == 1) = false := by simpa using hk
  have hb' : ((tokAt T (goS s).at_).kind != 1) = true := by simpa using hk
  have h2 := failS_fe (T := T) hg 2
  refine Or.inr ⟨?_, ?_, ?_⟩
  ·simp only [fieldS, hb', cond_true]; show (failS T 2 (goS s)).fe ≠ 0; rw [h2.1]; decide
  ·simp only [fieldS, nameR, hb, hb', cond_true, Bool.and_false, cond_false]; rfl
  ·simp only [fieldS, nameR, hb, hb', cond_true, Bool.and_false, cond_false]; rfl
theorem left_field {T : List Tok} (hT : T.length ≤ 40000000) {s : St} (hf : s.fe = 0) (hk : (tokAt T s.at_).kind ≠ 0) (e : Ex) : left T (fieldS T e s).2 + 1 ≤ left T s := by
 have hg := left_go hT hf hk
 have hf' : (goS s).fe = 0 := hf
 by_cases hk' : (tokAt T (goS s).at_).kind = 1
 ·have hb : ((tokAt T (goS s).at_).kind != 1) = false := by simp [hk']
  have := left_go hT hf' (by rw [hk']; decide)
  simp only [fieldS, hb, cond_false]
  omega
 ·have hb : ((tokAt T (goS s).at_).kind != 1) = true := by simpa using hk'
  have h2 : (goS (failS T 2 (goS s))).fe ≠ 0 := by show (failS T 2 (goS s)).fe ≠ 0; rw [(failS_fe hf' 2).1]; decide
  simp only [fieldS, hb, cond_true, left_failed h2]
  omega
theorem chain_both {T : List Tok} (hT : T.length ≤ 40000000) {k : Nat} (ih : ∀ j, j < k → RowB T j) : ∀ (c n n' : Nat) (s s' : St) (e e' : Ex), left T s ≤ c → c ≤ k → 30 * c + 12 ≤ n → 30 * c + 12 ≤ n' → SameS s s' → (s.fe = 0 → e' = e) → Both T s (chainL T n e s) (behindR T n' e' s')
 | c, 0, n', s, s', e, e', h1, h2, h3, h3', h4, h5 => by omega
 | c, n + 1, 0, s, s', e, e', h1, h2, h3, h3', h4, h5 => by omega
 | c, n + 1, n' + 1, s, s', e, e', h1, h2, h3, h3', h4, h5 => by
  by_cases hf : s.fe = 0
  ·obtain ⟨_, rfl⟩ : s.fe = 0 ∧ s' = s := h4.resolve_right (by rintro ⟨h, _⟩; exact h hf)
   cases h5 hf
   have hb : (s'.fe == 0) = true := by simpa using hf
   have e1 : isR T s' [46] = ((tokAt T s'.at_).kind == 4 && (tokAt T s'.at_).text == [46]) := by show isB T s' 4 [46] = _; simp only [isB, hb, Bool.true_and]
   have e2 : isR T s' [91] = ((tokAt T s'.at_).kind == 4 && (tokAt T s'.at_).text == [91]) := by show isB T s' 4 [91] = _; simp only [isB, hb, Bool.true_and]
   cases hk : (tokAt T s'.at_).kind == 4 with
   | false => exact ⟨(e, s'), (e, s'), by simp [chainL, hb, hk], by simp [behindR, e1, e2, hk], .inl ⟨hf, rfl⟩, Nat.le_refl _⟩
   | true =>
    have hk4 : (tokAt T s'.at_).kind = 4 := by simpa using hk
    cases hd : (tokAt T s'.at_).text == [46] with
    | true =>
     have hl := left_field hT hf (by rw [hk4]; decide) e
     have hs := field_same (T := T) hf e
     have := (chain_both hT ih (c - 1) n n' _ _ (fieldS T e s').1 _ (by omega) (by omega) (by omega) (by omega) hs.st (fun hp => by
      rcases hs with ⟨_, h⟩ | ⟨h, _⟩
      ·exact congrArg Prod.fst h
      ·exact absurd hp h)).le (s0 := s') (by omega)
     simpa [chainL, hb, hk, hd, behindR, e1] using this
    | false =>
     cases hq : (tokAt T s'.at_).text == [91] with
     | false => exact ⟨(e, s'), (e, s'), by simp [chainL, hb, hk, hd, hq], by simp [behindR, e1, e2, hk, hd, hq], .inl ⟨hf, rfl⟩, Nat.le_refl _⟩
     | true =>
      obtain ⟨n, rfl⟩ : ∃ m, n = m + 1 := ⟨n - 1, by omega⟩
      have ihc : ∀ j, j < c → RowB T j := fun j hj => ih j (by omega)
      rcases row_open hT ihc hf h1 (x := [91]) rfl 0 n n' (by omega) (by omega) (by omega) with ⟨o1, o2, p, q, o3, o4, o5, o6⟩ | ⟨o1, o2, o3, o4, o5⟩
      ·have hcl := closes_same (T := T) (x := [93]) o5.st rfl
       have hlc := left_closes hT p.2 [93]
       have := (chain_both hT ih (c - 1) (n + 1) n' (closesS T [93] p.2).2 (closesR T [93] q.2) (.mk { kind := 6, pos := (tokAt T s'.at_).pos } [e, p.1]) (.mk { kind := 6, pos := (tokAt T s'.at_).pos } [e, q.1]) (by omega) (by omega) (by omega) (by omega) hcl (fun hp => by
        rcases o5 with ⟨_, rfl⟩ | ⟨h, _⟩
        ·rfl
        ·exact absurd hp (closes_failed h _))).le (s0 := s') (by omega)
       simpa [chainL, hb, hk, hd, hq, singleF, o1, o3, behindR, e1, e2, o4] using this
      ·have hR : (opensR T [91] s').fe ≠ 0 := by rw [o3]; exact o2
       have hb2 : ((opensS T [91] s').2.fe == 0) = false := by simpa using o2
       have hc1 : (closesR T [93] (opensR T [91] s')) = outS (opensR T [91] s') := by simp [closesR, takeR, isR_failed hR, failS_failed hR]
       have hc2 : (outS (opensR T [91] s')).fe ≠ 0 := hR
       refine ⟨(.mk { kind := 6, pos := (tokAt T s'.at_).pos } [e, .zero], (opensS T [91] s').2), (.mk { kind := 6, pos := (tokAt T s'.at_).pos } [e, deadE T (opensR T [91] s')], outS (opensR T [91] s')), ?_, ?_, .inr ⟨o2, o3, o4⟩, ?_⟩
       ·simp [chainL, hb, hk, hd, hq, singleF, o1, hb2]
       ·simp [behindR, e1, e2, hk, hd, hq, o5, hc1, behindR_failed hc2 n' (by omega)]
       ·simp only [left_failed o2]; omega
  ·have hf' : s'.fe ≠ 0 := by
    rcases h4 with ⟨h, _⟩ | ⟨_, h, _⟩
    ·exact absurd h hf
    ·rw [h]; exact hf
   have hb : (s.fe == 0) = false := by simpa using hf
   exact ⟨(e, s), (e', s'), by simp [chainL, hb], behindR_failed hf' (n' + 1) (by omega) e', Same.of h4 fun h => absurd h hf, Nat.le_refl _⟩
end Go.Proofs.Ytnjoomfeddamcaa

