/-
  Texts of one proof, laid together: Ls X1 X2 X3 X4 X5.
-/
import Derived.Test.YtghmbpmaafnodaaGreatDoorME
import Derived.Test.YtghmbpmaafnodaaGreatDoorMF
set_option linter.unusedVariables false
set_option linter.unusedSimpArgs false
namespace Go.Proofs.YtghmbpmaafnodaaGreatDoor
open Go.Ev
set_option linter.defProp false
def nxB := And.intro @AHeap.next_push @AHeap.next_set
def allB := And.intro (And.intro (And.intro (And.intro (And.intro (And.intro (And.intro (And.intro @zz @xk_eq) (And.intro @qp_some (And.intro @qr_some @qv_eq))) (And.intro (And.intro @xalloc_eq (And.intro @xstore_some @xb_some)) (And.intro @anil_ptr (And.intro @xif_bool @xmake_some)))) (And.intro (And.intro (And.intro @xg_tt (And.intro @xg_ff @xg_tf)) (And.intro @xg_ft (And.intro @xg_sk @xboth_some))) (And.intro (And.intro @pickOf_t (And.intro @pickOf_f @aun_not)) (And.intro @K_val_pure (And.intro @K_val_read @K_val_skip))))) (And.intro (And.intro (And.intro (And.intro @K_heap_pure @K_heap_read) (And.intro @K_heap_skip (And.intro @K_val_eff @K_heap_eff))) (And.intro (And.intro @K_val_new (And.intro @K_heap_new @Option.bind_some.{0,0})) (And.intro @cond_true.{1} (And.intro @cond_false.{1} @aextract_tuple)))) (And.intro (And.intro (And.intro @rdIs_int (And.intro @rdIs_str @rdIs_bool)) (And.intro @rdIs_sl (And.intro @rdIs_nilSl @rdIs_of))) (And.intro (And.intro @List.getElem?_cons_zero.{0} (And.intro @List.getElem?_cons_succ.{0} @List.drop_zero.{0})) (And.intro @List.drop_succ_cons.{0} (And.intro @List.take_succ_cons.{0} @List.take_zero.{0})))))) (And.intro (And.intro (And.intro (And.intro (And.intro @List.set_cons_zero.{0} @List.set_cons_succ.{0}) (And.intro @List.cons_append.{0} (And.intro @List.nil_append.{0} @List.length_cons.{0}))) (And.intro (And.intro @List.length_nil.{0} (And.intro @List.all_cons.{0} @List.all_nil.{0})) (And.intro @Bool.and_true (And.intro @Bool.and_self @Nat.zero_add)))) (And.intro (And.intro (And.intro @Nat.add_zero (And.intro @Nat.le_refl @and_self)) (And.intro @and_true (And.intro @true_and @if_true.{1}))) (And.intro (And.intro @Option.some.injEq.{0} (And.intro @one_int @one_str)) (And.intro @one_bool (And.intro @one_sl @one_nilSl))))) (And.intro (And.intro (And.intro (And.intro @one_ptr @one_func) (And.intro @ta3 (And.intro @ta4 @ta5))) (And.intro (And.intro @ta9 (And.intro @ta50 @ta27)) (And.intro @ta29 (And.intro @ta43 @ta96)))) (And.intro (And.intro (And.intro @ta101 (And.intro @ta103 @ta48)) (And.intro @ta35 (And.intro @ta44 @ta98))) (And.intro (And.intro @ta57 (And.intro @ta131 @ta133)) (And.intro @ta163 (And.intro @ta164 @ta199))))))) (And.intro (And.intro (And.intro (And.intro (And.intro (And.intro @ta200 @ta22) (And.intro @ta23 (And.intro @ta24 @ta26))) (And.intro (And.intro @ta41 (And.intro @ta46 @ta66)) (And.intro @ta55 (And.intro @ts29 @ts43)))) (And.intro (And.intro (And.intro @ts101 (And.intro @ts103 @ts98)) (And.intro @ts57 (And.intro @ts133 @ts199))) (And.intro (And.intro @ts26 (And.intro @ts41 @ts46)) (And.intro @ts66 (And.intro @ts55 @ts3))))) (And.intro (And.intro (And.intro (And.intro @ts4 @ts5) (And.intro @ts9 (And.intro @ts50 @ts27))) (And.intro (And.intro @ts96 (And.intro @ts48 @ts35)) (And.intro @ts44 (And.intro @ts131 @ts163)))) (And.intro (And.intro (And.intro @ts164 (And.intro @ts200 @ts22)) (And.intro @ts23 (And.intro @ts24 @fbin_add))) (And.intro (And.intro @fbin_sub (And.intro @fbin_eql @fbin_neq)) (And.intro @fbin_lss (And.intro @fbin_leq @fbin_gtr)))))) (And.intro (And.intro (And.intro (And.intro (And.intro @fbin_geq @fbin_seql) (And.intro @fbin_sneq (And.intro @eq4 @ne4))) (And.intro (And.intro @AHeap.get_push_eq (And.intro @AHeap.get_push_other @AHeap.get_set_same)) (And.intro @AHeap.get_set_other (And.intro @AHeap.next_push @AHeap.next_set)))) (And.intro (And.intro (And.intro @AHeap.push_set_eq (And.intro @AHeap.set_set @bd26_0v0)) (And.intro @bd26_0v1 (And.intro @bd26_1v0 @bd26_1v1))) (And.intro (And.intro @bd26_2v0 (And.intro @bd26_2v1 @bd29_0_1)) (And.intro @bd55_0v0 (And.intro @bd55_0v1 @bd63_0v0))))) (And.intro (And.intro (And.intro (And.intro @bd63_0v1 @bd29_0) (And.intro @bd57_0_3 (And.intro @bd41_0_2 @bd46_0_5))) (And.intro (And.intro @bd57_0 (And.intro @bd41_2 @bd66_2)) (And.intro @bd46_5 (And.intro @bd57_0_1 @bd66_0_1_2)))) (And.intro (And.intro (And.intro @bd112_0_1_2v0 (And.intro @bd112_0_1_2v1 @bd57_0_1_3)) (And.intro @bd57_0_2_3 (And.intro @bd43_1 @bd57_0_2))) (And.intro (And.intro @bd133_0_1v0 (And.intro @bd133_0_1v1 @bd98_6)) (And.intro @bd43_0_1 (And.intro @bd103_0_4_5v0 @bd103_0_4_5v1)))))))) (And.intro (And.intro (And.intro (And.intro (And.intro (And.intro (And.intro @bd98_0_3v0 @bd98_0_3v1) (And.intro @bd98_0_1_3v0 (And.intro @bd98_0_1_3v1 @bd98_0_1_2))) (And.intro (And.intro @bd98_0_1_2_3v0 (And.intro @bd98_0_1_2_3v1 @bd98_0_3_4v0)) (And.intro @bd98_0_3_4v1 (And.intro @bd98_0_3_4v2 @bd98_0_3_4v3)))) (And.intro (And.intro (And.intro @bd98_0 (And.intro @bd103_0_2_4_5v0 @bd103_0_2_4_5v1)) (And.intro @bd103_0_1_5 (And.intro @bd103_0_3_5 @bd103_0_5))) (And.intro (And.intro @bd103_0_2_5 (And.intro @bd133_0_1_2_3v0 @bd133_0_1_2_3v1)) (And.intro @bd133_0_1_2_3v2 (And.intro @bd133_0_1_2_3v3 @bd43_0))))) (And.intro (And.intro (And.intro (And.intro @bd103_0_3_4_5v0 @bd103_0_3_4_5v1) (And.intro @bd199_0_1 (And.intro @fa26_0 @fa26_1))) (And.intro (And.intro @fa26_2 (And.intro @fa29_0 @fa29_1)) (And.intro @fa41_0 (And.intro @fa41_1 @fa41_2)))) (And.intro (And.intro (And.intro @fa43_0 (And.intro @fa43_1 @fa46_0)) (And.intro @fa46_1 (And.intro @fa46_2 @fa46_3))) (And.intro (And.intro @fa46_4 (And.intro @fa46_5 @fa55_0)) (And.intro @fa55_1 (And.intro @fa55_2 @fa55_3)))))) (And.intro (And.intro (And.intro (And.intro (And.intro @fa57_0 @fa57_1) (And.intro @fa57_2 (And.intro @fa57_3 @fa63_0))) (And.intro (And.intro @fa63_1 (And.intro @fa63_2 @fa63_3)) (And.intro @fa66_0 (And.intro @fa66_1 @fa66_2)))) (And.intro (And.intro (And.intro @fa98_0 (And.intro @fa98_1 @fa98_2)) (And.intro @fa98_3 (And.intro @fa98_4 @fa98_5))) (And.intro (And.intro @fa98_6 (And.intro @fa98_7 @fa101_0)) (And.intro @fa101_1 (And.intro @fa101_2 @fa103_0))))) (And.intro (And.intro (And.intro (And.intro @fa103_1 @fa103_2) (And.intro @fa103_3 (And.intro @fa103_4 @fa103_5))) (And.intro (And.intro @fa103_6 (And.intro @fa103_7 @fa112_0)) (And.intro @fa112_1 (And.intro @fa112_2 @fa112_3)))) (And.intro (And.intro (And.intro @fa133_0 (And.intro @fa133_1 @fa133_2)) (And.intro @fa133_3 (And.intro @fa133_4 @fa199_0))) (And.intro (And.intro @fa199_1 (And.intro @fl26_0 @fl26_1)) (And.intro @fl26_2 (And.intro @fl29_0 @fl29_1))))))) (And.intro (And.intro (And.intro (And.intro (And.intro (And.intro @fl41_0 @fl41_1) (And.intro @fl41_2 (And.intro @fl43_0 @fl43_1))) (And.intro (And.intro @fl46_0 (And.intro @fl46_1 @fl46_2)) (And.intro @fl46_3 (And.intro @fl46_4 @fl46_5)))) (And.intro (And.intro (And.intro @fl55_0 (And.intro @fl55_1 @fl55_2)) (And.intro @fl55_3 (And.intro @fl57_0 @fl57_1))) (And.intro (And.intro @fl57_2 (And.intro @fl57_3 @fl63_0)) (And.intro @fl63_1 (And.intro @fl63_2 @fl63_3))))) (And.intro (And.intro (And.intro (And.intro @fl66_0 @fl66_1) (And.intro @fl66_2 (And.intro @fl98_0 @fl98_1))) (And.intro (And.intro @fl98_2 (And.intro @fl98_3 @fl98_4)) (And.intro @fl98_5 (And.intro @fl98_6 @fl98_7)))) (And.intro (And.intro (And.intro @fl101_0 (And.intro @fl101_1 @fl101_2)) (And.intro @fl103_0 (And.intro @fl103_1 @fl103_2))) (And.intro (And.intro @fl103_3 (And.intro @fl103_4 @fl103_5)) (And.intro @fl103_6 (And.intro @fl103_7 @fl112_0)))))) (And.intro (And.intro (And.intro (And.intro (And.intro @fl112_1 @fl112_2) (And.intro @fl112_3 (And.intro @fl133_0 @fl133_1))) (And.intro (And.intro @fl133_2 (And.intro @fl133_3 @fl133_4)) (And.intro @fl199_0 (And.intro @fl199_1 @ln9)))) (And.intro (And.intro (And.intro @ln22 (And.intro @ln22n @ln23)) (And.intro @ln23n (And.intro @ln24 @ln24n))) (And.intro (And.intro @ln35 (And.intro @ln35n @ln44)) (And.intro @ln44n (And.intro @ln48 @ln48n))))) (And.intro (And.intro (And.intro (And.intro @ln50 (And.intro @ln50n @ln96)) (And.intro @ln96n (And.intro @ln131 @ln131n))) (And.intro (And.intro @ln163 (And.intro @ln163n @ln164)) (And.intro @ln164n (And.intro @ln200 @ln200n)))) (And.intro (And.intro (And.intro @ia22 (And.intro @ia23 @ia24)) (And.intro @ia35 (And.intro @ia44 @ia48))) (And.intro (And.intro @ia50 (And.intro @ia96 @ia131)) (And.intro @ia163 (And.intro @ia164 @ia200))))))))
def evB := And.intro (And.intro (And.intro (And.intro (And.intro @zz @xk_eq) (And.intro @qp_some (And.intro @qr_some @qv_eq))) (And.intro (And.intro @xalloc_eq @xstore_some) (And.intro @xb_some (And.intro @anil_ptr @xif_bool)))) (And.intro (And.intro (And.intro @xmake_some @xg_tt) (And.intro @xg_ff (And.intro @xg_tf @xg_ft))) (And.intro (And.intro @xg_sk @xboth_some) (And.intro @pickOf_t (And.intro @pickOf_f @aun_not))))) (And.intro (And.intro (And.intro (And.intro @K_val_pure @K_val_read) (And.intro @K_val_skip (And.intro @K_heap_pure @K_heap_read))) (And.intro (And.intro @K_heap_skip @K_val_eff) (And.intro @K_heap_eff (And.intro @K_val_new @K_heap_new)))) (And.intro (And.intro (And.intro @Option.bind_some.{0,0} @cond_true.{1}) (And.intro @cond_false.{1} (And.intro @aextract_tuple @rdIs_int))) (And.intro (And.intro @rdIs_str @rdIs_bool) (And.intro @rdIs_sl (And.intro @rdIs_nilSl @rdIs_of)))))
def lsB := And.intro (And.intro (And.intro (And.intro @List.getElem?_cons_zero.{0} (And.intro @List.getElem?_cons_succ.{0} @List.drop_zero.{0})) (And.intro (And.intro @List.drop_succ_cons.{0} @List.take_succ_cons.{0}) (And.intro @List.take_zero.{0} @List.set_cons_zero.{0}))) (And.intro (And.intro (And.intro @List.set_cons_succ.{0} @List.cons_append.{0}) (And.intro @List.nil_append.{0} @List.length_cons.{0})) (And.intro (And.intro @List.length_nil.{0} @List.all_cons.{0}) (And.intro @List.all_nil.{0} @Bool.and_true)))) (And.intro (And.intro (And.intro (And.intro @Bool.and_self @Nat.zero_add) (And.intro @Nat.add_zero @Nat.le_refl)) (And.intro (And.intro @and_self @and_true) (And.intro @true_and @if_true.{1}))) (And.intro (And.intro (And.intro @Option.some.injEq.{0} @one_int) (And.intro @one_str @one_bool)) (And.intro (And.intro @one_sl @one_nilSl) (And.intro @one_ptr @one_func))))
def tyB := And.intro (And.intro (And.intro (And.intro (And.intro @ta3 (And.intro @ta4 @ta5)) (And.intro (And.intro @ta9 @ta50) (And.intro @ta27 @ta29))) (And.intro (And.intro (And.intro @ta43 @ta96) (And.intro @ta101 @ta103)) (And.intro (And.intro @ta48 @ta35) (And.intro @ta44 @ta98)))) (And.intro (And.intro (And.intro @ta57 (And.intro @ta131 @ta133)) (And.intro (And.intro @ta163 @ta164) (And.intro @ta199 @ta200))) (And.intro (And.intro (And.intro @ta22 @ta23) (And.intro @ta24 @ta26)) (And.intro (And.intro @ta41 @ta46) (And.intro @ta66 @ta55))))) (And.intro (And.intro (And.intro (And.intro @ts29 (And.intro @ts43 @ts101)) (And.intro (And.intro @ts103 @ts98) (And.intro @ts57 @ts133))) (And.intro (And.intro (And.intro @ts199 @ts26) (And.intro @ts41 @ts46)) (And.intro (And.intro @ts66 @ts55) (And.intro @ts3 @ts4)))) (And.intro (And.intro (And.intro @ts5 (And.intro @ts9 @ts50)) (And.intro (And.intro @ts27 @ts96) (And.intro @ts48 @ts35))) (And.intro (And.intro (And.intro @ts44 @ts131) (And.intro @ts163 @ts164)) (And.intro (And.intro @ts200 @ts22) (And.intro @ts23 @ts24)))))
def binB := And.intro (And.intro (And.intro @fbin_add (And.intro @fbin_sub @fbin_eql)) (And.intro @fbin_neq (And.intro @fbin_lss @fbin_leq))) (And.intro (And.intro @fbin_gtr (And.intro @fbin_geq @fbin_seql)) (And.intro @fbin_sneq (And.intro @eq4 @ne4)))
def heapB := And.intro (And.intro (And.intro @AHeap.get_push_eq @AHeap.get_push_other) (And.intro @AHeap.get_set_same @AHeap.get_set_other)) (And.intro (And.intro @AHeap.next_push @AHeap.next_set) (And.intro @AHeap.push_set_eq @AHeap.set_set))
def tabB := And.intro (And.intro (And.intro (And.intro (And.intro (And.intro (And.intro @bd26_0v0 (And.intro @bd26_0v1 @bd26_1v0)) (And.intro @bd26_1v1 (And.intro @bd26_2v0 @bd26_2v1))) (And.intro (And.intro @bd29_0_1 (And.intro @bd55_0v0 @bd55_0v1)) (And.intro (And.intro @bd63_0v0 @bd63_0v1) (And.intro @bd29_0 @bd57_0_3)))) (And.intro (And.intro (And.intro @bd41_0_2 (And.intro @bd46_0_5 @bd57_0)) (And.intro (And.intro @bd41_2 @bd66_2) (And.intro @bd46_5 @bd57_0_1))) (And.intro (And.intro @bd66_0_1_2 (And.intro @bd112_0_1_2v0 @bd112_0_1_2v1)) (And.intro (And.intro @bd57_0_1_3 @bd57_0_2_3) (And.intro @bd43_1 @bd57_0_2))))) (And.intro (And.intro (And.intro (And.intro @bd133_0_1v0 (And.intro @bd133_0_1v1 @bd98_6)) (And.intro @bd43_0_1 (And.intro @bd103_0_4_5v0 @bd103_0_4_5v1))) (And.intro (And.intro @bd98_0_3v0 (And.intro @bd98_0_3v1 @bd98_0_1_3v0)) (And.intro (And.intro @bd98_0_1_3v1 @bd98_0_1_2) (And.intro @bd98_0_1_2_3v0 @bd98_0_1_2_3v1)))) (And.intro (And.intro (And.intro @bd98_0_3_4v0 (And.intro @bd98_0_3_4v1 @bd98_0_3_4v2)) (And.intro (And.intro @bd98_0_3_4v3 @bd98_0) (And.intro @bd103_0_2_4_5v0 @bd103_0_2_4_5v1))) (And.intro (And.intro @bd103_0_1_5 (And.intro @bd103_0_3_5 @bd103_0_5)) (And.intro (And.intro @bd103_0_2_5 @bd133_0_1_2_3v0) (And.intro @bd133_0_1_2_3v1 @bd133_0_1_2_3v2)))))) (And.intro (And.intro (And.intro (And.intro (And.intro @bd133_0_1_2_3v3 (And.intro @bd43_0 @bd103_0_3_4_5v0)) (And.intro @bd103_0_3_4_5v1 (And.intro @bd199_0_1 @fa26_0))) (And.intro (And.intro @fa26_1 (And.intro @fa26_2 @fa29_0)) (And.intro (And.intro @fa29_1 @fa41_0) (And.intro @fa41_1 @fa41_2)))) (And.intro (And.intro (And.intro @fa43_0 (And.intro @fa43_1 @fa46_0)) (And.intro (And.intro @fa46_1 @fa46_2) (And.intro @fa46_3 @fa46_4))) (And.intro (And.intro @fa46_5 (And.intro @fa55_0 @fa55_1)) (And.intro (And.intro @fa55_2 @fa55_3) (And.intro @fa57_0 @fa57_1))))) (And.intro (And.intro (And.intro (And.intro @fa57_2 (And.intro @fa57_3 @fa63_0)) (And.intro (And.intro @fa63_1 @fa63_2) (And.intro @fa63_3 @fa66_0))) (And.intro (And.intro @fa66_1 (And.intro @fa66_2 @fa98_0)) (And.intro (And.intro @fa98_1 @fa98_2) (And.intro @fa98_3 @fa98_4)))) (And.intro (And.intro (And.intro @fa98_5 (And.intro @fa98_6 @fa98_7)) (And.intro (And.intro @fa101_0 @fa101_1) (And.intro @fa101_2 @fa103_0))) (And.intro (And.intro @fa103_1 (And.intro @fa103_2 @fa103_3)) (And.intro (And.intro @fa103_4 @fa103_5) (And.intro @fa103_6 @fa103_7))))))) (And.intro (And.intro (And.intro (And.intro (And.intro (And.intro @fa112_0 (And.intro @fa112_1 @fa112_2)) (And.intro @fa112_3 (And.intro @fa133_0 @fa133_1))) (And.intro (And.intro @fa133_2 (And.intro @fa133_3 @fa133_4)) (And.intro (And.intro @fa199_0 @fa199_1) (And.intro @fl26_0 @fl26_1)))) (And.intro (And.intro (And.intro @fl26_2 (And.intro @fl29_0 @fl29_1)) (And.intro (And.intro @fl41_0 @fl41_1) (And.intro @fl41_2 @fl43_0))) (And.intro (And.intro @fl43_1 (And.intro @fl46_0 @fl46_1)) (And.intro (And.intro @fl46_2 @fl46_3) (And.intro @fl46_4 @fl46_5))))) (And.intro (And.intro (And.intro (And.intro @fl55_0 (And.intro @fl55_1 @fl55_2)) (And.intro @fl55_3 (And.intro @fl57_0 @fl57_1))) (And.intro (And.intro @fl57_2 (And.intro @fl57_3 @fl63_0)) (And.intro (And.intro @fl63_1 @fl63_2) (And.intro @fl63_3 @fl66_0)))) (And.intro (And.intro (And.intro @fl66_1 (And.intro @fl66_2 @fl98_0)) (And.intro (And.intro @fl98_1 @fl98_2) (And.intro @fl98_3 @fl98_4))) (And.intro (And.intro @fl98_5 (And.intro @fl98_6 @fl98_7)) (And.intro (And.intro @fl101_0 @fl101_1) (And.intro @fl101_2 @fl103_0)))))) (And.intro (And.intro (And.intro (And.intro (And.intro @fl103_1 (And.intro @fl103_2 @fl103_3)) (And.intro @fl103_4 (And.intro @fl103_5 @fl103_6))) (And.intro (And.intro @fl103_7 (And.intro @fl112_0 @fl112_1)) (And.intro (And.intro @fl112_2 @fl112_3) (And.intro @fl133_0 @fl133_1)))) (And.intro (And.intro (And.intro @fl133_2 (And.intro @fl133_3 @fl133_4)) (And.intro (And.intro @fl199_0 @fl199_1) (And.intro @ln9 @ln22))) (And.intro (And.intro @ln22n (And.intro @ln23 @ln23n)) (And.intro (And.intro @ln24 @ln24n) (And.intro @ln35 @ln35n))))) (And.intro (And.intro (And.intro (And.intro @ln44 (And.intro @ln44n @ln48)) (And.intro (And.intro @ln48n @ln50) (And.intro @ln50n @ln96))) (And.intro (And.intro @ln96n (And.intro @ln131 @ln131n)) (And.intro (And.intro @ln163 @ln163n) (And.intro @ln164 @ln164n)))) (And.intro (And.intro (And.intro @ln200 (And.intro @ln200n @ia22)) (And.intro (And.intro @ia23 @ia24) (And.intro @ia35 @ia44))) (And.intro (And.intro @ia48 (And.intro @ia50 @ia96)) (And.intro (And.intro @ia131 @ia163) (And.intro @ia164 @ia200)))))))
def oneB := And.intro (And.intro @one_int (And.intro @one_str @one_bool)) (And.intro (And.intro @one_sl @one_nilSl) (And.intro @one_ptr @one_func))
end Go.Proofs.YtghmbpmaafnodaaGreatDoor

namespace Go.Proofs.YtghmbpmaafnodaaGreatDoor
open Go.Ev
def Tok.cells (t : Tok) : List AV := [.int .i64 t.kind, .str t.text, .int .i64 t.n, .int .i64 t.pos]
def Tok.v (t : Tok) : AV := .agg [.int .i64 t.kind, .str t.text, .int .i64 t.n, .int .i64 t.pos]
def TokSl (H : AHeap) (v : AV) (T : List Tok) : Prop := (v = .nilSl ∧ T = []) ∨ ∃ l i cap, v = .sl l i T.length 4 cap ∧ (T = [] ∨ ∃ ro els, H.get l = some (.row ro 4 els) ∧ ∀ (k : Nat) (t : Tok), T[k]? = some t → els[i + k]? = some t.cells)
def Rd (H : AHeap) (r : Nat) (tv lv : AV) (s : St) : Prop := H.get r = some (.row false 6 [[tv, .int .i64 s.at_, .int .i64 s.opn, lv, .int .i64 s.fe, .int .i64 s.fa]])
def lvRows : List (List (List AV)) := [[[.str [124, 124], .int .i64 24]], [[.str [38, 38], .int .i64 23]], [[.str [60], .int .i64 19], [.str [60, 61], .int .i64 20], [.str [61, 61], .int .i64 21], [.str [33, 61], .int .i64 22]], [[.str [43], .int .i64 14], [.str [45], .int .i64 15]], [[.str [42], .int .i64 16], [.str [47], .int .i64 17], [.str [37], .int .i64 18]]]
def LvOk (H : AHeap) (lv : AV) : Prop := ∃ l i cap ro els, lv = .sl l i 5 1 cap ∧ H.get l = some (.row ro 1 els) ∧ ∀ (k : Nat) (row : List (List AV)), lvRows[k]? = some row → ∃ l' i' cap' ro' els', els[i + k]? = some [.sl l' i' row.length 2 cap'] ∧ H.get l' = some (.row ro' 2 els') ∧ ∀ (j : Nat) (e : List AV), row[j]? = some e → els'[i' + j]? = some e
def LvC (H : AHeap) (lv : AV) : Prop := lv = .nilSl ∨ LvOk H lv
structure Rx (H : AHeap) (r : Nat) (T : List Tok) (tv lv : AV) (s : St) : Prop where
 rd : Rd H r tv lv s
 tk : TokSl H tv T
 lv : LvC H lv
abbrev Mt (r : Nat) : AHeap → AHeap → Prop := Mut (· = r)
theorem TokSl.keep {H H' : AHeap} {v : AV} {T : List Tok} (h : TokSl H v T) (p : ∀ l ro els, H.get l = some (.row ro 4 els) → H'.get l = some (.row ro 4 els)) : TokSl H' v T := by
 rcases h with h | ⟨l, i, cap, h1, h2 | ⟨ro, els, h2, h3⟩⟩
 ·exact .inl h
 ·exact .inr ⟨l, i, cap, h1, .inl h2⟩
 ·exact .inr ⟨l, i, cap, h1, .inr ⟨ro, els, p _ _ _ h2, h3⟩⟩
theorem TokSl.pur {H H' : AHeap} {v : AV} {T : List Tok} (h : TokSl H v T) (p : Pur H H') : TokSl H' v T := h.keep fun _ _ _ e => p.get e
theorem TokSl.one {H : AHeap} {v : AV} {T : List Tok} (h : TokSl H v T) : v.one = true := by
 rcases h with ⟨rfl, _⟩ | ⟨l, i, cap, rfl, _⟩ <;> rfl
theorem LvOk.one {H : AHeap} {v : AV} (h : LvOk H v) : v.one = true := by
 obtain ⟨l, i, cap, ro, els, rfl, _⟩ := h; rfl
theorem LvC.one {H : AHeap} {v : AV} (h : LvC H v) : v.one = true := by
 rcases h with rfl | h
 ·rfl
 ·exact h.one
theorem LvOk.keep {H H' : AHeap} {v : AV} (h : LvOk H v) (p : ∀ l ro n els, n ≠ 6 → H.get l = some (.row ro n els) → H'.get l = some (.row ro n els)) : LvOk H' v := by
 obtain ⟨l, i, cap, ro, els, h1, h2, h3⟩ := h
 refine ⟨l, i, cap, ro, els, h1, p _ _ _ _ (by omega) h2, fun k row hk => ?_⟩
 obtain ⟨l', i', cap', ro', els', e1, e2, e3⟩ := h3 k row hk
 exact ⟨l', i', cap', ro', els', e1, p _ _ _ _ (by omega) e2, e3⟩
theorem LvC.keep {H H' : AHeap} {v : AV} (h : LvC H v) (p : ∀ l ro n els, n ≠ 6 → H.get l = some (.row ro n els) → H'.get l = some (.row ro n els)) : LvC H' v := by
 rcases h with rfl | h
 ·exact .inl rfl
 ·exact .inr (h.keep p)
theorem Rd.pur {H H' : AHeap} {r : Nat} {tv lv : AV} {s : St} (hr : Rd H r tv lv s) (p : Pur H H') : Rd H' r tv lv s := p.get hr
theorem Rd.lt {H : AHeap} {r : Nat} {tv lv : AV} {s : St} (hr : Rd H r tv lv s) : r < H.next := AHeap.get_lt hr
theorem Rx.mut {H H' : AHeap} {r : Nat} {T : List Tok} {tv lv : AV} {s s' : St} (h : Rx H r T tv lv s) (m : Mt r H H') (hd : Rd H' r tv lv s') : Rx H' r T tv lv s' := by
 have hne : ∀ l ro n els, n ≠ 6 → H.get l = some (.row ro n els) → H'.get l = some (.row ro n els) := fun l ro n els hn e => m.get e (by
  rintro rfl
  rw [h.rd] at e
  simp only [Option.some.injEq, ABlk.row.injEq] at e
  exact hn e.2.1.symm)
 exact ⟨hd, h.tk.keep fun l ro els e => hne l ro 4 els (by omega) e, h.lv.keep hne⟩
theorem Rx.pur {H H' : AHeap} {r : Nat} {T : List Tok} {tv lv : AV} {s : St} (h : Rx H r T tv lv s) (p : Pur H H') : Rx H' r T tv lv s := h.mut (p.mut _) (h.rd.pur p)
theorem tok_spec {H : AHeap} {r : Nat} {tv lv : AV} {s : St} {T : List Tok} (hr : Rd H r tv lv s) (ht : TokSl H tv T) : W (evw P orc 121 [.ptr r 0 0] H) fun v H' => v = (tokAt T s.at_).v ∧ Pur H H' := by
 unfold Rd at hr
 have hl := AHeap.get_lt hr
 refine W_of (fun _ => run121 0) ?_
 by_cases h0 : s.at_ < 0
 ·simp -implicitDefEqProofs (disch := first | assumption | omega | (simp only [nxB]; omega) | (simp only [oneB])) only [s121, xlen, evB, Nat.reduceAdd, Nat.reduceLeDiff, reduceIte, AV.cells, splice, lsB, aload, tyB, astore, tyB, binB, heapB, fa133_0, fa133_1, hr, h0, decide_true, W_some]
  exact ⟨by simp [tokAt, h0, Tok.v, Tok.none], Pur.push _ _⟩
 ·rcases ht with ⟨rfl, rfl⟩ | ⟨l, i, cap, rfl, h23⟩
  ·have h1 : (0 : Int) ≤ s.at_ := by omega
   simp -implicitDefEqProofs (disch := first | assumption | omega | (simp only [nxB]; omega) | (simp only [oneB])) only [s121, xlen, evB, Nat.reduceAdd, Nat.reduceLeDiff, reduceIte, AV.cells, splice, lsB, aload, tyB, astore, tyB, binB, heapB, fa133_0, fa133_1, hr, h0, h1, decide_true, decide_false, W_some, ln50n]
   exact ⟨by simp [tokAt, h0, Tok.v, Tok.none, h1], Pur.push _ _⟩
  ·by_cases h1 : (T.length : Int) ≤ s.at_
   ·simp -implicitDefEqProofs (disch := first | assumption | omega | (simp only [nxB]; omega) | (simp only [oneB])) only [s121, xlen, evB, Nat.reduceAdd, Nat.reduceLeDiff, reduceIte, AV.cells, splice, lsB, aload, tyB, astore, tyB, binB, heapB, fa133_0, fa133_1, hr, h0, h1, decide_true, decide_false, W_some, ln50]
    exact ⟨by simp [tokAt, h0, Tok.v, Tok.none, h1], Pur.push _ _⟩
   ·have hlt : s.at_.toNat < T.length := by omega
    obtain ⟨ro, els, h2, h3⟩ := h23.resolve_left (by rintro rfl; simp at hlt)
    have hl2 := AHeap.get_lt h2
    have h4 := h3 s.at_.toNat T[s.at_.toNat] (by simp [hlt])
    simp only [Tok.cells] at h4
    simp -implicitDefEqProofs (disch := first | assumption | omega | (simp only [nxB]; omega) | (simp only [oneB])) only [s121, xlen, evB, Nat.reduceAdd, Nat.reduceLeDiff, reduceIte, AV.cells, splice, lsB, aload, tyB, astore, tyB, binB, heapB, fa133_0, fa133_1, hr, h0, h1, decide_true, decide_false, W_some, ln50, ia50, h2, h4]
    refine ⟨?_, Pur.push _ _⟩
    simp [tokAt, h0, h1, Tok.v, hlt]
theorem failed_spec {H : AHeap} {r : Nat} {tv lv : AV} {s : St} (hr : Rd H r tv lv s) : W (evw P orc 102 [.ptr r 0 0] H) fun v H' => v = .bool (s.fe != 0) ∧ H' = H := by
 unfold Rd at hr
 refine W_of (fun _ => run102 0) ?_
 simp -implicitDefEqProofs (disch := first | assumption | omega | (simp only [nxB]; omega) | (simp only [oneB])) only [s102, xlen, evB, Nat.reduceAdd, Nat.reduceLeDiff, reduceIte, AV.cells, splice, lsB, aload, tyB, astore, tyB, binB, heapB, fa133_4, fa29_0, hr, W_some]
theorem is_spec {H : AHeap} {r : Nat} {tv lv : AV} {s : St} {T : List Tok} (hr : Rd H r tv lv s) (ht : TokSl H tv T) (k : Int) (x : List UInt8) : W (evw P orc 119 [.ptr r 0 0, .int .i64 k, .str x] H) fun v H' => v = .bool (isB T s k x) ∧ Pur H H' := by
 refine W_of (fun _ => run119 0) ?_
 rw [s119]
 refine W_call (tok_spec hr ht) ?_
 rintro _ H1 ⟨rfl, p1⟩
 refine ⟨p1.1, ?_⟩
 simp -implicitDefEqProofs (disch := first | assumption | omega | (simp only [nxB]; omega) | (simp only [oneB])) only [s119, xlen, evB, Nat.reduceAdd, Nat.reduceLeDiff, reduceIte, AV.cells, splice, lsB, aload, tyB, astore, tyB, binB, heapB, Tok.v]
 refine W_call (failed_spec (hr.pur (p1.then_push _))) ?_
 rintro _ H2 ⟨rfl, rfl⟩
 refine ⟨Nat.le_refl _, ?_⟩
 by_cases h1 : s.fe = 0
 ·by_cases h2 : (tokAt T s.at_).kind = k
  ·simp -implicitDefEqProofs (disch := first | assumption | omega | (simp only [nxB]; omega) | (simp only [oneB])) only [s119, xlen, evB, Nat.reduceAdd, Nat.reduceLeDiff, reduceIte, AV.cells, splice, lsB, aload, tyB, astore, tyB, binB, heapB, fa57_0, fa57_1, W_some, h1, h2, bne_self_eq_false, Bool.not_false, beq_self_eq_true]
   exact ⟨by simp [isB, h1, h2], p1.then_push _⟩
  ·have h2' : ((tokAt T s.at_).kind == k) = false := by simpa using h2
   simp -implicitDefEqProofs (disch := first | assumption | omega | (simp only [nxB]; omega) | (simp only [oneB])) only [s119, xlen, evB, Nat.reduceAdd, Nat.reduceLeDiff, reduceIte, AV.cells, splice, lsB, aload, tyB, astore, tyB, binB, heapB, fa57_0, fa57_1, W_some, h1, h2', bne_self_eq_false, Bool.not_false]
   exact ⟨by simp [isB, h1, h2], p1.then_push _⟩
 ·have h1' : (s.fe != 0) = true := by simpa using h1
  simp -implicitDefEqProofs (disch := first | assumption | omega | (simp only [nxB]; omega) | (simp only [oneB])) only [s119, xlen, evB, Nat.reduceAdd, Nat.reduceLeDiff, reduceIte, AV.cells, splice, lsB, aload, tyB, astore, tyB, binB, heapB, fa57_0, fa57_1, W_some, h1', Bool.not_true]
  exact ⟨by simp [isB, h1], p1.then_push _⟩
theorem fail_set {H : AHeap} {r : Nat} {tv lv : AV} {s : St} (hr : Rd H r tv lv s) (s' : St) : Mt r H (H.set r (.row false 6 [[tv, .int .i64 s'.at_, .int .i64 s'.opn, lv, .int .i64 s'.fe, .int .i64 s'.fa]])) ∧ Rd (H.set r (.row false 6 [[tv, .int .i64 s'.at_, .int .i64 s'.opn, lv, .int .i64 s'.fe, .int .i64 s'.fa]])) r tv lv s' :=
 ⟨Mut.then_set (S := (· = r)) (Mut.refl _ _) (.inl rfl) _, AHeap.get_set_same hr.lt⟩
theorem fail_spec {H : AHeap} {r : Nat} {T : List Tok} {tv lv : AV} {s : St} (hx : Rx H r T tv lv s) (e : Int) : W (evw P orc 120 [.ptr r 0 0, .int .i64 e] H) fun v H' => v = .bool false ∧ Mt r H H' ∧ Rx H' r T tv lv (failS T e s) := by
 refine W_of (fun _ => run120 0) ?_
 have hr := hx.rd
 have ho1 := hx.tk.one
 have ho2 := hx.lv.one
 rw [s120]
 refine W_call (failed_spec hr) ?_
 rintro _ H1 ⟨rfl, rfl⟩
 refine ⟨Nat.le_refl _, ?_⟩
 by_cases h1 : s.fe = 0
 ·rw [show failS T e s = { s with fe := e, fa := (tokAt T s.at_).pos } by simp [failS, h1]]
  simp -implicitDefEqProofs (disch := first | assumption | omega | (simp only [nxB]; omega) | (simp only [oneB])) only [s120_j0, s120, xlen, evB, h1, bne_self_eq_false, Bool.not_false]
  refine W_call (tok_spec hr hx.tk) ?_
  rintro _ H2 ⟨rfl, p2⟩
  refine ⟨p2.1, ?_⟩
  have hr2 : Rd H2 r tv lv s := hr.pur p2
  have hr2' := hr2
  unfold Rd at hr2'
  simp -implicitDefEqProofs (disch := first | assumption | omega | (simp only [nxB]; omega) | (simp only [oneB])) only [s120_j0, s120, xlen, evB, Nat.reduceAdd, Nat.reduceLeDiff, reduceIte, AV.cells, splice, lsB, aload, tyB, astore, tyB, heapB, Tok.v, fl57_3, bd29_0_1, fa133_4, hr2', ho1, ho2]
  obtain ⟨m, hd⟩ := fail_set hr2 { s with fe := e, fa := (tokAt T s.at_).pos }
  exact W_some.2 ⟨rfl, (p2.mut _).trans m, hx.mut ((p2.mut _).trans m) hd⟩
 ·have h1' : (s.fe != 0) = true := by simpa using h1
  rw [show failS T e s = s by simp [failS, h1]]
  simp -implicitDefEqProofs (disch := first | assumption | omega | (simp only [nxB]; omega) | (simp only [oneB])) only [s120_j0, s120, xlen, evB, h1', Bool.not_true]
  exact W_some.2 ⟨rfl, Mut.refl _ _, hx⟩
theorem takes_spec {H : AHeap} {r : Nat} {T : List Tok} {tv lv : AV} {s : St} (hx : Rx H r T tv lv s) (k : Int) (x : List UInt8) : W (evw P orc 136 [.ptr r 0 0, .int .i64 k, .str x] H) fun v H' => v = .bool (takesS T k x s).1 ∧ Mt r H H' ∧ Rx H' r T tv lv (takesS T k x s).2 := by
 refine W_of (fun _ => run136 0) ?_
 have hr := hx.rd
 have ho1 := hx.tk.one
 have ho2 := hx.lv.one
 rw [s136]
 refine W_call (is_spec hr hx.tk k x) ?_
 rintro _ H1 ⟨rfl, p1⟩
 refine ⟨p1.1, ?_⟩
 have hr2 : Rd H1 r tv lv s := hr.pur p1
 have hr2' := hr2
 unfold Rd at hr2'
 cases hb : isB T s k x with
 | false =>
  rw [show takesS T k x s = (false, s) by simp [takesS, hb]]
  simp -implicitDefEqProofs (disch := first | assumption | omega | (simp only [nxB]; omega) | (simp only [oneB])) only [s136, xlen, evB, Bool.not_false]
  exact W_some.2 ⟨rfl, p1.mut _, hx.pur p1⟩
 | true =>
  rw [show takesS T k x s = (true, goS s) by simp [takesS, hb]]
  simp -implicitDefEqProofs (disch := first | assumption | omega | (simp only [nxB]; omega) | (simp only [oneB])) only [s136, xlen, evB, Nat.reduceAdd, Nat.reduceLeDiff, reduceIte, AV.cells, splice, lsB, aload, tyB, astore, tyB, binB, heapB, fa133_1, hr2', ho1, ho2, Bool.not_true]
  obtain ⟨m, hd⟩ := fail_set hr2 (goS s)
  exact W_some.2 ⟨rfl, (p1.mut _).trans m, hx.mut ((p1.mut _).trans m) hd⟩
theorem wants_spec {H : AHeap} {r : Nat} {T : List Tok} {tv lv : AV} {s : St} (hx : Rx H r T tv lv s) (x : List UInt8) : W (evw P orc 122 [.ptr r 0 0, .str x] H) fun v H' => v = .bool (wantsS T x s).1 ∧ Mt r H H' ∧ Rx H' r T tv lv (wantsS T x s).2 := by
 refine W_of (fun _ => run122 0) ?_
 rw [s122]
 refine W_call (takes_spec hx 4 x) ?_
 rintro _ H1 ⟨rfl, m1, hx1⟩
 refine ⟨m1.1, ?_⟩
 cases hb : isB T s 4 x with
 | true =>
  rw [show wantsS T x s = (true, goS s) by simp [wantsS, hb]]
  simp only [takesS, hb, cond_true] at hx1 ⊢
  simp -implicitDefEqProofs (disch := first | assumption | omega | (simp only [nxB]; omega) | (simp only [oneB])) only [s122, xlen, evB]
  exact W_some.2 ⟨rfl, m1, hx1⟩
 | false =>
  rw [show wantsS T x s = (false, failS T 2 s) by simp [wantsS, hb]]
  simp only [takesS, hb, cond_false] at hx1 ⊢
  simp -implicitDefEqProofs (disch := first | assumption | omega | (simp only [nxB]; omega) | (simp only [oneB])) only [s122, xlen, evB]
  refine W_eff (fail_spec hx1 2) ?_
  rintro _ H2 ⟨rfl, m2, hx2⟩
  refine ⟨m2.1, ?_⟩
  simp -implicitDefEqProofs (disch := first | assumption | omega | (simp only [nxB]; omega) | (simp only [oneB])) only [s122, xlen, evB]
  exact W_some.2 ⟨rfl, m1.trans m2, hx2⟩
theorem opens_spec {H : AHeap} {r : Nat} {T : List Tok} {tv lv : AV} {s : St} (hx : Rx H r T tv lv s) (x : List UInt8) : W (evw P orc 177 [.ptr r 0 0, .str x] H) fun v H' => v = .bool (opensS T x s).1 ∧ Mt r H H' ∧ Rx H' r T tv lv (opensS T x s).2 := by
 refine W_of (fun _ => run177 0) ?_
 have hr := hx.rd
 have ho1 := hx.tk.one
 have ho2 := hx.lv.one
 rw [s177]
 refine W_call (is_spec hr hx.tk 4 x) ?_
 rintro _ H1 ⟨rfl, p1⟩
 refine ⟨p1.1, ?_⟩
 have hx1 := hx.pur p1
 have hr2 := hx1.rd
 have hl2 := hr2.lt
 have hr2' := hr2
 unfold Rd at hr2'
 cases hb : isB T s 4 x with
 | false =>
  rw [show opensS T x s = (false, failS T 2 s) by simp [opensS, hb]]
  simp -implicitDefEqProofs (disch := first | assumption | omega | (simp only [nxB]; omega) | (simp only [oneB])) only [s177, xlen, evB, Bool.not_false]
  refine W_call (fail_spec hx1 2) ?_
  rintro _ H2 ⟨rfl, m2, hx2⟩
  refine ⟨m2.1, ?_⟩
  try simp only [s177]
  exact W_some.2 ⟨rfl, (p1.mut _).trans m2, hx2⟩
 | true =>
  by_cases ho : 50 ≤ s.opn
  ·rw [show opensS T x s = (false, failS T 4 s) by simp [opensS, hb, ho]]
   simp -implicitDefEqProofs (disch := first | assumption | omega | (simp only [nxB]; omega) | (simp only [oneB])) only [s177, xlen, evB, Nat.reduceAdd, Nat.reduceLeDiff, reduceIte, AV.cells, splice, lsB, aload, tyB, astore, tyB, binB, heapB, fa133_2, hr2', Bool.not_true, ho, decide_true]
   refine W_call (fail_spec hx1 4) ?_
   rintro _ H2 ⟨rfl, m2, hx2⟩
   refine ⟨m2.1, ?_⟩
   try simp -implicitDefEqProofs (disch := first | assumption | omega | (simp only [nxB]; omega) | (simp only [oneB])) only [s177]
   exact W_some.2 ⟨rfl, (p1.mut _).trans m2, hx2⟩
  ·rw [show opensS T x s = (true, { s with at_ := w64 (s.at_ + 1), opn := w64 (s.opn + 1) }) by simp [opensS, hb, ho]]
   simp -implicitDefEqProofs (disch := first | assumption | omega | (simp only [nxB]; omega) | (simp only [oneB])) only [s177, xlen, evB, Nat.reduceAdd, Nat.reduceLeDiff, reduceIte, AV.cells, splice, lsB, aload, tyB, astore, tyB, binB, heapB, fa133_1, fa133_2, hr2', hr2.lt, ho1, ho2, Bool.not_true, ho, decide_false]
   obtain ⟨m, hd⟩ := fail_set hr2 { s with at_ := w64 (s.at_ + 1), opn := w64 (s.opn + 1) }
   exact W_some.2 ⟨rfl, (p1.mut _).trans m, hx.mut ((p1.mut _).trans m) hd⟩
theorem closes_spec {H : AHeap} {r : Nat} {T : List Tok} {tv lv : AV} {s : St} (hx : Rx H r T tv lv s) (x : List UInt8) : W (evw P orc 195 [.ptr r 0 0, .str x] H) fun v H' => v = .bool (closesS T x s).1 ∧ Mt r H H' ∧ Rx H' r T tv lv (closesS T x s).2 := by
 refine W_of (fun _ => run195 0) ?_
 have hr := hx.rd
 have ho1 := hx.tk.one
 have ho2 := hx.lv.one
 have hr' := hr
 unfold Rd at hr'
 simp -implicitDefEqProofs (disch := first | assumption | omega | (simp only [nxB]; omega) | (simp only [oneB])) only [s195_0, s195, xlen, evB, Nat.reduceAdd, Nat.reduceLeDiff, reduceIte, AV.cells, splice, lsB, aload, tyB, astore, tyB, binB, heapB, fa133_2, hr', ho1, ho2]
 obtain ⟨m, hd⟩ := fail_set hr (outS s)
 refine W_call (wants_spec (hx.mut m hd) x) ?_
 rintro _ H1 ⟨rfl, m1, hx1⟩
 refine ⟨m1.1, ?_⟩
 simp only [s195_0]
 exact W_some.2 ⟨rfl, m.trans m1, hx1⟩
end Go.Proofs.YtghmbpmaafnodaaGreatDoor

namespace Go.Proofs.YtghmbpmaafnodaaGreatDoor
open Go.Ev
def Ea.cells (a : Ea) (kv : AV) : List AV := [.int .i64 a.kind, .int .i64 a.n, .str a.name, .str a.ofn, .int .i64 a.ofd, kv, .int .i64 a.pos, .int .i64 a.tb, .int .i64 a.tr, .int .i64 a.td, .int .i64 a.ref]
mutual
def ExV (H : AHeap) (ok : Nat → Prop) : Ex → AV → Prop
 | .mk a ks, v => ∃ kv, v = .agg (a.cells kv) ∧ ((kv = .nilSl ∧ ks.length = 0) ∨ (∃ l i cap ro els, kv = .sl l i ks.length 11 cap ∧ ok l ∧ H.get l = some (.row ro 11 els) ∧ ElsV H ok ks (els.drop i)) ∨ ∃ l i cap, kv = .sl l i 0 11 cap ∧ ks.length = 0)
def ElsV (H : AHeap) (ok : Nat → Prop) : List Ex → List (List AV) → Prop
 | [], _ => True
 | e :: es, [] => False
 | e :: es, cs :: css => ExV H ok e (.agg cs) ∧ ElsV H ok es css
end
def KsV (H : AHeap) (ok : Nat → Prop) (ks : List Ex) (kv : AV) : Prop := (kv = .nilSl ∧ ks.length = 0) ∨ (∃ l i cap ro els, kv = .sl l i ks.length 11 cap ∧ ok l ∧ H.get l = some (.row ro 11 els) ∧ ElsV H ok ks (els.drop i)) ∨ ∃ l i cap, kv = .sl l i 0 11 cap ∧ ks.length = 0
theorem ExV_mk {H : AHeap} {ok : Nat → Prop} {a : Ea} {ks : List Ex} {v : AV} : ExV H ok (.mk a ks) v ↔ ∃ kv, v = .agg (a.cells kv) ∧ KsV H ok ks kv := by
 rw [ExV]; rfl
def Keep (H : AHeap) (ok : Nat → Prop) (H' : AHeap) (ok' : Nat → Prop) : Prop := ∀ l ro els, ok l → H.get l = some (.row ro 11 els) → ok' l ∧ H'.get l = some (.row ro 11 els)
mutual
theorem ExV.keep {H H' : AHeap} {ok ok' : Nat → Prop} (p : Keep H ok H' ok') : ∀ (e : Ex) (v : AV), ExV H ok e v → ExV H' ok' e v
 | .mk a ks, v, h => by
  rw [ExV] at h ⊢
  obtain ⟨kv, h1, h2⟩ := h
  refine ⟨kv, h1, ?_⟩
  rcases h2 with h2 | ⟨l, i, cap, ro, els, e1, e2, e3, e4⟩ | h2
  ·exact .inl h2
  ·obtain ⟨q1, q2⟩ := p l ro els e2 e3
   exact .inr (.inl ⟨l, i, cap, ro, els, e1, q1, q2, ElsV.keep p ks _ e4⟩)
  ·exact .inr (.inr h2)
theorem ElsV.keep {H H' : AHeap} {ok ok' : Nat → Prop} (p : Keep H ok H' ok') : ∀ (es : List Ex) (cs : List (List AV)), ElsV H ok es cs → ElsV H' ok' es cs
 | [], _, _ => by rw [ElsV]; trivial
 | e :: es, [], h => by rw [ElsV] at h; exact h.elim
 | e :: es, cs :: css, h => by
  rw [ElsV] at h ⊢
  exact ⟨ExV.keep p e _ h.1, ElsV.keep p es css h.2⟩
end
theorem KsV.keep {H H' : AHeap} {ok ok' : Nat → Prop} (p : Keep H ok H' ok') {ks : List Ex} {v : AV} (h : KsV H ok ks v) : KsV H' ok' ks v := by
 rcases h with h2 | ⟨l, i, cap, ro, els, e1, e2, e3, e4⟩ | h2
 ·exact .inl h2
 ·obtain ⟨q1, q2⟩ := p l ro els e2 e3
  exact .inr (.inl ⟨l, i, cap, ro, els, e1, q1, q2, ElsV.keep p ks _ e4⟩)
 ·exact .inr (.inr h2)
theorem Keep.mut {r : Nat} {H H' : AHeap} {ok ok' : Nat → Prop} (m : Mt r H H') (hr : ¬ ok r) (hl : ∀ l, ok l → ok' l) : Keep H ok H' ok' := fun l ro els h e => ⟨hl l h, m.get e (by rintro rfl; exact hr h)⟩
theorem Keep.pur {H H' : AHeap} {ok ok' : Nat → Prop} (m : Pur H H') (hl : ∀ l, ok l → ok' l) : Keep H ok H' ok' := fun l ro els h e => ⟨hl l h, m.get e⟩
def Ge (n : Nat) : Nat → Prop := fun l => n ≤ l
theorem ExV.agg {H : AHeap} {ok : Nat → Prop} {e : Ex} {v : AV} (h : ExV H ok e v) : ∃ k n nm o d kv p t1 t2 t3 rf, v = .agg [.int .i64 k, .int .i64 n, .str nm, .str o, .int .i64 d, kv, .int .i64 p, .int .i64 t1, .int .i64 t2, .int .i64 t3, .int .i64 rf] ∧ kv.one = true := by
 cases e with | mk a ks =>
 rw [ExV_mk] at h
 obtain ⟨kv, h1, h2⟩ := h
 refine ⟨_, _, _, _, _, kv, _, _, _, _, _, h1, ?_⟩
 rcases h2 with ⟨rfl, _⟩ | ⟨l, i, cap, ro, els, rfl, _⟩ | ⟨l, i, cap, rfl, _⟩ <;> rfl
theorem ExV.leaf (H : AHeap) (ok : Nat → Prop) (a : Ea) : ExV H ok (.mk a []) (.agg (a.cells .nilSl)) := by
 rw [ExV_mk]; exact ⟨_, rfl, .inl ⟨rfl, rfl⟩⟩
theorem kind_loop {r : Nat} {T : List Tok} {tv lv : AV} {s : St} {H0 : AHeap} (hx : Rx H0 r T tv lv s) {l i : Nat} {cap : Option Nat} {ro : Bool} {els : List (List AV)} (hg : H0.get l = some (.row ro 2 els)) (N : Nat) (all : List (Bs × Int)) (hA : all.length ≤ 1000)
  (hel : ∀ (j : Nat) (p : Bs × Int), all[j]? = some p → els[i + j]? = some [.str p.1, .int .i64 p.2]) :
  ∀ (rest pre : List (Bs × Int)), all = pre ++ rest → ∀ (n : Nat) (H : AHeap), rest.length < n → Pur H0 H →
   W (s171_l1 (evw P orc) N n (.ptr r 0 0) (.sl l i all.length 2 cap) (.int .i64 all.length) (.int .i64 pre.length) H) fun v H' => v = .int .i64 (kindL T s rest) ∧ Pur H0 H'
 | [], pre, hp, 0, H, hn, p => by omega
 | [], pre, hp, n + 1, H, hn, p => by
  have h1 : ¬ ((pre.length : Int) < (all.length : Int)) := by rw [hp]; simp
  simp -implicitDefEqProofs (disch := first | assumption | omega | (simp only [nxB]; omega) | (simp only [oneB])) only [s171_l1, s171_j0, s171_b1, s171, xlen, AV.cells, splice, aload, astore, Nat.reduceAdd, Nat.reduceLeDiff, reduceIte, allB, h1, decide_false]
  exact W_some.2 ⟨rfl, p⟩
 | q :: rest, pre, hp, 0, H, hn, p => by omega
 | (x, k) :: rest, pre, hp, n + 1, H, hn, p => by
  have h1 : (pre.length : Int) < (all.length : Int) := by rw [hp]; simp; omega
  have h0 : (0 : Int) ≤ (pre.length : Int) := by omega
  have he := hel pre.length (x, k) (by rw [hp]; simp)
  have hg' := p.get hg
  have hl := AHeap.get_lt hg'
  have e1 : ((pre.length : Int)).toNat = pre.length := by omega
  simp -implicitDefEqProofs (disch := first | assumption | omega | (simp only [nxB]; omega) | (simp only [oneB])) only [s171_l1, s171_j0, s171_b1, s171, xlen, AV.cells, splice, aload, astore, Nat.reduceAdd, Nat.reduceLeDiff, reduceIte, allB, h1, decide_true, hg', e1, he]
  refine W_call (is_spec (hx.rd.pur (p.then_push _)) (hx.tk.pur (p.then_push _)) 4 x) ?_
  rintro _ H2 ⟨rfl, p2⟩
  refine ⟨p2.1, ?_⟩
  have hb : H2.get H.next = some (.row false 2 [[.str x, .int .i64 k]]) := p2.get (AHeap.get_push_same _ _)
  have p3 := (p.then_push _).trans p2
  cases hi : isB T s 4 x with
  | true =>
   simp -implicitDefEqProofs (disch := first | assumption | omega | (simp only [nxB]; omega) | (simp only [oneB])) only [s171_j0, s171_b1, s171, xlen, AV.cells, splice, aload, astore, Nat.reduceAdd, Nat.reduceLeDiff, reduceIte, allB, hb]
   exact W_some.2 ⟨by simp [kindL, hi], p3⟩
  | false =>
   have hw : IntKind.i64.wrap ((pre.length : Int) + 1) = ((pre ++ [(x, k)]).length : Int) := by
    have hlt : pre.length < all.length := by omega
    rw [wrap_i64 (by omega) (by omega)]; simp
   simp -implicitDefEqProofs (disch := first | assumption | omega | (simp only [nxB]; omega) | (simp only [oneB])) only [s171_j0, s171_b1, s171, xlen, AV.cells, splice, aload, astore, Nat.reduceAdd, Nat.reduceLeDiff, reduceIte, allB, hw]
   refine (kind_loop hx hg N all hA hel rest (pre ++ [(x, k)]) (by simp [hp]) n H2 (by simp at hn; omega) p3).mono ?_
   rintro v H' ⟨rfl, q⟩
   exact ⟨by simp [kindL, hi], q⟩
theorem kind_spec {H : AHeap} {r : Nat} {T : List Tok} {tv lv : AV} {s : St} (hx : Rx H r T tv lv s) (hlv : lv ≠ .nilSl) (lev : Nat) (hlev : lev < 5) : W (evw P orc 171 [.ptr r 0 0, .int .i64 lev] H) fun v H' => v = .int .i64 (kindS T lev s) ∧ Pur H H' := by
 refine W_of (fun _ => run171 10) ?_
 have hr := hx.rd
 unfold Rd at hr
 obtain ⟨l, i, cap, ro, els, rfl, h2, h3⟩ := hx.lv.resolve_left hlv
 obtain ⟨all, hall⟩ : ∃ all, lvls[lev]? = some all := ⟨lvls[lev]'(by simpa [lvls] using hlev), by simp [lvls]⟩
 have hrow : lvRows[lev]? = some (all.map fun p => [AV.str p.1, .int .i64 p.2]) := by
  have : lvRows = lvls.map fun row => row.map fun p => [AV.str p.1, .int .i64 p.2] := rfl
  rw [this, List.getElem?_map, hall]; rfl
 obtain ⟨l', i', cap', ro', els', e1, e2, e3⟩ := h3 lev _ hrow
 have hle : all.length ≤ 1000 := by
  have : ∀ a ∈ lvls, a.length ≤ 1000 := by decide
  exact this all (List.mem_of_getElem? hall)
 have h0 : (0 : Int) ≤ (lev : Int) := by omega
 have h5 : (lev : Int) < ((5 : Nat) : Int) := by omega
 have ht : ((lev : Int)).toNat = lev := by omega
 simp only [List.length_map] at e1
 simp -implicitDefEqProofs (disch := first | assumption | omega | (simp only [nxB]; omega) | (simp only [oneB])) only [s171_j0, s171_b1, s171, xlen, AV.cells, splice, aload, astore, Nat.reduceAdd, Nat.reduceLeDiff, reduceIte, allB, hr, h2, ht, e1]
 refine (kind_loop hx e2 10 all hle (fun j p hj => e3 j _ (by rw [List.getElem?_map, hj]; rfl)) all [] rfl 10 H (by
  have : ∀ a ∈ lvls, a.length < 10 := by decide
  exact this all (List.mem_of_getElem? hall)) (.refl _)).mono ?_
 rintro v H' ⟨rfl, q⟩
 exact ⟨by simp [kindS, hall], q⟩
theorem of_wants {r : Nat} {T : List Tok} {tv lv : AV} {H0 : AHeap} {s0 : St} (hx0 : Rx H0 r T tv lv s0) {b t : Nat} (hb : H0.next ≤ b) (ht : H0.next ≤ t) {x : Bs} {k n q : Int} (d : Nat) (hd : d ≤ 1000) (N : Nat) :
  ∀ (j i : Nat), i + j = d → ∀ (m : Nat) (H : AHeap) (s : St), j < m → Mt r H0 H → Rd H r tv lv s → H.get b = some (.row false 2 [[.str [], .int .i64 0]]) → H.get t = some (.row false 4 [[.int .i64 k, .str x, .int .i64 n, .int .i64 q]]) →
   W (s101_l2 (evw P orc) N m (.ptr r 0 0) (.ptr b 0 0) (.int .i64 d) (.ptr t 0 0) (.int .i64 d) (.int .i64 i) H) fun v H' => v = .agg [.str x, .int .i64 d] ∧ Mt r H0 H' ∧ Rx H' r T tv lv (wantN T [93] j s)
 | 0, i, hi, 0, H, s, hm, mt, hd', hgb, hgt => by omega
 | 0, i, hi, m + 1, H, s, hm, mt, hd', hgb, hgt => by
  have h1 : ¬ ((i : Int) < (d : Int)) := by omega
  have hlb := AHeap.get_lt hgb
  simp -implicitDefEqProofs (disch := first | assumption | omega | (simp only [nxB]; omega) | (simp only [oneB])) only [s101_l2, s101_j1, s101_b2, s101_22, s101_23, s101_24, s101_25, s101_26, s101_27, s101_28, s101_29, s101_30, s101_31, s101_32, s101_33, s101_34, s101_35, s101_j0, s101_51, s101_52, s101_b3, s101_53, s101, xlen, AV.cells, splice, aload, astore, Nat.reduceAdd, Nat.reduceLeDiff, reduceIte, allB, h1, decide_false, hgb, hgt]
  exact W_some.2 ⟨rfl, mt.then_set (.inr hb) _, hx0.mut (mt.then_set (.inr hb) _) (by
   have := hx0.rd.lt
   unfold Rd at hd' ⊢; rw [AHeap.get_set_other (by omega)]; exact hd')⟩
 | j + 1, i, hi, 0, H, s, hm, mt, hd', hgb, hgt => by omega
 | j + 1, i, hi, m + 1, H, s, hm, mt, hd', hgb, hgt => by
  have h1 : ((i : Int) < (d : Int)) := by omega
  have hlr := hx0.rd.lt
  simp -implicitDefEqProofs (disch := first | assumption | omega | (simp only [nxB]; omega) | (simp only [oneB])) only [s101_l2, s101_j1, s101_b2, s101_22, s101_23, s101_24, s101_25, s101_26, s101_27, s101_28, s101_29, s101_30, s101_31, s101_32, s101_33, s101_34, s101_35, s101_j0, s101_51, s101_52, s101_b3, s101_53, s101, xlen, AV.cells, splice, aload, astore, Nat.reduceAdd, Nat.reduceLeDiff, reduceIte, allB, h1, decide_true]
  refine W_call (wants_spec (hx0.mut mt hd') [93]) ?_
  rintro _ H2 ⟨rfl, m2, hx2⟩
  refine ⟨m2.1, ?_⟩
  have hw : IntKind.i64.wrap ((i : Int) + 1) = ((i + 1 : Nat) : Int) := by rw [wrap_i64 (by omega) (by omega)]; simp
  simp -implicitDefEqProofs (disch := first | assumption | omega | (simp only [nxB]; omega) | (simp only [oneB])) only [s101_j1, s101_b2, s101_22, s101_23, s101_24, s101_25, s101_26, s101_27, s101_28, s101_29, s101_30, s101_31, s101_32, s101_33, s101_34, s101_35, s101_j0, s101_51, s101_52, s101_b3, s101_53, s101, xlen, AV.cells, splice, aload, astore, Nat.reduceAdd, Nat.reduceLeDiff, reduceIte, allB, hw]
  refine (of_wants hx0 hb ht d hd N j (i + 1) (by omega) m H2 _ (by omega) (mt.trans m2) hx2.rd (m2.get hgb (by omega)) (m2.get hgt (by omega))).mono ?_
  rintro v H' ⟨rfl, q1, q2⟩
  exact ⟨rfl, q1, q2⟩
theorem of_mid {r : Nat} {T : List Tok} {tv lv : AV} {H0 : AHeap} {s0 : St} (hx0 : Rx H0 r T tv lv s0) {b t : Nat} (hb : H0.next ≤ b) (ht : H0.next ≤ t) (hbt : b ≠ t) (d : Nat) (hd : d ≤ 1000) (N : Nat) (hN : d < N) {H : AHeap} {s : St} (mt : Mt r H0 H) (hrd : Rd H r tv lv s) (hgb : H.get b = some (.row false 2 [[.str [], .int .i64 0]]))
  (hgt : H.get t = some (.row false 4 [[.int .i64 (tokAt T s.at_).kind, .str (tokAt T s.at_).text, .int .i64 (tokAt T s.at_).n, .int .i64 (tokAt T s.at_).pos]])) {c : Bool}
  (hc : ((tokAt T s.at_).kind != 1 && (!isB T s 3 [105, 110, 116] && !isB T s 3 [98, 111, 111, 108])) = c) :
  W (s101_22 (evw P orc) N H (.ptr r 0 0) (.ptr b 0 0) (.int .i64 d) (.ptr t 0 0) (.bool c)) fun v H' => v = .agg [.str (ofE T d s).1.1, .int .i64 (ofE T d s).1.2] ∧ Mt r H0 H' ∧ Rx H' r T tv lv (ofE T d s).2 := by
 have hlr := hx0.rd.lt
 have hlb := AHeap.get_lt hgb
 have hlt := AHeap.get_lt hgt
 have hle := mt.1
 have hx := hx0.mut mt hrd
 cases c with
 | true =>
  rw [show ofE T d s = (([], 0), failS T 2 s) by simp only [ofE, hc, cond_true]]
  simp -implicitDefEqProofs (disch := first | assumption | omega | (simp only [nxB]; omega) | (simp only [oneB])) only [s101_j1, s101_b2, s101_22, s101_23, s101_24, s101_25, s101_26, s101_27, s101_28, s101_29, s101_30, s101_31, s101_32, s101_33, s101_34, s101_35, s101_j0, s101_51, s101_52, s101_b3, s101_53, s101, xlen, AV.cells, splice, aload, astore, Nat.reduceAdd, Nat.reduceLeDiff, reduceIte, allB]
  refine W_call (fail_spec hx 2) ?_
  rintro _ H1 ⟨rfl, m1, hx1⟩
  refine ⟨m1.1, ?_⟩
  have hgb1 := m1.get hgb (by omega)
  have hlb1 := AHeap.get_lt hgb1
  simp -implicitDefEqProofs (disch := first | assumption | omega | (simp only [nxB]; omega) | (simp only [oneB])) only [s101_j1, s101_b2, s101_22, s101_23, s101_24, s101_25, s101_26, s101_27, s101_28, s101_29, s101_30, s101_31, s101_32, s101_33, s101_34, s101_35, s101_j0, s101_51, s101_52, s101_b3, s101_53, s101, xlen, AV.cells, splice, aload, astore, Nat.reduceAdd, Nat.reduceLeDiff, reduceIte, allB, hgb1]
  have m2 := (mt.trans m1).then_set (.inr hb) (.row false 2 [[.str [], .int .i64 0]])
  refine W_some.2 ⟨rfl, m2, hx0.mut m2 ?_⟩
  have := hx1.rd
  unfold Rd at this ⊢
  rw [AHeap.get_set_other (by omega)]; exact this
 | false =>
  rw [show ofE T d s = (((tokAt T s.at_).text, (d : Int)), wantN T [93] d (goS s)) by simp [ofE, hc]]
  have ho1 := hx.tk.one
  have ho2 := hx.lv.one
  have hrd' := hrd
  unfold Rd at hrd'
  simp -implicitDefEqProofs (disch := first | assumption | omega | (simp only [nxB]; omega) | (simp only [oneB])) only [s101_j1, s101_b2, s101_22, s101_23, s101_24, s101_25, s101_26, s101_27, s101_28, s101_29, s101_30, s101_31, s101_32, s101_33, s101_34, s101_35, s101_j0, s101_51, s101_52, s101_b3, s101_53, s101, xlen, AV.cells, splice, aload, astore, Nat.reduceAdd, Nat.reduceLeDiff, reduceIte, allB, hrd', ho1, ho2]
  obtain ⟨m1, hd1⟩ := fail_set hrd (goS s)
  exact of_wants hx0 hb ht d hd N d 0 (by omega) N _ _ hN (mt.trans m1) hd1 (m1.get hgb (by omega)) (m1.get hgt (by omega))
theorem of_end {r : Nat} {T : List Tok} {tv lv : AV} {H0 : AHeap} {s0 : St} (hx0 : Rx H0 r T tv lv s0) {b : Nat} (hb : H0.next ≤ b) (d : Nat) (hd : d ≤ 1000) (N : Nat) (hN : d < N) {H : AHeap} {s : St} (mt : Mt r H0 H) (hrd : Rd H r tv lv s) (hgb : H.get b = some (.row false 2 [[.str [], .int .i64 0]])) :
  W (s101_j0 (evw P orc) N (.ptr r 0 0) (.ptr b 0 0) (.int .i64 d) H) fun v H' => v = .agg [.str (ofE T d s).1.1, .int .i64 (ofE T d s).1.2] ∧ Mt r H0 H' ∧ Rx H' r T tv lv (ofE T d s).2 := by
 have hlr := hx0.rd.lt
 have hlb := AHeap.get_lt hgb
 have hle := mt.1
 rw [s101_j0]
 refine W_call (tok_spec hrd (hx0.mut mt hrd).tk) ?_
 rintro _ H1 ⟨rfl, p1⟩
 refine ⟨p1.1, ?_⟩
 have h1n := p1.1
 have p2 := p1.then_push (.row false 4 [[.int .i64 (tokAt T s.at_).kind, .str (tokAt T s.at_).text, .int .i64 (tokAt T s.at_).n, .int .i64 (tokAt T s.at_).pos]])
 have hgt := AHeap.get_push_same H1 (.row false 4 [[.int .i64 (tokAt T s.at_).kind, .str (tokAt T s.at_).text, .int .i64 (tokAt T s.at_).n, .int .i64 (tokAt T s.at_).pos]])
 have hx := hx0.mut mt hrd
 by_cases hk : (tokAt T s.at_).kind = 1
 ·have hk' : ((tokAt T s.at_).kind != 1) = false := by simpa using hk
  simp -implicitDefEqProofs (disch := first | assumption | omega | (simp only [nxB]; omega) | (simp only [oneB])) only [Tok.v, xlen, AV.cells, splice, aload, astore, Nat.reduceAdd, Nat.reduceLeDiff, reduceIte, allB, hk', s101_23, s101_24, s101_25, s101_26, s101_27, s101_28, s101_29, s101_30, s101_31, s101_32, s101_33, s101_34, s101_35]
  exact of_mid hx0 hb (by omega) (by omega) d hd N hN (mt.trans (p2.mut _)) (hrd.pur p2) (p2.get hgb) hgt (by simp [hk])
 ·have hk' : ((tokAt T s.at_).kind != 1) = true := by simpa using hk
  simp -implicitDefEqProofs (disch := first | assumption | omega | (simp only [nxB]; omega) | (simp only [oneB])) only [Tok.v, xlen, AV.cells, splice, aload, astore, Nat.reduceAdd, Nat.reduceLeDiff, reduceIte, allB, hk', s101_23, s101_24, s101_25, s101_26, s101_27, s101_28, s101_29, s101_30, s101_31, s101_32, s101_33, s101_34, s101_35]
  refine W_eff (is_spec (hrd.pur p2) (hx.tk.pur p2) 3 _) ?_
  rintro _ H2 ⟨rfl, p3⟩
  refine ⟨p3.1, ?_⟩
  have p4 := p2.trans p3
  have hn3 := p3.1
  cases hi : isB T s 3 [105, 110, 116] with
  | true =>
   simp -implicitDefEqProofs (disch := first | assumption | omega | (simp only [nxB]; omega) | (simp only [oneB])) only [xlen, AV.cells, splice, aload, astore, Nat.reduceAdd, Nat.reduceLeDiff, reduceIte, allB, s101_23, s101_24, s101_25, s101_26, s101_27, s101_28, s101_29, s101_30, s101_31, s101_32, s101_33, s101_34, s101_35, Bool.not_true]
   exact of_mid hx0 hb (by omega) (by omega) d hd N hN (mt.trans (p4.mut _)) (hrd.pur p4) (p4.get hgb) (p3.get hgt) (by simp [hi])
  | false =>
   simp -implicitDefEqProofs (disch := first | assumption | omega | (simp only [nxB]; omega) | (simp only [oneB])) only [xlen, AV.cells, splice, aload, astore, Nat.reduceAdd, Nat.reduceLeDiff, reduceIte, allB, s101_23, s101_24, s101_25, s101_26, s101_27, s101_28, s101_29, s101_30, s101_31, s101_32, s101_33, s101_34, s101_35, Bool.not_false]
   refine W_eff (is_spec (hrd.pur p4) (hx.tk.pur p4) 3 _) ?_
   rintro _ H3 ⟨rfl, p5⟩
   refine ⟨p5.1, ?_⟩
   have p6 := p4.trans p5
   simp -implicitDefEqProofs (disch := first | assumption | omega | (simp only [nxB]; omega) | (simp only [oneB])) only [xlen, AV.cells, splice, aload, astore, Nat.reduceAdd, Nat.reduceLeDiff, reduceIte, allB, s101_23, s101_24, s101_25, s101_26, s101_27, s101_28, s101_29, s101_30, s101_31, s101_32, s101_33, s101_34, s101_35]
   exact of_mid hx0 hb (by omega) (by omega) d hd N hN (mt.trans (p6.mut _)) (hrd.pur p6) (p6.get hgb) ((p3.trans p5).get hgt) (by simp [hi, hk])
theorem of_loop {r : Nat} {T : List Tok} {tv lv : AV} {H0 : AHeap} {s0 : St} (hx0 : Rx H0 r T tv lv s0) {b : Nat} (hb : H0.next ≤ b) (N : Nat) (hN : 3 < N) :
  ∀ (n d : Nat), n + d = 3 → ∀ (m : Nat) (H : AHeap) (s : St), n < m → Mt r H0 H → Rd H r tv lv s → H.get b = some (.row false 2 [[.str [], .int .i64 0]]) →
   W (s101_l3 (evw P orc) N m (.ptr r 0 0) (.ptr b 0 0) (.int .i64 d) H) fun v H' => ∃ p : (Bs × Int) × St, p = (match ofL T n d s with | .inr s' => (([], 0), s') | .inl (d, s') => ofE T d s') ∧ v = .agg [.str p.1.1, .int .i64 p.1.2] ∧ Mt r H0 H' ∧ Rx H' r T tv lv p.2 := by
 intro n
 induction n with
 | zero =>
  intro d hd m H s hm mt hrd hgb
  obtain ⟨m, rfl⟩ : ∃ k, m = k + 1 := ⟨m - 1, by omega⟩
  have hd3 : d = 3 := by omega
  subst hd3
  have hx := hx0.mut mt hrd
  have hlr := hx0.rd.lt
  have hlb := AHeap.get_lt hgb
  simp only [s101_l3]
  rw [s101_b3]
  refine W_call (is_spec hrd hx.tk 4 [91]) ?_
  rintro _ H1 ⟨rfl, p1⟩
  refine ⟨p1.1, ?_⟩
  have hgb1 := p1.get hgb
  cases hi : isB T s 4 [91] with
  | true =>
   simp -implicitDefEqProofs (disch := first | assumption | omega | (simp only [nxB]; omega) | (simp only [oneB])) only [s101_j1, s101_b2, s101_22, s101_23, s101_24, s101_25, s101_26, s101_27, s101_28, s101_29, s101_30, s101_31, s101_32, s101_33, s101_34, s101_35, s101_j0, s101_51, s101_52, s101_b3, s101_53, s101, xlen, AV.cells, splice, aload, astore, Nat.reduceAdd, Nat.reduceLeDiff, reduceIte, allB, beq_self_eq_true, Int.cast_ofNat_Int]
   refine W_call (fail_spec (hx.pur p1) 4) ?_
   rintro _ H2 ⟨rfl, m2, hx2⟩
   refine ⟨m2.1, ?_⟩
   have hgb2 := m2.get hgb1 (by omega)
   have hlb2 := AHeap.get_lt hgb2
   simp -implicitDefEqProofs (disch := first | assumption | omega | (simp only [nxB]; omega) | (simp only [oneB])) only [s101_j1, s101_b2, s101_22, s101_23, s101_24, s101_25, s101_26, s101_27, s101_28, s101_29, s101_30, s101_31, s101_32, s101_33, s101_34, s101_35, s101_j0, s101_51, s101_52, s101_b3, s101_53, s101, xlen, AV.cells, splice, aload, astore, Nat.reduceAdd, Nat.reduceLeDiff, reduceIte, allB, hgb2]
   have m3 := ((mt.trans (p1.mut _)).trans m2).then_set (.inr hb) (.row false 2 [[.str [], .int .i64 0]])
   refine W_some.2 ⟨(([], 0), failS T 4 s), by simp [ofL, hi], rfl, m3, hx0.mut m3 ?_⟩
   have := hx2.rd
   unfold Rd at this ⊢
   rw [AHeap.get_set_other (by omega)]; exact this
  | false =>
   simp -implicitDefEqProofs (disch := first | assumption | omega | (simp only [nxB]; omega) | (simp only [oneB])) only [s101_52, s101_51, xlen, AV.cells, splice, aload, astore, Nat.reduceAdd, Nat.reduceLeDiff, reduceIte, allB]
   refine (of_end hx0 hb 3 (by omega) N hN (mt.trans (p1.mut _)) (hrd.pur p1) hgb1).mono ?_
   rintro v H' ⟨rfl, q1, q2⟩
   exact ⟨ofE T 3 s, by simp [ofL, hi], rfl, q1, q2⟩
 | succ n ih =>
  intro d hd m H s hm mt hrd hgb
  obtain ⟨m, rfl⟩ : ∃ k, m = k + 1 := ⟨m - 1, by omega⟩
  have hx := hx0.mut mt hrd
  have hlr := hx0.rd.lt
  have hlb := AHeap.get_lt hgb
  have ho1 := hx.tk.one
  have ho2 := hx.lv.one
  simp only [s101_l3]
  rw [s101_b3]
  refine W_call (is_spec hrd hx.tk 4 [91]) ?_
  rintro _ H1 ⟨rfl, p1⟩
  refine ⟨p1.1, ?_⟩
  have hgb1 := p1.get hgb
  have hrd1 := hrd.pur p1
  have hrd1' := hrd1
  unfold Rd at hrd1'
  cases hi : isB T s 4 [91] with
  | true =>
   have h3 : ((d : Int) == 3) = false := by simp; omega
   have hw : IntKind.i64.wrap ((d : Int) + 1) = ((d + 1 : Nat) : Int) := by rw [wrap_i64 (by omega) (by omega)]; simp
   obtain ⟨m2, hd2⟩ := fail_set hrd1 (goS s)
   simp -implicitDefEqProofs (disch := first | assumption | omega | (simp only [nxB]; omega) | (simp only [oneB])) only [s101_j1, s101_b2, s101_22, s101_23, s101_24, s101_25, s101_26, s101_27, s101_28, s101_29, s101_30, s101_31, s101_32, s101_33, s101_34, s101_35, s101_j0, s101_51, s101_52, s101_b3, s101_53, s101, xlen, AV.cells, splice, aload, astore, Nat.reduceAdd, Nat.reduceLeDiff, reduceIte, allB, h3, hw, hrd1', ho1, ho2]
   refine (ih (d + 1) (by omega) m _ _ (by omega) ((mt.trans (p1.mut _)).trans m2) hd2 (m2.get hgb1 (by omega))).mono ?_
   rintro v H' ⟨p, hp, rfl, q1, q2⟩
   exact ⟨p, by rw [hp]; simp [ofL, hi], rfl, q1, q2⟩
  | false =>
   simp -implicitDefEqProofs (disch := first | assumption | omega | (simp only [nxB]; omega) | (simp only [oneB])) only [s101_52, s101_51, xlen, AV.cells, splice, aload, astore, Nat.reduceAdd, Nat.reduceLeDiff, reduceIte, allB]
   refine (of_end hx0 hb d (by omega) N (by omega) (mt.trans (p1.mut _)) (hrd.pur p1) hgb1).mono ?_
   rintro v H' ⟨rfl, q1, q2⟩
   exact ⟨ofE T d s, by simp [ofL, hi], rfl, q1, q2⟩
theorem of_spec {H : AHeap} {r : Nat} {T : List Tok} {tv lv : AV} {s : St} (hx : Rx H r T tv lv s) : W (evw P orc 101 [.ptr r 0 0] H) fun v H' => v = .agg [.str (ofS T s).1.1, .int .i64 (ofS T s).1.2] ∧ Mt r H H' ∧ Rx H' r T tv lv (ofS T s).2 := by
 refine W_of (fun _ => run101 10) ?_
 simp only [s101, xalloc, s101_53]
 have p := Pur.push H (.row false 2 [[.str [], .int .i64 0]])
 refine (of_loop hx (Nat.le_refl _) 10 (by omega) 3 0 rfl 10 _ s (by omega) (p.mut _) (hx.rd.pur p) (AHeap.get_push_same _ _)).mono ?_
 rintro v H' ⟨q, hq, rfl, q1, q2⟩
 have : q = ofS T s := by rw [hq]; rfl
 subst this
 exact ⟨rfl, q1, q2⟩
end Go.Proofs.YtghmbpmaafnodaaGreatDoor

namespace Go.Proofs.YtghmbpmaafnodaaGreatDoor
open Go.Ev
theorem sl35_1 (l : Nat) (cs : List AV) (h : cs.length = 11) (ho : cs.all AV.one = true) : sliceOf P l 96 1 [(0, .agg cs)] = some (.sl l 0 1 11 (some 1), .row false 11 [cs]) := by
 have : sliceOf P l 96 1 [(0, .agg cs)] = (asetEls 11 (List.replicate 1 [.int .i64 0, .int .i64 0, .str [], .str [], .int .i64 0, .nilSl, .int .i64 0, .int .i64 0, .int .i64 0, .int .i64 0, .int .i64 0]) [(0, .agg cs)]).bind fun els => some (.sl l 0 1 11 (some 1), .row false 11 els) := by kernel_rfl
 rw [this]
 simp [asetEls, AV.cells, h, ho]
theorem sl35_2 (l : Nat) (cs ds : List AV) (h : cs.length = 11) (ho : cs.all AV.one = true) (h' : ds.length = 11) (ho' : ds.all AV.one = true) : sliceOf P l 96 2 [(0, .agg cs), (1, .agg ds)] = some (.sl l 0 2 11 (some 2), .row false 11 [cs, ds]) := by
 have : sliceOf P l 96 2 [(0, .agg cs), (1, .agg ds)] = (asetEls 11 (List.replicate 2 [.int .i64 0, .int .i64 0, .str [], .str [], .int .i64 0, .nilSl, .int .i64 0, .int .i64 0, .int .i64 0, .int .i64 0, .int .i64 0]) [(0, .agg cs), (1, .agg ds)]).bind fun els => some (.sl l 0 2 11 (some 2), .row false 11 els) := by kernel_rfl
 rw [this]
 have hr : List.replicate 2 [AV.int .i64 0, .int .i64 0, .str [], .str [], .int .i64 0, .nilSl, .int .i64 0, .int .i64 0, .int .i64 0, .int .i64 0, .int .i64 0] = [[AV.int .i64 0, .int .i64 0, .str [], .str [], .int .i64 0, .nilSl, .int .i64 0, .int .i64 0, .int .i64 0, .int .i64 0, .int .i64 0], [AV.int .i64 0, .int .i64 0, .str [], .str [], .int .i64 0, .nilSl, .int .i64 0, .int .i64 0, .int .i64 0, .int .i64 0, .int .i64 0]] := rfl
 rw [hr]
 simp [asetEls, AV.cells, h, ho, h', ho']
theorem Keep.push {H : AHeap} {ok ok' : Nat → Prop} (b : ABlk) (hl : ∀ l, ok l → ok' l) : Keep H ok (H.push b) ok' := Keep.pur (Pur.push H b) hl
theorem Keep.set {H : AHeap} {ok ok' : Nat → Prop} {l : Nat} (b : ABlk) (h : ¬ ok l) (hl : ∀ l, ok l → ok' l) : Keep H ok (H.set l b) ok' := fun j ro els hj e => ⟨hl j hj, by rw [AHeap.get_set_other (by rintro rfl; exact h hj)]; exact e⟩
theorem Keep.le' {H : AHeap} {ok ok' : Nat → Prop} (h : ∀ l, ok l → ok' l) : Keep H ok H ok' := fun l ro els hl e => ⟨h l hl, e⟩
theorem ExV.cells {H : AHeap} {ok : Nat → Prop} {e : Ex} {v : AV} (h : ExV H ok e v) : ∃ cs, v = .agg cs ∧ cs.length = 11 ∧ cs.all AV.one = true := by
 obtain ⟨k, n, nm, o, d, kv, p, t1, t2, t3, rf, rfl, h1⟩ := h.agg
 exact ⟨_, rfl, rfl, by simp only [List.all_cons, List.all_nil, one_int, one_str, h1, Bool.and_self]⟩
theorem ExV.same {H : AHeap} {ok : Nat → Prop} {e : Ex} {v : AV} (h : ExV H ok e v) : rdIs (some v) v = true := by
 cases e with | mk a ks =>
 rw [ExV_mk] at h
 obtain ⟨kv, rfl, h2⟩ := h
 have : AV.beq kv kv = true := by rcases h2 with ⟨rfl, _⟩ | ⟨l, i, cap, ro, els, rfl, _⟩ | ⟨l, i, cap, rfl, _⟩ <;> simp [AV.beq]
 simp [rdIs, AV.beq, AVs.beq, Ea.cells, this]
def PostL (ok : Nat → Prop) (H : AHeap) (r : Nat) (T : List Tok) (tv lv : AV) (e : Ex) (s' : St) (v : AV) (H' : AHeap) : Prop := Mt r H H' ∧ Rx H' r T tv lv s' ∧ ExV H' ok e v
abbrev PostE (H : AHeap) := PostL (Ge H.next) H
theorem PostE.box {H Hc : AHeap} {r : Nat} {T : List Tok} {tv lv : AV} {s s' : St} {a : Ea} {ks : List Ex} {kv : AV} {b : Nat} {lo : Nat} (hx : Rx H r T tv lv s) (m : Mt r H Hc) (hd : Rd Hc r tv lv s') (hb : H.next ≤ b) (hlo : b < lo) (hk : KsV Hc (Ge lo) ks kv) (blk : ABlk) :
  PostE H r T tv lv (.mk a ks) s' (.agg (a.cells kv)) (Hc.set b blk) := by
 have hl := hx.rd.lt
 have m' := m.then_set (.inr hb) blk
 refine ⟨m', hx.mut m' ?_, ?_⟩
 ·unfold Rd at hd ⊢
  rw [AHeap.get_set_other (by omega)]; exact hd
 ·rw [ExV_mk]
  exact ⟨kv, rfl, hk.keep (Keep.set _ (by unfold Ge; omega) fun l hl => by unfold Ge at *; omega)⟩
theorem KsV.nil (H : AHeap) (ok : Nat → Prop) : KsV H ok [] .nilSl := .inl ⟨rfl, rfl⟩
theorem truth_spec {H : AHeap} {r : Nat} {T : List Tok} {tv lv : AV} {s : St} (hx : Rx H r T tv lv s) : W (evw P orc 188 [.ptr r 0 0] H) (PostE H r T tv lv (truthS T s).1 (truthS T s).2) := by
 refine W_of (fun _ => run188 0) ?_
 have hl := hx.rd.lt
 have ho1 := hx.tk.one
 have ho2 := hx.lv.one
 simp -implicitDefEqProofs (disch := first | assumption | omega | (simp only [nxB]; omega) | (simp only [oneB])) only [s188_j0, s188, xlen, AV.cells, splice, aload, astore, Nat.reduceAdd, Nat.reduceLeDiff, reduceIte, allB]
 refine W_call (tok_spec (hx.rd.pur (Pur.push _ _)) (hx.tk.pur (Pur.push _ _))) ?_
 rintro _ H2 ⟨rfl, p2⟩
 refine ⟨p2.1, ?_⟩
 have hn2 := p2.1
 simp only [AHeap.next_push] at hn2
 have mb := ((Pur.push H _).trans p2).mut (· = r)
 have hr2 := hx.rd.pur ((Pur.push H _).trans p2)
 unfold Rd at hr2
 have hb2 := p2.get (AHeap.get_push_same H _)
 cases ht : (tokAt T s.at_).text == [116, 114, 117, 101] with
 | true =>
  simp -implicitDefEqProofs (disch := first | assumption | omega | (simp only [nxB]; omega) | (simp only [oneB])) only [s188_j0, s188, xlen, AV.cells, splice, aload, astore, Nat.reduceAdd, Nat.reduceLeDiff, reduceIte, allB, Tok.v, hr2, hb2, ho1, ho2, ht]
  simp only [truthS, ht, cond_true]
  refine W_some.2 ?_
  refine PostE.box (a := { kind := 2, n := 1, pos := (tokAt T s.at_).pos }) (kv := .nilSl) (s' := goS s) (lo := H.next + 1) hx ?_ ?_ ?_ ?_ (KsV.nil _ _) _
  ·(repeat (first | exact mb | refine Mut.then_push ?_ _ | refine Mut.then_set (S := (· = r)) ?_ (.inl rfl) _ | refine Mut.then_set ?_ (.inr (by (first | omega | (simp only [AHeap.next_push, AHeap.next_set]; omega)))) _))
  ·(unfold Rd; simp -implicitDefEqProofs (disch := first | assumption | omega | (simp only [nxB]; omega) | (simp only [oneB])) only [heapB, hr2, goS, outS])
  ·exact Nat.le_refl _
  ·exact Nat.lt_succ_self _
 | false =>
  simp -implicitDefEqProofs (disch := first | assumption | omega | (simp only [nxB]; omega) | (simp only [oneB])) only [s188_j0, s188, xlen, AV.cells, splice, aload, astore, Nat.reduceAdd, Nat.reduceLeDiff, reduceIte, allB, Tok.v, hr2, hb2, ho1, ho2, ht]
  simp only [truthS, ht, cond_false]
  refine W_some.2 ?_
  refine PostE.box (a := { kind := 2, n := 0, pos := (tokAt T s.at_).pos }) (kv := .nilSl) (s' := goS s) (lo := H.next + 1) hx ?_ ?_ ?_ ?_ (KsV.nil _ _) _
  ·(repeat (first | exact mb | refine Mut.then_push ?_ _ | refine Mut.then_set (S := (· = r)) ?_ (.inl rfl) _ | refine Mut.then_set ?_ (.inr (by (first | omega | (simp only [AHeap.next_push, AHeap.next_set]; omega)))) _))
  ·(unfold Rd; simp -implicitDefEqProofs (disch := first | assumption | omega | (simp only [nxB]; omega) | (simp only [oneB])) only [heapB, hr2, goS, outS])
  ·exact Nat.le_refl _
  ·exact Nat.lt_succ_self _
theorem null_spec {H : AHeap} {r : Nat} {T : List Tok} {tv lv : AV} {s : St} (hx : Rx H r T tv lv s) : W (evw P orc 189 [.ptr r 0 0] H) (PostE H r T tv lv (nullS T s).1 (nullS T s).2) := by
 refine W_of (fun _ => run189 0) ?_
 have hl := hx.rd.lt
 have ho1 := hx.tk.one
 have ho2 := hx.lv.one
 simp -implicitDefEqProofs (disch := first | assumption | omega | (simp only [nxB]; omega) | (simp only [oneB])) only [s189, xlen, AV.cells, splice, aload, astore, Nat.reduceAdd, Nat.reduceLeDiff, reduceIte, allB]
 refine W_call (tok_spec (hx.rd.pur (Pur.push _ _)) (hx.tk.pur (Pur.push _ _))) ?_
 rintro _ H2 ⟨rfl, p2⟩
 refine ⟨p2.1, ?_⟩
 have hn2 := p2.1
 simp only [AHeap.next_push] at hn2
 have mb := ((Pur.push H _).trans p2).mut (· = r)
 have hrd2 := hx.rd.pur ((Pur.push H _).trans p2)
 have hr2 := hrd2
 unfold Rd at hr2
 have hb2 := p2.get (AHeap.get_push_same H _)
 obtain ⟨m3, hd3⟩ := fail_set hrd2 (goS s)
 simp -implicitDefEqProofs (disch := first | assumption | omega | (simp only [nxB]; omega) | (simp only [oneB])) only [s189, xlen, AV.cells, splice, aload, astore, Nat.reduceAdd, Nat.reduceLeDiff, reduceIte, allB, Tok.v, hr2, ho1, ho2]
 refine W_call (of_spec (hx.mut (mb.trans m3) hd3)) ?_
 rintro _ H4 ⟨rfl, m4, hx4⟩
 refine ⟨m4.1, ?_⟩
 have hb4 := m4.get (m3.get hb2 (by omega)) (by omega)
 have hl4 := AHeap.get_lt hb4
 replace mb := (mb.trans m3).trans m4
 simp -implicitDefEqProofs (disch := first | assumption | omega | (simp only [nxB]; omega) | (simp only [oneB])) only [s189, xlen, AV.cells, splice, aload, astore, Nat.reduceAdd, Nat.reduceLeDiff, reduceIte, allB, hb4]
 refine W_some.2 ?_
 exact PostE.box (a := { kind := 3, ofn := (ofS T (goS s)).1.1, ofd := (ofS T (goS s)).1.2, pos := (tokAt T s.at_).pos }) (kv := .nilSl) (lo := H.next + 1) hx mb hx4.rd (Nat.le_refl _) (Nat.lt_succ_self _) (KsV.nil _ _) _
theorem read_spec {H : AHeap} {r : Nat} {T : List Tok} {tv lv : AV} {s : St} (hx : Rx H r T tv lv s) : W (evw P orc 192 [.ptr r 0 0] H) (PostE H r T tv lv (readS T s).1 (readS T s).2) := by
 refine W_of (fun _ => run192 0) ?_
 have hl := hx.rd.lt
 have ho1 := hx.tk.one
 have ho2 := hx.lv.one
 simp -implicitDefEqProofs (disch := first | assumption | omega | (simp only [nxB]; omega) | (simp only [oneB])) only [s192_j0, s192, xlen, AV.cells, splice, aload, astore, Nat.reduceAdd, Nat.reduceLeDiff, reduceIte, allB]
 refine W_call (tok_spec (hx.rd.pur (Pur.push _ _)) (hx.tk.pur (Pur.push _ _))) ?_
 rintro _ H2 ⟨rfl, p2⟩
 refine ⟨p2.1, ?_⟩
 have hn2 := p2.1
 simp only [AHeap.next_push] at hn2
 have mb := ((Pur.push H _).trans p2).mut (· = r)
 have hrd2 := hx.rd.pur ((Pur.push H _).trans p2)
 have hr2 := hrd2
 unfold Rd at hr2
 have hb2 := p2.get (AHeap.get_push_same H _)
 obtain ⟨m3, hd3⟩ := fail_set hrd2 (goS s)
 simp -implicitDefEqProofs (disch := first | assumption | omega | (simp only [nxB]; omega) | (simp only [oneB])) only [s192_j0, s192, xlen, AV.cells, splice, aload, astore, Nat.reduceAdd, Nat.reduceLeDiff, reduceIte, allB, Tok.v, hr2, ho1, ho2]
 refine W_call (opens_spec (hx.mut (mb.trans m3) hd3) [40]) ?_
 rintro _ H4 ⟨rfl, m4, hx4⟩
 refine ⟨m4.1, ?_⟩
 have hb4 := m4.get (m3.get hb2 (by omega)) (by omega)
 have hl4 := AHeap.get_lt hb4
 replace mb := (mb.trans m3).trans m4
 cases ho : (opensS T [40] (goS s)).1 with
 | true =>
  rw [show readS T s = (.mk { kind := 11, pos := (tokAt T s.at_).pos } [], (closesS T [41] (opensS T [40] (goS s)).2).2) by simp only [readS, ho, cond_true]]
  simp -implicitDefEqProofs (disch := first | assumption | omega | (simp only [nxB]; omega) | (simp only [oneB])) only [s192_j0, s192, xlen, AV.cells, splice, aload, astore, Nat.reduceAdd, Nat.reduceLeDiff, reduceIte, allB]
  refine W_call (closes_spec hx4 [41]) ?_
  rintro _ H5 ⟨rfl, m5, hx5⟩
  refine ⟨m5.1, ?_⟩
  have hb5 := m5.get hb4 (by omega)
  have hl5 := AHeap.get_lt hb5
  simp -implicitDefEqProofs (disch := first | assumption | omega | (simp only [nxB]; omega) | (simp only [oneB])) only [s192_j0, s192, xlen, AV.cells, splice, aload, astore, Nat.reduceAdd, Nat.reduceLeDiff, reduceIte, allB, hb5]
  refine W_some.2 ?_
  exact PostE.box (a := { kind := 11, pos := (tokAt T s.at_).pos }) (kv := .nilSl) (lo := H.next + 1) hx (mb.trans m5) hx5.rd (Nat.le_refl _) (Nat.lt_succ_self _) (KsV.nil _ _) _
 | false =>
  rw [show readS T s = (.mk { kind := 11, pos := (tokAt T s.at_).pos } [], (opensS T [40] (goS s)).2) by simp only [readS, ho, cond_false]]
  simp -implicitDefEqProofs (disch := first | assumption | omega | (simp only [nxB]; omega) | (simp only [oneB])) only [s192_j0, s192, xlen, AV.cells, splice, aload, astore, Nat.reduceAdd, Nat.reduceLeDiff, reduceIte, allB, hb4]
  refine W_some.2 ?_
  exact PostE.box (a := { kind := 11, pos := (tokAt T s.at_).pos }) (kv := .nilSl) (lo := H.next + 1) hx mb hx4.rd (Nat.le_refl _) (Nat.lt_succ_self _) (KsV.nil _ _) _
end Go.Proofs.YtghmbpmaafnodaaGreatDoor

namespace Go.Proofs.YtghmbpmaafnodaaGreatDoor
open Go.Ev
theorem PostL.fin {ok : Nat → Prop} {H Hf : AHeap} {r : Nat} {T : List Tok} {tv lv : AV} {s s' : St} {a : Ea} {ks : List Ex} {kv : AV} (hx : Rx H r T tv lv s) (m : Mt r H Hf) (hd : Rd Hf r tv lv s') (hk : KsV Hf ok ks kv) : PostL ok H r T tv lv (.mk a ks) s' (.agg (a.cells kv)) Hf :=
 ⟨m, hx.mut m hd, ExV_mk.2 ⟨kv, rfl, hk⟩⟩
theorem KsV.one_at {H : AHeap} {ok : Nat → Prop} {L : Nat} {e : Ex} {cs : List AV} {cap : Option Nat} {ro : Bool} (hg : H.get L = some (.row ro 11 [cs])) (hl : ok L) (h : ExV H ok e (.agg cs)) : KsV H ok [e] (.sl L 0 1 11 cap) := by
 refine .inr (.inl ⟨L, 0, cap, ro, [cs], rfl, hl, hg, ?_⟩)
 simp only [List.drop_zero]
 rw [ElsV, ElsV]
 exact ⟨h, trivial⟩
theorem KsV.two_at {H : AHeap} {ok : Nat → Prop} {L : Nat} {e f : Ex} {cs ds : List AV} {cap : Option Nat} {ro : Bool} (hg : H.get L = some (.row ro 11 [cs, ds])) (hl : ok L) (h : ExV H ok e (.agg cs)) (h' : ExV H ok f (.agg ds)) : KsV H ok [e, f] (.sl L 0 2 11 cap) := by
 refine .inr (.inl ⟨L, 0, cap, ro, [cs, ds], rfl, hl, hg, ?_⟩)
 simp only [List.drop_zero]
 rw [ElsV, ElsV, ElsV]
 exact ⟨h, h', trivial⟩
theorem ExV.mut {H H' : AHeap} {ok ok' : Nat → Prop} {r : Nat} {e : Ex} {v : AV} (h : ExV H ok e v) (m : Mt r H H') (hr : ¬ ok r) (hl : ∀ l, ok l → ok' l) : ExV H' ok' e v := ExV.keep (Keep.mut m hr hl) e v h
theorem ExV.new {H H' : AHeap} {ok : Nat → Prop} {n : Nat} {e : Ex} {v : AV} (h : ExV H (Ge n) e v) (m : Mut (· < n) H H') (hl : ∀ l, n ≤ l → ok l) : ExV H' ok e v :=
 ExV.keep (fun l ro els hl' g => ⟨hl l hl', m.get g (Nat.not_lt.2 hl')⟩) e v h
theorem field_end {ok : Nat → Prop} {H0 H : AHeap} {r : Nat} {T : List Tok} {tv lv : AV} {s0 s : St} {e : Ex} {cs : List AV} (hx0 : Rx H0 r T tv lv s0) (he : ExV H0 ok e (.agg cs)) (hlen : cs.length = 11) (hone : cs.all AV.one = true) (hlo : ¬ ok r) (hlo' : ∀ l, H0.next ≤ l → ok l) {b3 b4 b6 : Nat} {k n q pos : Int} {x : Bs} (mb : Mt r H0 H) (hrd : Rd H r tv lv s)
  (h3 : H.get b3 = some (.row false 11 [cs])) {zs : List AV} (h4 : H.get b4 = some (.row false 11 [zs])) (hz : zs.length = 11) (h6 : H.get b6 = some (.row false 4 [[.int .i64 k, .str x, .int .i64 n, .int .i64 q]])) (hb3 : H0.next ≤ b3) (hb4 : H0.next ≤ b4) (hb6 : H0.next ≤ b6) (h34 : b3 ≠ b4) :
  W (s185_j0 (evw P orc) (.ptr r 0 0) (.ptr b3 0 0) (.ptr b4 0 0) (.int .i64 pos) (.ptr b6 0 0) H) (PostL ok H0 r T tv lv (.mk { kind := 5, name := x, pos := pos } [e]) (goS s)) := by
 have hl := hx0.rd.lt
 have ho1 := hx0.tk.one
 have ho2 := hx0.lv.one
 have hr2 := hrd
 unfold Rd at hr2
 have hlr := hrd.lt
 have l3 := AHeap.get_lt h3
 have l4 := AHeap.get_lt h4
 have l6 := AHeap.get_lt h6
 have hle := mb.1
 have ht : List.take 11 cs = cs := List.take_of_length_le (by omega)
 have hs : ∀ l, sliceOf P l 96 1 [(0, .agg cs)] = some (.sl l 0 1 11 (some 1), .row false 11 [cs]) := fun l => sl35_1 l cs hlen hone
 have hd : List.drop 11 zs = [] := List.drop_of_length_le (by omega)
 simp -implicitDefEqProofs (disch := first | assumption | omega | (simp only [nxB]; omega) | (simp only [oneB])) only [s185_j0, s185, xlen, AV.cells, splice, aload, astore, Nat.reduceAdd, Nat.reduceLeDiff, reduceIte, allB, hr2, ho1, ho2, h3, h4, h6, ht, hs, hd]
 refine W_some.2 ?_
 refine PostL.fin (a := { kind := 5, name := x, pos := pos }) (kv := .sl H.next 0 1 11 (some 1)) hx0 ?_ ?_ (KsV.one_at (ro := false) ?_ (hlo' _ (by omega)) (he.mut (r := r) ?_ hlo fun _ h => h))
 ·(repeat (first | exact mb | refine Mut.then_push ?_ _ | refine Mut.then_set (S := (· = r)) ?_ (.inl rfl) _ | refine Mut.then_set ?_ (.inr (by (first | omega | (simp only [AHeap.next_push, AHeap.next_set]; omega)))) _))
 ·(unfold Rd; simp -implicitDefEqProofs (disch := first | assumption | omega | (simp only [nxB]; omega) | (simp only [oneB])) only [heapB, hr2, goS, outS])
 ·simp -implicitDefEqProofs (disch := first | assumption | omega | (simp only [nxB]; omega) | (simp only [oneB])) only [heapB]
 ·(repeat (first | exact mb | refine Mut.then_push ?_ _ | refine Mut.then_set (S := (· = r)) ?_ (.inl rfl) _ | refine Mut.then_set ?_ (.inr (by (first | omega | (simp only [AHeap.next_push, AHeap.next_set]; omega)))) _))
theorem field_spec {ok : Nat → Prop} {H : AHeap} {r : Nat} {T : List Tok} {tv lv : AV} {s : St} {e : Ex} {v : AV} (hx : Rx H r T tv lv s) (he : ExV H ok e v) (hlo : ¬ ok r) (hlo' : ∀ l, H.next ≤ l → ok l) : W (evw P orc 185 [.ptr r 0 0, v] H) (PostL ok H r T tv lv (fieldS T e s).1 (fieldS T e s).2) := by
 refine W_of (fun _ => run185 0) ?_
 obtain ⟨cs, rfl, hlen, hone⟩ := he.cells
 have hl := hx.rd.lt
 have ho1 := hx.tk.one
 have ho2 := hx.lv.one
 have hbx : ∀ l, boxOf l (.agg cs) = some (.ptr l 0 0, .row false 11 [cs]) := fun l => by rw [boxOf_agg l cs hone, hlen]
 simp -implicitDefEqProofs (disch := first | assumption | omega | (simp only [nxB]; omega) | (simp only [oneB])) only [s185, xlen, AV.cells, splice, aload, astore, Nat.reduceAdd, Nat.reduceLeDiff, reduceIte, allB, hbx]
 have p1 := (Pur.push H (.row false 11 [cs])).then_push (.row false 11 [[.int .i64 0, .int .i64 0, .str [], .str [], .int .i64 0, .nilSl, .int .i64 0, .int .i64 0, .int .i64 0, .int .i64 0, .int .i64 0]])
 refine W_call (tok_spec (hx.rd.pur p1) (hx.tk.pur p1)) ?_
 rintro _ H2 ⟨rfl, p2⟩
 refine ⟨p2.1, ?_⟩
 have hn2 := p2.1
 simp only [AHeap.next_push] at hn2
 have mb := (p1.trans p2).mut (· = r)
 have hrd2 := hx.rd.pur (p1.trans p2)
 have hr2 := hrd2
 unfold Rd at hr2
 have h3 : H2.get H.next = some (.row false 11 [cs]) := by rw [p2.2 _ (by simp only [AHeap.next_push]; omega)]; simp -implicitDefEqProofs (disch := first | assumption | omega | (simp only [nxB]; omega) | (simp only [oneB])) only [heapB]
 have h4 : H2.get (H.next + 1) = some (.row false 11 [[.int .i64 0, .int .i64 0, .str [], .str [], .int .i64 0, .nilSl, .int .i64 0, .int .i64 0, .int .i64 0, .int .i64 0, .int .i64 0]]) := by rw [p2.2 _ (by simp only [AHeap.next_push]; omega)]; simp -implicitDefEqProofs (disch := first | assumption | omega | (simp only [nxB]; omega) | (simp only [oneB])) only [heapB]
 obtain ⟨m3, hd3⟩ := fail_set hrd2 (goS s)
 simp -implicitDefEqProofs (disch := first | assumption | omega | (simp only [nxB]; omega) | (simp only [oneB])) only [s185, xlen, AV.cells, splice, aload, astore, Nat.reduceAdd, Nat.reduceLeDiff, reduceIte, allB, Tok.v, hr2, ho1, ho2]
 have hx3 := hx.mut (mb.trans m3) hd3
 refine W_call (tok_spec hx3.rd hx3.tk) ?_
 rintro _ H4 ⟨rfl, p4⟩
 refine ⟨p4.1, ?_⟩
 have hn4 := p4.1
 simp only [AHeap.next_set] at hn4
 have hx4 := hx3.pur p4
 have mb4 := (mb.trans m3).trans (p4.mut _)
 have h34 := p4.get (m3.get h3 (by omega))
 have h44 := p4.get (m3.get h4 (by omega))
 have p5 := Pur.push H4 (.row false 4 [[.int .i64 (tokAt T (goS s).at_).kind, .str (tokAt T (goS s).at_).text, .int .i64 (tokAt T (goS s).at_).n, .int .i64 (tokAt T (goS s).at_).pos]])
 have h65 := AHeap.get_push_same H4 (.row false 4 [[.int .i64 (tokAt T (goS s).at_).kind, .str (tokAt T (goS s).at_).text, .int .i64 (tokAt T (goS s).at_).n, .int .i64 (tokAt T (goS s).at_).pos]])
 by_cases hk : (tokAt T (goS s).at_).kind = 1
 ·have hk' : ((tokAt T (goS s).at_).kind != 1) = false := by simpa using hk
  rw [show fieldS T e s = (.mk { kind := 5, name := (tokAt T (goS s).at_).text, pos := (tokAt T s.at_).pos } [e], goS (goS s)) by simp only [fieldS, hk', cond_false]]
  simp -implicitDefEqProofs (disch := first | assumption | omega | (simp only [nxB]; omega) | (simp only [oneB])) only [s185, xlen, AV.cells, splice, aload, astore, Nat.reduceAdd, Nat.reduceLeDiff, reduceIte, allB, Tok.v, hk']
  exact field_end hx he hlen hone hlo hlo' (mb4.trans (p5.mut _)) (hx4.rd.pur p5) (p5.get h34) (p5.get h44) rfl h65 (by omega) (by omega) (by omega) (by omega)
 ·have hk' : ((tokAt T (goS s).at_).kind != 1) = true := by simpa using hk
  rw [show fieldS T e s = (.mk { kind := 5, name := (tokAt T (goS s).at_).text, pos := (tokAt T s.at_).pos } [e], goS (failS T 2 (goS s))) by simp only [fieldS, hk', cond_true]]
  simp -implicitDefEqProofs (disch := first | assumption | omega | (simp only [nxB]; omega) | (simp only [oneB])) only [s185, xlen, AV.cells, splice, aload, astore, Nat.reduceAdd, Nat.reduceLeDiff, reduceIte, allB, Tok.v, hk']
  refine W_call (fail_spec (hx4.pur p5) 2) ?_
  rintro _ H6 ⟨rfl, m6, hx6⟩
  refine ⟨m6.1, ?_⟩
  try simp only [s185]
  exact field_end hx he hlen hone hlo hlo' ((mb4.trans (p5.mut _)).trans m6) hx6.rd (m6.get (p5.get h34) (by omega)) (m6.get (p5.get h44) (by omega)) rfl (m6.get h65 (by omega)) (by omega) (by omega) (by omega) (by omega)
def RowOk (n : Nat) : Prop := ∀ {H : AHeap} {r : Nat} {T : List Tok} {tv lv : AV} {s : St}, Rx H r T tv lv s → lv ≠ .nilSl → ∀ (lev : Nat), lev ≤ 5 → ∀ (e : Ex) (s' : St), rowF T n lev s = some (e, s') → W (evw P orc 165 [.ptr r 0 0, .int .i64 lev] H) (PostE H r T tv lv e s')
def UnaryOk (n : Nat) : Prop := ∀ {H : AHeap} {r : Nat} {T : List Tok} {tv lv : AV} {s : St}, Rx H r T tv lv s → lv ≠ .nilSl → ∀ (e : Ex) (s' : St), unaryF T n s = some (e, s') → W (evw P orc 170 [.ptr r 0 0] H) (PostE H r T tv lv e s')
def ChainOk (n : Nat) : Prop := ∀ {H : AHeap} {r : Nat} {T : List Tok} {tv lv : AV} {s : St}, Rx H r T tv lv s → lv ≠ .nilSl → ∀ (e : Ex) (s' : St), chainF T n s = some (e, s') → W (evw P orc 178 [.ptr r 0 0] H) (PostE H r T tv lv e s')
def FirstOk (n : Nat) : Prop := ∀ {H : AHeap} {r : Nat} {T : List Tok} {tv lv : AV} {s : St}, Rx H r T tv lv s → lv ≠ .nilSl → ∀ (e : Ex) (s' : St), firstF T n s = some (e, s') → W (evw P orc 181 [.ptr r 0 0] H) (PostE H r T tv lv e s')
def SingleOk (n : Nat) : Prop := ∀ {H : AHeap} {r : Nat} {T : List Tok} {tv lv : AV} {s : St}, Rx H r T tv lv s → lv ≠ .nilSl → ∀ (b c : Bs) (e : Ex) (s' : St), singleF T n b c s = some (e, s') → W (evw P orc 194 [.ptr r 0 0, .str b, .str c] H) (PostE H r T tv lv e s')
def NameOk (n : Nat) : Prop := ∀ {H : AHeap} {r : Nat} {T : List Tok} {tv lv : AV} {s : St}, Rx H r T tv lv s → lv ≠ .nilSl → ∀ (e : Ex) (s' : St), nameF T n s = some (e, s') → W (evw P orc 183 [.ptr r 0 0] H) (PostE H r T tv lv e s')
def FreshOk (n : Nat) : Prop := ∀ {H : AHeap} {r : Nat} {T : List Tok} {tv lv : AV} {s : St}, Rx H r T tv lv s → lv ≠ .nilSl → ∀ (e : Ex) (s' : St), freshF T n s = some (e, s') → W (evw P orc 190 [.ptr r 0 0] H) (PostE H r T tv lv e s')
def ListOk (n : Nat) : Prop := ∀ {H : AHeap} {r : Nat} {T : List Tok} {tv lv : AV} {s : St}, Rx H r T tv lv s → lv ≠ .nilSl → ∀ (l : List Ex) (s' : St), listF T n s = some (l, s') → W (evw P orc 187 [.ptr r 0 0, .func (.func 163) [.ptr r 0 0] []] H) fun v H' => Mt r H H' ∧ Rx H' r T tv lv s' ∧ KsV H' (Ge H.next) l v
structure AllOk (n : Nat) : Prop where
 row : RowOk n
 unary : UnaryOk n
 chain : ChainOk n
 first : FirstOk n
 single : SingleOk n
 name : NameOk n
 fresh : FreshOk n
 list : ListOk n
theorem PostE.ret {H H2 : AHeap} {r : Nat} {T : List Tok} {tv lv : AV} {s s' : St} {e : Ex} {v : AV} {b n : Nat} (hx : Rx H r T tv lv s) (m : Mt r H H2) (hd : Rd H2 r tv lv s') (hb : H.next ≤ b) (he : ExV H2 (Ge n) e v) (hn : b < n) (blk : ABlk) : PostE H r T tv lv e s' v (H2.set b blk) := by
 have hl := hx.rd.lt
 have m' := m.then_set (.inr hb) blk
 refine ⟨m', hx.mut m' ?_, he.new (Mut.then_set (S := (· < n)) (Mut.refl _ _) (.inl hn) _) fun l h => by unfold Ge; omega⟩
 unfold Rd at hd ⊢
 rw [AHeap.get_set_other (by omega)]; exact hd
theorem whole_spec {n : Nat} (ih : RowOk n) {H : AHeap} {r : Nat} {T : List Tok} {tv lv : AV} {s : St} (hx : Rx H r T tv lv s) (hlv : lv ≠ .nilSl) {e : Ex} {s' : St} (h : rowF T n 0 s = some (e, s')) : W (evw P orc 163 [.ptr r 0 0] H) (PostE H r T tv lv e s') := by
 refine W_of (fun _ => run163 0) ?_
 have hl := hx.rd.lt
 simp -implicitDefEqProofs (disch := first | assumption | omega | (simp only [nxB]; omega) | (simp only [oneB])) only [s163, xlen, AV.cells, splice, aload, astore, Nat.reduceAdd, Nat.reduceLeDiff, reduceIte, allB]
 have p1 := Pur.push H (.row false 11 [[.int .i64 0, .int .i64 0, .str [], .str [], .int .i64 0, .nilSl, .int .i64 0, .int .i64 0, .int .i64 0, .int .i64 0, .int .i64 0]])
 refine W_call (ih (hx.pur p1) hlv 0 (by omega) e s' h) ?_
 rintro v H2 ⟨m2, hx2, he2⟩
 refine ⟨m2.1, ?_⟩
 have hb2 := m2.get (AHeap.get_push_same H _) (by omega)
 have hlb := AHeap.get_lt hb2
 obtain ⟨cs, rfl, hlen, hone⟩ := he2.cells
 have ht : List.take 11 cs = cs := List.take_of_length_le (by omega)
 simp -implicitDefEqProofs (disch := first | assumption | omega | (simp only [nxB]; omega) | (simp only [oneB])) only [s163, xlen, AV.cells, splice, aload, astore, Nat.reduceAdd, Nat.reduceLeDiff, reduceIte, allB, hb2, hlen, hone, List.append_nil, ht]
 exact W_some.2 (PostE.ret hx ((p1.mut _).trans m2) hx2.rd (Nat.le_refl _) he2 (Nat.lt_succ_self _) _)
theorem single_step {n : Nat} (ih : RowOk n) : SingleOk (n + 1) := by
 intro H r T tv lv s hx hlv b c e s' h
 refine W_of (fun _ => run194 0) ?_
 have hl := hx.rd.lt
 have p1 := Pur.push H (.row false 11 [[.int .i64 0, .int .i64 0, .str [], .str [], .int .i64 0, .nilSl, .int .i64 0, .int .i64 0, .int .i64 0, .int .i64 0, .int .i64 0]])
 simp -implicitDefEqProofs (disch := first | assumption | omega | (simp only [nxB]; omega) | (simp only [oneB])) only [s194, xlen, AV.cells, splice, aload, astore, Nat.reduceAdd, Nat.reduceLeDiff, reduceIte, allB]
 refine W_call (opens_spec (hx.pur p1) b) ?_
 rintro _ H2 ⟨rfl, m2, hx2⟩
 refine ⟨m2.1, ?_⟩
 have hb2 := m2.get (AHeap.get_push_same H _) (by omega)
 have hlb := AHeap.get_lt hb2
 have mb := (p1.mut (· = r)).trans m2
 simp only [singleF] at h
 cases ho : (opensS T b s).1 with
 | false =>
  simp only [ho, cond_false, Option.some.injEq, Prod.mk.injEq] at h
  obtain ⟨rfl, rfl⟩ := h
  simp -implicitDefEqProofs (disch := first | assumption | omega | (simp only [nxB]; omega) | (simp only [oneB])) only [s194, xlen, AV.cells, splice, aload, astore, Nat.reduceAdd, Nat.reduceLeDiff, reduceIte, allB, Bool.not_false, hb2]
  exact W_some.2 (PostE.ret hx mb hx2.rd (Nat.le_refl _) (ExV.leaf _ (Ge (H.next + 1)) { kind := 0 }) (Nat.lt_succ_self _) _)
 | true =>
  simp only [ho, cond_true, Option.bind_eq_some_iff] at h
  obtain ⟨⟨e1, s1⟩, h1, h2⟩ := h
  simp only [Option.some.injEq, Prod.mk.injEq] at h2
  obtain ⟨rfl, rfl⟩ := h2
  simp -implicitDefEqProofs (disch := first | assumption | omega | (simp only [nxB]; omega) | (simp only [oneB])) only [s194, xlen, AV.cells, splice, aload, astore, Nat.reduceAdd, Nat.reduceLeDiff, reduceIte, allB, Bool.not_true]
  refine W_call (whole_spec ih hx2 hlv h1) ?_
  rintro v H3 ⟨m3, hx3, he3⟩
  refine ⟨m3.1, ?_⟩
  have hb3 := m3.get hb2 (by omega)
  have hlb3 := AHeap.get_lt hb3
  obtain ⟨cs, rfl, hlen, hone⟩ := he3.cells
  have ht : List.take 11 cs = cs := List.take_of_length_le (by omega)
  simp -implicitDefEqProofs (disch := first | assumption | omega | (simp only [nxB]; omega) | (simp only [oneB])) only [s194, xlen, AV.cells, splice, aload, astore, Nat.reduceAdd, Nat.reduceLeDiff, reduceIte, allB, hlen, hone, List.append_nil, ht]
  have p4 := Pur.push H3 (.row false 11 [cs])
  refine W_call (closes_spec (hx3.pur p4) c) ?_
  rintro _ H5 ⟨rfl, m5, hx5⟩
  refine ⟨m5.1, ?_⟩
  have hb5 := m5.get (p4.get hb3) (by omega)
  have hlb5 := AHeap.get_lt hb5
  have hc5 := m5.get (AHeap.get_push_same H3 (.row false 11 [cs])) (by omega)
  have hm2 := m2.1
  simp only [AHeap.next_push] at hm2
  simp -implicitDefEqProofs (disch := first | assumption | omega | (simp only [nxB]; omega) | (simp only [oneB])) only [s194, xlen, AV.cells, splice, aload, astore, Nat.reduceAdd, Nat.reduceLeDiff, reduceIte, allB, hlen, hone, List.append_nil, ht, hb5, hc5]
  refine W_some.2 (PostE.ret hx (((mb.trans m3).trans (p4.mut _)).trans m5) hx5.rd (Nat.le_refl _) (n := H2.next) (he3.new ?_ fun _ h => h) (by omega) _)
  exact ((Pur.push _ _).mut _).trans ⟨m5.1, fun l hl' hS => m5.2 l hl' (by omega)⟩
theorem within_spec {n : Nat} (ih : SingleOk n) {H : AHeap} {r : Nat} {T : List Tok} {tv lv : AV} {s : St} (hx : Rx H r T tv lv s) (hlv : lv ≠ .nilSl) {e : Ex} {s' : St} (h : singleF T n [40] [41] s = some (e, s')) : W (evw P orc 193 [.ptr r 0 0] H) (PostE H r T tv lv e s') := by
 refine W_of (fun _ => run193 0) ?_
 have hl := hx.rd.lt
 simp -implicitDefEqProofs (disch := first | assumption | omega | (simp only [nxB]; omega) | (simp only [oneB])) only [s193, xlen, AV.cells, splice, aload, astore, Nat.reduceAdd, Nat.reduceLeDiff, reduceIte, allB]
 have p1 := Pur.push H (.row false 11 [[.int .i64 0, .int .i64 0, .str [], .str [], .int .i64 0, .nilSl, .int .i64 0, .int .i64 0, .int .i64 0, .int .i64 0, .int .i64 0]])
 refine W_call (ih (hx.pur p1) hlv [40] [41] e s' h) ?_
 rintro v H2 ⟨m2, hx2, he2⟩
 refine ⟨m2.1, ?_⟩
 have hb2 := m2.get (AHeap.get_push_same H _) (by omega)
 have hlb := AHeap.get_lt hb2
 obtain ⟨cs, rfl, hlen, hone⟩ := he2.cells
 have ht : List.take 11 cs = cs := List.take_of_length_le (by omega)
 simp -implicitDefEqProofs (disch := first | assumption | omega | (simp only [nxB]; omega) | (simp only [oneB])) only [s193, xlen, AV.cells, splice, aload, astore, Nat.reduceAdd, Nat.reduceLeDiff, reduceIte, allB, hb2, hlen, hone, List.append_nil, ht]
 exact W_some.2 (PostE.ret hx ((p1.mut _).trans m2) hx2.rd (Nat.le_refl _) he2 (Nat.lt_succ_self _) _)
theorem length_spec {n : Nat} (ih : SingleOk n) {H : AHeap} {r : Nat} {T : List Tok} {tv lv : AV} {s : St} (hx : Rx H r T tv lv s) (hlv : lv ≠ .nilSl) {e : Ex} {s' : St} (h : singleF T n [40] [41] (goS s) = some (e, s')) : W (evw P orc 191 [.ptr r 0 0] H) (PostE H r T tv lv (.mk { kind := 10, pos := (tokAt T s.at_).pos } [e]) s') := by
 refine W_of (fun _ => run191 0) ?_
 have hl := hx.rd.lt
 have ho1 := hx.tk.one
 have ho2 := hx.lv.one
 simp -implicitDefEqProofs (disch := first | assumption | omega | (simp only [nxB]; omega) | (simp only [oneB])) only [s191, xlen, AV.cells, splice, aload, astore, Nat.reduceAdd, Nat.reduceLeDiff, reduceIte, allB]
 refine W_call (tok_spec (hx.rd.pur (Pur.push _ _)) (hx.tk.pur (Pur.push _ _))) ?_
 rintro _ H2 ⟨rfl, p2⟩
 refine ⟨p2.1, ?_⟩
 have hn2 := p2.1
 simp only [AHeap.next_push] at hn2
 have mb := ((Pur.push H _).trans p2).mut (· = r)
 have hrd2 := hx.rd.pur ((Pur.push H _).trans p2)
 have hr2 := hrd2
 unfold Rd at hr2
 have hb2 := p2.get (AHeap.get_push_same H _)
 obtain ⟨m3, hd3⟩ := fail_set hrd2 (goS s)
 simp -implicitDefEqProofs (disch := first | assumption | omega | (simp only [nxB]; omega) | (simp only [oneB])) only [s191, xlen, AV.cells, splice, aload, astore, Nat.reduceAdd, Nat.reduceLeDiff, reduceIte, allB, Tok.v, hr2, ho1, ho2]
 refine W_call (ih (hx.mut (mb.trans m3) hd3) hlv [40] [41] e s' h) ?_
 rintro v H4 ⟨m4, hx4, he4⟩
 refine ⟨m4.1, ?_⟩
 have hb4 := m4.get (m3.get hb2 (by omega)) (by omega)
 have hl4 := AHeap.get_lt hb4
 have hm4 := m4.1
 simp only [AHeap.next_set] at hm4 he4
 replace mb := (mb.trans m3).trans m4
 obtain ⟨cs, rfl, hlen, hone⟩ := he4.cells
 have hs : ∀ l, sliceOf P l 96 1 [(0, .agg cs)] = some (.sl l 0 1 11 (some 1), .row false 11 [cs]) := fun l => sl35_1 l cs hlen hone
 have hr2 := hx4.rd
 unfold Rd at hr2
 simp -implicitDefEqProofs (disch := first | assumption | omega | (simp only [nxB]; omega) | (simp only [oneB])) only [s191, xlen, AV.cells, splice, aload, astore, Nat.reduceAdd, Nat.reduceLeDiff, reduceIte, allB, hb4, hs]
 refine W_some.2 ?_
 refine PostL.fin (ok := Ge H.next) (a := { kind := 10, pos := (tokAt T s.at_).pos }) (kv := .sl H4.next 0 1 11 (some 1)) (s' := s') hx ?_ ?_ (KsV.one_at (ro := false) ?_ (by unfold Ge; omega) (he4.new ?_ fun l h => by unfold Ge; omega))
 ·(repeat (first | exact mb | refine Mut.then_push ?_ _ | refine Mut.then_set (S := (· = r)) ?_ (.inl rfl) _ | refine Mut.then_set ?_ (.inr (by (first | omega | (simp only [AHeap.next_push, AHeap.next_set]; omega)))) _))
 ·(unfold Rd; simp -implicitDefEqProofs (disch := first | assumption | omega | (simp only [nxB]; omega) | (simp only [oneB])) only [heapB, hr2, goS, outS])
 ·simp -implicitDefEqProofs (disch := first | assumption | omega | (simp only [nxB]; omega) | (simp only [oneB])) only [heapB]
 ·exact Mut.then_set (S := fun l => l < _) ((Mut.refl _ _).then_push _) (.inl (by omega)) _
theorem item_spec {n : Nat} (ih : SingleOk n) {ok : Nat → Prop} {H : AHeap} {r : Nat} {T : List Tok} {tv lv : AV} {s : St} {e : Ex} {v : AV} (hx : Rx H r T tv lv s) (hlv : lv ≠ .nilSl) (he : ExV H ok e v) (hlo : ¬ ok r) (hlo' : ∀ l, H.next ≤ l → ok l) {e2 : Ex} {s' : St} (h : singleF T n [91] [93] s = some (e2, s')) : W (evw P orc 186 [.ptr r 0 0, v] H) (PostL ok H r T tv lv (.mk { kind := 6, pos := (tokAt T s.at_).pos } [e, e2]) s') := by
 refine W_of (fun _ => run186 0) ?_
 obtain ⟨cs, rfl, hlen, hone⟩ := he.cells
 have hl := hx.rd.lt
 have ht : List.take 11 cs = cs := List.take_of_length_le (by omega)
 have hbx : ∀ l, boxOf l (.agg cs) = some (.ptr l 0 0, .row false 11 [cs]) := fun l => by rw [boxOf_agg l cs hone, hlen]
 simp -implicitDefEqProofs (disch := first | assumption | omega | (simp only [nxB]; omega) | (simp only [oneB])) only [s186, xlen, AV.cells, splice, aload, astore, Nat.reduceAdd, Nat.reduceLeDiff, reduceIte, allB, hbx]
 have p1 := (Pur.push H (.row false 11 [cs])).then_push (.row false 11 [[.int .i64 0, .int .i64 0, .str [], .str [], .int .i64 0, .nilSl, .int .i64 0, .int .i64 0, .int .i64 0, .int .i64 0, .int .i64 0]])
 refine W_call (tok_spec (hx.rd.pur p1) (hx.tk.pur p1)) ?_
 rintro _ H2 ⟨rfl, p2⟩
 refine ⟨p2.1, ?_⟩
 have hn2 := p2.1
 simp only [AHeap.next_push] at hn2
 have hx2 := hx.pur (p1.trans p2)
 have mb := (p1.trans p2).mut (· = r)
 have h3 : H2.get H.next = some (.row false 11 [cs]) := by rw [p2.2 _ (by simp only [AHeap.next_push]; omega)]; simp -implicitDefEqProofs (disch := first | assumption | omega | (simp only [nxB]; omega) | (simp only [oneB])) only [heapB]
 have h4 : H2.get (H.next + 1) = some (.row false 11 [[.int .i64 0, .int .i64 0, .str [], .str [], .int .i64 0, .nilSl, .int .i64 0, .int .i64 0, .int .i64 0, .int .i64 0, .int .i64 0]]) := by rw [p2.2 _ (by simp only [AHeap.next_push]; omega)]; simp -implicitDefEqProofs (disch := first | assumption | omega | (simp only [nxB]; omega) | (simp only [oneB])) only [heapB]
 simp -implicitDefEqProofs (disch := first | assumption | omega | (simp only [nxB]; omega) | (simp only [oneB])) only [s186, xlen, AV.cells, splice, aload, astore, Nat.reduceAdd, Nat.reduceLeDiff, reduceIte, allB, Tok.v]
 refine W_call (ih hx2 hlv [91] [93] e2 s' h) ?_
 rintro v H4 ⟨m4, hx4, he4⟩
 refine ⟨m4.1, ?_⟩
 have h34 := m4.get h3 (by omega)
 have h44 := m4.get h4 (by omega)
 have hl4 := AHeap.get_lt h44
 have hm4 := m4.1
 replace mb := mb.trans m4
 obtain ⟨ds, rfl, hlen', hone'⟩ := he4.cells
 have hs : ∀ l, sliceOf P l 96 2 [(0, .agg cs), (1, .agg ds)] = some (.sl l 0 2 11 (some 2), .row false 11 [cs, ds]) := fun l => sl35_2 l cs ds hlen hone hlen' hone'
 have hr2 := hx4.rd
 unfold Rd at hr2
 have hq := he.same
 simp -implicitDefEqProofs (disch := first | assumption | omega | (simp only [nxB]; omega) | (simp only [oneB])) only [s186, xlen, AV.cells, splice, aload, astore, Nat.reduceAdd, Nat.reduceLeDiff, reduceIte, allB, h34, h44, h3, hs, ht, hq, Bool.and_true]
 refine W_some.2 ?_
 refine PostL.fin (a := { kind := 6, pos := (tokAt T s.at_).pos }) (kv := .sl H4.next 0 2 11 (some 2)) (s' := s') hx ?_ ?_ (KsV.two_at (ro := false) ?_ (hlo' _ (by omega)) (he.mut (r := r) ?_ hlo fun _ h => h) (he4.new ?_ fun l h => hlo' _ (by omega)))
 ·(repeat (first | exact mb | refine Mut.then_push ?_ _ | refine Mut.then_set (S := (· = r)) ?_ (.inl rfl) _ | refine Mut.then_set ?_ (.inr (by (first | omega | (simp only [AHeap.next_push, AHeap.next_set]; omega)))) _))
 ·(unfold Rd; simp -implicitDefEqProofs (disch := first | assumption | omega | (simp only [nxB]; omega) | (simp only [oneB])) only [heapB, hr2, goS, outS])
 ·simp -implicitDefEqProofs (disch := first | assumption | omega | (simp only [nxB]; omega) | (simp only [oneB])) only [heapB]
 ·(repeat (first | exact mb | refine Mut.then_push ?_ _ | refine Mut.then_set (S := (· = r)) ?_ (.inl rfl) _ | refine Mut.then_set ?_ (.inr (by (first | omega | (simp only [AHeap.next_push, AHeap.next_set]; omega)))) _))
 ·exact Mut.then_set (S := fun l => l < _) ((Mut.refl _ _).then_push _) (.inl (by omega)) _
end Go.Proofs.YtghmbpmaafnodaaGreatDoor

namespace Go.Proofs.YtghmbpmaafnodaaGreatDoor
open Go.Ev
theorem ElsV.append {H : AHeap} {ok : Nat → Prop} : ∀ (es : List Ex) (cs : List (List AV)) (e : Ex) (c : List AV), ElsV H ok es cs → cs.length = es.length → ExV H ok e (.agg c) → ElsV H ok (es ++ [e]) (cs ++ [c])
 | [], [], e, c, _, _, h => by
  simp only [List.nil_append]
  rw [ElsV, ElsV]; exact ⟨h, trivial⟩
 | [], _ :: _, e, c, _, hl, _ => by simp at hl
 | _ :: _, [], e, c, h, _, _ => by rw [ElsV] at h; exact h.elim
 | e1 :: es, c1 :: cs, e, c, h, hl, he => by
  rw [ElsV] at h
  simp only [List.cons_append]
  rw [ElsV]
  exact ⟨h.1, ElsV.append es cs e c h.2 (by simpa using hl) he⟩
theorem un96 : P.underlying 96 = some (.slice 103) := by kernel_rfl
theorem by103 : tyBytes P 103 = some 120 := by kernel_rfl
theorem az103 : azero P 103 = some (.agg [.int .i64 0, .int .i64 0, .str [], .str [], .int .i64 0, .nilSl, .int .i64 0, .int .i64 0, .int .i64 0, .int .i64 0, .int .i64 0]) := by kernel_rfl
theorem ap35_nil {H : AHeap} {L : Nat} {cs : List AV} {cap : Option Nat} {ro : Bool} (hg : H.get L = some (.row ro 11 [cs])) : aappend P H [96, 96] .nilSl (.sl L 0 1 11 cap) = some (.sl H.next 0 1 11 none, H.push (.row false 11 [cs])) := by
 simp [aappend, un96, ts103, by103, az103, anews, aels, hg, AV.cells]
theorem ap35_sl {H : AHeap} {L l n : Nat} {cs : List AV} {els : List (List AV)} {cap : Option Nat} {ro : Bool} (hg : H.get L = some (.row ro 11 [cs])) (hl : H.get l = some (.row false 11 els)) (hn : els.length = n) (hb : n ≤ 1000000000) : aappend P H [96, 96] (.sl l 0 n 11 none) (.sl L 0 1 11 cap) = some (.sl H.next 0 (n + 1) 11 none, (H.set l .dead).push (.row false 11 (els ++ [cs]))) := by
 have h1 : (n + 1) * 120 ≤ 140737488355328 := by omega
 have h2 : n + 1 ≤ 9223372036854775807 := by omega
 simp [aappend, un96, ts103, by103, az103, anews, aels, hg, hl, AV.cells, hn, h1, h2]
 rw [List.take_of_length_le (by omega)]
theorem fresh_step {n : Nat} (ih : SingleOk n) : FreshOk (n + 1) := by
 intro H r T tv lv s hx hlv e s' h
 refine W_of (fun _ => run190 0) ?_
 have hl := hx.rd.lt
 have ho1 := hx.tk.one
 have ho2 := hx.lv.one
 simp -implicitDefEqProofs (disch := first | assumption | omega | (simp only [nxB]; omega) | (simp only [oneB])) only [s190_j0, s190, xlen, AV.cells, splice, aload, astore, Nat.reduceAdd, Nat.reduceLeDiff, reduceIte, allB]
 refine W_call (tok_spec (hx.rd.pur (Pur.push _ _)) (hx.tk.pur (Pur.push _ _))) ?_
 rintro _ H2 ⟨rfl, p2⟩
 refine ⟨p2.1, ?_⟩
 have hn2 := p2.1
 simp only [AHeap.next_push] at hn2
 have mb := ((Pur.push H _).trans p2).mut (· = r)
 have hrd2 := hx.rd.pur ((Pur.push H _).trans p2)
 have hr2 := hrd2
 unfold Rd at hr2
 have hb2 := p2.get (AHeap.get_push_same H _)
 obtain ⟨m3, hd3⟩ := fail_set hrd2 (goS s)
 simp -implicitDefEqProofs (disch := first | assumption | omega | (simp only [nxB]; omega) | (simp only [oneB])) only [s190, xlen, AV.cells, splice, aload, astore, Nat.reduceAdd, Nat.reduceLeDiff, reduceIte, allB, Tok.v, hr2, ho1, ho2]
 have hx3 := hx.mut (mb.trans m3) hd3
 refine W_call (takes_spec hx3 4 [91]) ?_
 rintro _ H4 ⟨rfl, m4, hx4⟩
 refine ⟨m4.1, ?_⟩
 have hb4 := m4.get (m3.get hb2 (by omega)) (by omega)
 have hl4 := AHeap.get_lt hb4
 have hm4 := m4.1
 simp only [AHeap.next_set] at hm4
 replace mb := (mb.trans m3).trans m4
 simp only [freshF] at h
 cases hi : isB T (goS s) 4 [91] with
 | true =>
  simp only [takesS, hi, cond_true] at hx4 ⊢
  simp only [hi, cond_true, Option.bind_eq_some_iff] at h
  obtain ⟨⟨e1, s1⟩, h1, h2⟩ := h
  simp only [Option.some.injEq, Prod.mk.injEq] at h2
  obtain ⟨rfl, rfl⟩ := h2
  simp -implicitDefEqProofs (disch := first | assumption | omega | (simp only [nxB]; omega) | (simp only [oneB])) only [s190, xlen, AV.cells, splice, aload, astore, Nat.reduceAdd, Nat.reduceLeDiff, reduceIte, allB]
  refine W_call (of_spec hx4) ?_
  rintro _ H5 ⟨rfl, m5, hx5⟩
  refine ⟨m5.1, ?_⟩
  have hb5 := m5.get hb4 (by omega)
  have hl5 := AHeap.get_lt hb5
  simp -implicitDefEqProofs (disch := first | assumption | omega | (simp only [nxB]; omega) | (simp only [oneB])) only [s190, xlen, AV.cells, splice, aload, astore, Nat.reduceAdd, Nat.reduceLeDiff, reduceIte, allB]
  have p6 := Pur.push H5 (.row false 2 [[.str (ofS T (goS (goS s))).1.1, .int .i64 (ofS T (goS (goS s))).1.2]])
  have hq6 := AHeap.get_push_same H5 (.row false 2 [[.str (ofS T (goS (goS s))).1.1, .int .i64 (ofS T (goS (goS s))).1.2]])
  refine W_call (wants_spec (hx5.pur p6) [93]) ?_
  rintro _ H8 ⟨rfl, m8, hx8⟩
  refine ⟨m8.1, ?_⟩
  have hb8 := m8.get (p6.get hb5) (by omega)
  have hq8 := m8.get hq6 (by omega)
  have hl8 := AHeap.get_lt hb8
  have hlq8 := AHeap.get_lt hq8
  simp -implicitDefEqProofs (disch := first | assumption | omega | (simp only [nxB]; omega) | (simp only [oneB])) only [s190, xlen, AV.cells, splice, aload, astore, Nat.reduceAdd, Nat.reduceLeDiff, reduceIte, allB]
  refine W_call (ih hx8 hlv [40] [41] e1 s1 h1) ?_
  rintro v H9 ⟨m9, hx9, he9⟩
  refine ⟨m9.1, ?_⟩
  have hb9 := m9.get hb8 (by omega)
  have hq9 := m9.get hq8 (by omega)
  have hl9 := AHeap.get_lt hb9
  have hlq9 := AHeap.get_lt hq9
  have hm9 := m9.1
  obtain ⟨cs, rfl, hlen, hone⟩ := he9.cells
  have hs : ∀ l, sliceOf P l 96 1 [(0, .agg cs)] = some (.sl l 0 1 11 (some 1), .row false 11 [cs]) := fun l => sl35_1 l cs hlen hone
  replace mb := (((mb.trans m5).trans (p6.mut _)).trans m8).trans m9
  have hr2 := hx9.rd
  unfold Rd at hr2
  simp -implicitDefEqProofs (disch := first | assumption | omega | (simp only [nxB]; omega) | (simp only [oneB])) only [s190, xlen, AV.cells, splice, aload, astore, Nat.reduceAdd, Nat.reduceLeDiff, reduceIte, allB, hs, hb9, hq9, hq8]
  refine W_some.2 ?_
  refine PostL.fin (ok := Ge H.next) (a := { kind := 9, ofn := (ofS T (goS (goS s))).1.1, ofd := (ofS T (goS (goS s))).1.2, pos := (tokAt T s.at_).pos }) (kv := .sl H9.next 0 1 11 (some 1)) (s' := s1) hx ?_ ?_ (KsV.one_at (ro := false) ?_ (by unfold Ge; omega) (he9.new ?_ fun l h => by unfold Ge; omega))
  ·(repeat (first | exact mb | refine Mut.then_push ?_ _ | refine Mut.then_set (S := (· = r)) ?_ (.inl rfl) _ | refine Mut.then_set ?_ (.inr (by (first | omega | (simp only [AHeap.next_push, AHeap.next_set]; omega)))) _))
  ·(unfold Rd; simp -implicitDefEqProofs (disch := first | assumption | omega | (simp only [nxB]; omega) | (simp only [oneB])) only [heapB, hr2, goS, outS])
  ·simp -implicitDefEqProofs (disch := first | assumption | omega | (simp only [nxB]; omega) | (simp only [oneB])) only [heapB]
  ·exact Mut.then_set (S := fun l => l < _) ((Mut.refl _ _).then_push _) (.inl (by omega)) _
 | false =>
  simp only [takesS, hi, cond_false] at hx4 ⊢
  simp only [hi, cond_false, Option.some.injEq, Prod.mk.injEq] at h
  obtain ⟨rfl, rfl⟩ := h
  simp -implicitDefEqProofs (disch := first | assumption | omega | (simp only [nxB]; omega) | (simp only [oneB])) only [s190, xlen, AV.cells, splice, aload, astore, Nat.reduceAdd, Nat.reduceLeDiff, reduceIte, allB]
  refine W_call (tok_spec hx4.rd hx4.tk) ?_
  rintro _ H5 ⟨rfl, p5⟩
  refine ⟨p5.1, ?_⟩
  have hb5 := p5.get hb4
  have hx5 := hx4.pur p5
  have hl5 := AHeap.get_lt hb5
  have p6 := Pur.push H5 (.row false 4 [[.int .i64 (tokAt T (goS s).at_).kind, .str (tokAt T (goS s).at_).text, .int .i64 (tokAt T (goS s).at_).n, .int .i64 (tokAt T (goS s).at_).pos]])
  have hq6 := AHeap.get_push_same H5 (.row false 4 [[.int .i64 (tokAt T (goS s).at_).kind, .str (tokAt T (goS s).at_).text, .int .i64 (tokAt T (goS s).at_).n, .int .i64 (tokAt T (goS s).at_).pos]])
  have fin : ∀ (H7 : AHeap) (s7 : St), Mt r H H7 → Rd H7 r tv lv s7 → H7.get H.next = some (.row false 11 [[.int .i64 0, .int .i64 0, .str [], .str [], .int .i64 0, .nilSl, .int .i64 0, .int .i64 0, .int .i64 0, .int .i64 0, .int .i64 0]]) → H7.get H5.next = some (.row false 4 [[.int .i64 (tokAt T (goS s).at_).kind, .str (tokAt T (goS s).at_).text, .int .i64 (tokAt T (goS s).at_).n, .int .i64 (tokAt T (goS s).at_).pos]]) →
    W (s190_j0 (evw P orc) (.ptr r 0 0) (.ptr H.next 0 0) (.int .i64 (tokAt T s.at_).pos) (.ptr H5.next 0 0) H7) (PostE H r T tv lv (.mk { kind := 8, ofn := (tokAt T (goS s).at_).text, pos := (tokAt T s.at_).pos } []) (goS s7)) := by
   intro H7 s7 mb hrd7 hb7 hq7
   have hr2 := hrd7
   unfold Rd at hr2
   have hlr := hrd7.lt
   have hl7 := AHeap.get_lt hb7
   have hlq7 := AHeap.get_lt hq7
   simp -implicitDefEqProofs (disch := first | assumption | omega | (simp only [nxB]; omega) | (simp only [oneB])) only [s190_j0, s190, xlen, AV.cells, splice, aload, astore, Nat.reduceAdd, Nat.reduceLeDiff, reduceIte, allB, hr2, ho1, ho2, hb7, hq7]
   refine W_some.2 ?_
   refine PostE.box (a := { kind := 8, ofn := (tokAt T (goS s).at_).text, pos := (tokAt T s.at_).pos }) (kv := .nilSl) (s' := goS s7) (lo := H.next + 1) hx ?_ ?_ (Nat.le_refl _) (Nat.lt_succ_self _) (KsV.nil _ _) _
   ·(repeat (first | exact mb | refine Mut.then_push ?_ _ | refine Mut.then_set (S := (· = r)) ?_ (.inl rfl) _ | refine Mut.then_set ?_ (.inr (by (first | omega | (simp only [AHeap.next_push, AHeap.next_set]; omega)))) _))
   ·(unfold Rd; simp -implicitDefEqProofs (disch := first | assumption | omega | (simp only [nxB]; omega) | (simp only [oneB])) only [heapB, hr2, goS, outS])
  by_cases hk : (tokAt T (goS s).at_).kind = 1
  ·have hk' : ((tokAt T (goS s).at_).kind != 1) = false := by simpa using hk
   simp -implicitDefEqProofs (disch := first | assumption | omega | (simp only [nxB]; omega) | (simp only [oneB])) only [s190, xlen, AV.cells, splice, aload, astore, Nat.reduceAdd, Nat.reduceLeDiff, reduceIte, allB, Tok.v, hk']
   exact fin _ _ ((mb.trans (p5.mut _)).trans (p6.mut _)) (hx5.rd.pur p6) (p6.get hb5) hq6
  ·have hk' : ((tokAt T (goS s).at_).kind != 1) = true := by simpa using hk
   simp -implicitDefEqProofs (disch := first | assumption | omega | (simp only [nxB]; omega) | (simp only [oneB])) only [s190, xlen, AV.cells, splice, aload, astore, Nat.reduceAdd, Nat.reduceLeDiff, reduceIte, allB, Tok.v, hk']
   refine W_call (fail_spec (hx5.pur p6) 2) ?_
   rintro _ H8 ⟨rfl, m8, hx8⟩
   refine ⟨m8.1, ?_⟩
   try simp only [s190]
   exact fin _ _ (((mb.trans (p5.mut _)).trans (p6.mut _)).trans m8) hx8.rd (m8.get (p6.get hb5) (by omega)) (m8.get hq6 (by omega))
end Go.Proofs.YtghmbpmaafnodaaGreatDoor

