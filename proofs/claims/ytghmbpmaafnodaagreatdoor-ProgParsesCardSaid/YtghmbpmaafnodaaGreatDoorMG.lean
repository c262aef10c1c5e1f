/-
  Texts of one proof, laid together: Ls X1 X2 X3 X4 X5.
-/
import Derived.Test.YtghmbpmaafnodaaGreatDoorME
import Derived.Test.YtghmbpmaafnodaaGreatDoorMF
set_option linter.unusedVariables false
set_option linter.unusedSimpArgs false
namespace Go.Proofs.YtghmbpmaafnodaaGreatDoor
open Go.gd
open Nat (reduceAdd reduceLeDiff)
section
set_option linter.defProp false
def ao5:=au @J.b2 @J.e9
def amb:=au (au (au (au (au (au (au (au @ZC @Wz) (au @Tp (au @Tq @Wc))) (au (au @Q9 (au @lz @TA)) (au @Rc (au @iE @yI)))) (au (au (au @Wy (au @Wu @Wx)) (au @Wv (au @Ww @Qi))) (au (au @RY (au @RX @Sm)) (au @Py (au @Pz @PA))))) (au (au (au (au @F8 @F9) (au @OY (au @Qj @Gb))) (au (au @Qk (au @Px @Option.bind_some.{0,0})) (au @bC (au @bj @Oo)))) (au (au (au @R2 (au @R3 @QU)) (au @u7 (au @J9 @Tr))) (au (au @List.getElem?_cons_zero.{0} (au @List.getElem?_cons_succ.{0} @List.drop_zero.{0})) (au @List.drop_succ_cons.{0} (au @List.take_succ_cons.{0} @List.take_zero.{0})))))) (au (au (au (au (au @List.set_cons_zero.{0} @List.set_cons_succ.{0}) (au @List.cons_append.{0} (au @List.nil_append.{0} @List.length_cons.{0}))) (au (au @List.length_nil.{0} (au @List.all_cons.{0} @List.all_nil.{0})) (au @Bool.and_true (au @Bool.and_self @Nat.zero_add)))) (au (au (au @Nat.add_zero (au @bN @and_self)) (au @and_true (au @true_and @if_true.{1}))) (au (au @bF (au @iF @jO)) (au @yQ (au @Ln @Bv))))) (au (au (au (au @KU @KB) (au @Y9 (au @Y_ @Za))) (au (au @Zb (au @Xm @Xh)) (au @Xi (au @Xk @Xq)))) (au (au (au @We (au @Wf @EN)) (au @EM (au @Mt @Mu))) (au (au @Xo (au @Wg @Wh)) (au @Wi (au @Wj @Wk))))))) (au (au (au (au (au (au @Wl @Xd) (au @Xe (au @Xf @Xg))) (au (au @Xj (au @Xl @Xp)) (au @Xn (au @Xw @Xy)))) (au (au (au @Wm (au @Hu @CK)) (au @HW (au @Wo @Wr))) (au (au @Xu (au @Mv @Mw)) (au @Mx (au @XB @Zd))))) (au (au (au (au @Ze @Zf) (au @Zg (au @XA @Xv))) (au (au @XC (au @Xz @Xx)) (au @CJ (au @Wn @Wp)))) (au (au (au @Wq (au @Ws @Xr)) (au @Xs (au @Xt @RA))) (au (au @RH (au @RB @RG)) (au @RF (au @RE @RD)))))) (au (au (au (au (au @RC @Qv) (au @Qw (au @X6 @YW))) (au (au @J.wI (au @J.gD @J.get_set_same)) (au @J.get_set_other (au @J.b2 @J.e9)))) (au (au (au @J.Pj (au @J.set_set @Rg)) (au @Rh (au @Ri @Rj))) (au (au @Rk (au @Rl @Ku)) (au @Rp (au @Rq @Ru))))) (au (au (au (au @Rv @TD) (au @Rt (au @Rm @Ro))) (au (au @TI (au @TE @TJ)) (au @TH (au @Rr @PF)))) (au (au (au @OB (au @OC @PD)) (au @PE (au @TG @Rs))) (au (au @O4 (au @O5 @TL)) (au @Rn (au @Oz @OA)))))))) (au (au (au (au (au (au (au @PH @PI) (au @OK (au @OL @PG))) (au (au @Oq (au @Ot @OM)) (au @ON (au @OO @OP)))) (au (au (au @TK (au @Oe @Of)) (au @O1 (au @O3 @Qp))) (au (au @O2 (au @Oi @Oj)) (au @Ok (au @Ol @TF))))) (au (au (au (au @Og @Oh) (au @Qq (au @TN @TO))) (au (au @TP (au @Lc @TQ)) (au @TR (au @TS @TT)))) (au (au (au @TU (au @TV @TW)) (au @TX (au @TY @TZ))) (au (au @T0 (au @T3 @T4)) (au @T5 (au @T6 @T7)))))) (au (au (au (au (au @D2 @D3) (au @T8 (au @T9 @BO))) (au (au @BP (au @T_ @Ua)) (au @Ub (au @Uc @Ud)))) (au (au (au @Ue (au @Uf @Ug)) (au @Uh (au @Ui @Uj))) (au (au @Uk (au @Ul @Su)) (au @Sv (au @Sw @Sx))))) (au (au (au (au @Sy @Sz) (au @SA (au @SB @SC))) (au (au @SD (au @SE @SF)) (au @SG (au @SH @SI)))) (au (au (au @BH (au @wT @DP)) (au @SJ (au @GK @SK))) (au (au @SL (au @Un @Uo)) (au @Up (au @Uq @Ur))))))) (au (au (au (au (au (au @Us @Ut) (au @Uu (au @Uv @Uw))) (au (au @Ux (au @Uy @Uz)) (au @UA (au @UB @UC)))) (au (au (au @UD (au @UE @UF)) (au @UG (au @UH @UI))) (au (au @UJ (au @Ld @UK)) (au @UL (au @UM @UN))))) (au (au (au (au @UO @UP) (au @UQ (au @UR @US))) (au (au @UT (au @UU @UV)) (au @UW (au @UX @UY)))) (au (au (au @SM (au @SN @SO)) (au @SP (au @SQ @SR))) (au (au @SS (au @SU @SV)) (au @SW (au @SX @SY)))))) (au (au (au (au (au @SZ @S0) (au @S1 (au @S2 @S3))) (au (au @S4 (au @S5 @S6)) (au @S7 (au @S8 @YS)))) (au (au (au @Ez (au @Hk @EA)) (au @Hl (au @EB @Hm))) (au (au @W8 (au @V6 @HJ)) (au @LS (au @W9 @V7))))) (au (au (au (au @xT (au @Eh @HK)) (au @LU (au @LR @U6))) (au (au @V3 (au @U7 @V4)) (au @U8 (au @V5 @U9)))) (au (au (au @Mk (au @Ml @W4)) (au @Mm (au @W5 @Mn))) (au (au @Ey (au @W6 @V0)) (au @LK (au @LL @LM))))))))
def bL:=au (au (au (au (au @ZC @Wz) (au @Tp (au @Tq @Wc))) (au (au @Q9 @lz) (au @TA (au @Rc @iE)))) (au (au (au @yI @Wy) (au @Wu (au @Wx @Wv))) (au (au @Ww @Qi) (au @RY (au @RX @Sm))))) (au (au (au (au @Py @Pz) (au @PA (au @F8 @F9))) (au (au @OY @Qj) (au @Gb (au @Qk @Px)))) (au (au (au @Option.bind_some.{0,0} @bC) (au @bj (au @Oo @R2))) (au (au @R3 @QU) (au @u7 (au @J9 @Tr)))))
def fu:=au (au (au (au @List.getElem?_cons_zero.{0} (au @List.getElem?_cons_succ.{0} @List.drop_zero.{0})) (au (au @List.drop_succ_cons.{0} @List.take_succ_cons.{0}) (au @List.take_zero.{0} @List.set_cons_zero.{0}))) (au (au (au @List.set_cons_succ.{0} @List.cons_append.{0}) (au @List.nil_append.{0} @List.length_cons.{0})) (au (au @List.length_nil.{0} @List.all_cons.{0}) (au @List.all_nil.{0} @Bool.and_true)))) (au (au (au (au @Bool.and_self @Nat.zero_add) (au @Nat.add_zero @bN)) (au (au @and_self @and_true) (au @true_and @if_true.{1}))) (au (au (au @bF @iF) (au @jO @yQ)) (au (au @Ln @Bv) (au @KU @KB))))
def dx:=au (au (au (au (au @Y9 (au @Y_ @Za)) (au (au @Zb @Xm) (au @Xh @Xi))) (au (au (au @Xk @Xq) (au @We @Wf)) (au (au @EN @EM) (au @Mt @Mu)))) (au (au (au @Xo (au @Wg @Wh)) (au (au @Wi @Wj) (au @Wk @Wl))) (au (au (au @Xd @Xe) (au @Xf @Xg)) (au (au @Xj @Xl) (au @Xp @Xn))))) (au (au (au (au @Xw (au @Xy @Wm)) (au (au @Hu @CK) (au @HW @Wo))) (au (au (au @Wr @Xu) (au @Mv @Mw)) (au (au @Mx @XB) (au @Zd @Ze)))) (au (au (au @Zf (au @Zg @XA)) (au (au @Xv @XC) (au @Xz @Xx))) (au (au (au @CJ @Wn) (au @Wp @Wq)) (au (au @Ws @Xr) (au @Xs @Xt)))))
def ee:=au (au (au @RA (au @RH @RB)) (au @RG (au @RF @RE))) (au (au @RD (au @RC @Qv)) (au @Qw (au @X6 @YW)))
def dB:=au (au (au @J.wI @J.gD) (au @J.get_set_same @J.get_set_other)) (au (au @J.b2 @J.e9) (au @J.Pj @J.set_set))
def fH:=au (au (au (au (au (au (au @Rg (au @Rh @Ri)) (au @Rj (au @Rk @Rl))) (au (au @Ku (au @Rp @Rq)) (au (au @Ru @Rv) (au @TD @Rt)))) (au (au (au @Rm (au @Ro @TI)) (au (au @TE @TJ) (au @TH @Rr))) (au (au @PF (au @OB @OC)) (au (au @PD @PE) (au @TG @Rs))))) (au (au (au (au @O4 (au @O5 @TL)) (au @Rn (au @Oz @OA))) (au (au @PH (au @PI @OK)) (au (au @OL @PG) (au @Oq @Ot)))) (au (au (au @OM (au @ON @OO)) (au (au @OP @TK) (au @Oe @Of))) (au (au @O1 (au @O3 @Qp)) (au (au @O2 @Oi) (au @Oj @Ok)))))) (au (au (au (au (au @Ol (au @TF @Og)) (au @Oh (au @Qq @TN))) (au (au @TO (au @TP @Lc)) (au (au @TQ @TR) (au @TS @TT)))) (au (au (au @TU (au @TV @TW)) (au (au @TX @TY) (au @TZ @T0))) (au (au @T3 (au @T4 @T5)) (au (au @T6 @T7) (au @D2 @D3))))) (au (au (au (au @T8 (au @T9 @BO)) (au (au @BP @T_) (au @Ua @Ub))) (au (au @Uc (au @Ud @Ue)) (au (au @Uf @Ug) (au @Uh @Ui)))) (au (au (au @Uj (au @Uk @Ul)) (au (au @Su @Sv) (au @Sw @Sx))) (au (au @Sy (au @Sz @SA)) (au (au @SB @SC) (au @SD @SE))))))) (au (au (au (au (au (au @SF (au @SG @SH)) (au @SI (au @BH @wT))) (au (au @DP (au @SJ @GK)) (au (au @SK @SL) (au @Un @Uo)))) (au (au (au @Up (au @Uq @Ur)) (au (au @Us @Ut) (au @Uu @Uv))) (au (au @Uw (au @Ux @Uy)) (au (au @Uz @UA) (au @UB @UC))))) (au (au (au (au @UD (au @UE @UF)) (au @UG (au @UH @UI))) (au (au @UJ (au @Ld @UK)) (au (au @UL @UM) (au @UN @UO)))) (au (au (au @UP (au @UQ @UR)) (au (au @US @UT) (au @UU @UV))) (au (au @UW (au @UX @UY)) (au (au @SM @SN) (au @SO @SP)))))) (au (au (au (au (au @SQ (au @SR @SS)) (au @SU (au @SV @SW))) (au (au @SX (au @SY @SZ)) (au (au @S0 @S1) (au @S2 @S3)))) (au (au (au @S4 (au @S5 @S6)) (au (au @S7 @S8) (au @YS @Ez))) (au (au @Hk (au @EA @Hl)) (au (au @EB @Hm) (au @W8 @V6))))) (au (au (au (au @HJ (au @LS @W9)) (au (au @V7 @xT) (au @Eh @HK))) (au (au @LU (au @LR @U6)) (au (au @V3 @U7) (au @V4 @U8)))) (au (au (au @V5 (au @U9 @Mk)) (au (au @Ml @W4) (au @Mm @W5))) (au (au @Mn (au @Ey @W6)) (au (au @V0 @LK) (au @LL @LM)))))))
def anc:=au (au @iF (au @jO @yQ)) (au (au @Ln @Bv) (au @KU @KB))
theorem af{p:Prop}(h:p:=by first|assumption|omega|(simp only[ao5];omega)|(simp only[anc];done)|fail):p:=h
theorem amf:(∀cs,(I.agg cs).cells=cs)/\(∀b,(I.bool b).cells=[.bool b])/\(∀k n,(I.int k n).cells=[.int k n])/\(∀s,(I.str s).cells=[.str s])/\(∀l i c,(I.ptr l i c).cells=[.ptr l i c])/\I.nilPtr.cells=[.nilPtr]/\(∀l i n e c,(I.aN l i n e c).cells=[.aN l i n e c])/\I.ap.cells=[.ap]/\(∀f a b,(I.func f a b).cells=[.func f a b])/\I.nilFunc.cells=[.nilFunc]/\I.nilIface.cells=[.nilIface]:=
 ⟨λ_=>rfl,λ_=>rfl,λ_ _=>rfl,λ_=>rfl,λ_ _ _=>rfl,rfl,λ_ _ _ _ _=>rfl,rfl,λ_ _ _=>rfl,rfl,rfl⟩
def aw:=au @bg.eq_1 (au @eF.eq_1 (au @aj.eq_1 (au @aQ.eq_1 (au amf amb))))
end
section
def Tok.cells(t:Tok):List I:=[.int .i64 t.kind,.str t.text,.int .i64 t.n,.int .i64 t.pos]
def Tok.v(t:Tok):I:= .agg [.int .i64 t.kind,.str t.text,.int .i64 t.n,.int .i64 t.pos]
def ih(H:J)(v:I)(T:List Tok):Prop:=(v= .ap/\T=[])\/ ∃l i cap,v= .aN l i T.length 4 cap/\(T=[]\/ ∃ro els,H.get l=some (.row ro 4 els)/\ ∀(k:Nat) (t:Tok),T[k]? =some t->els[i+k]? =some t.cells)
def ed(H:J)(r:Nat)(ak br:I)(s:aA):Prop:=H.get r=some (.row false 6 [[ak,.int .i64 s.at_,.int .i64 s.bR,br,.int .i64 s.aC,.int .i64 s.cv]])
def ve:List (List (List I)):=[[[.str [124,124],.int .i64 24]],[[.str [38,38],.int .i64 23]],[[.str [60],.int .i64 19],[.str [60,61],.int .i64 20],[.str [61,61],.int .i64 21],[.str [33,61],.int .i64 22]],[[.str [43],.int .i64 14],[.str [45],.int .i64 15]],[[.str [42],.int .i64 16],[.str [47],.int .i64 17],[.str [37],.int .i64 18]]]
def zQ(H:J)(br:I):Prop:= ∃l i cap ro els,br= .aN l i 5 1 cap/\H.get l=some (.row ro 1 els)/\ ∀(k:Nat) (row:List (List I)),ve[k]? =some row-> ∃l' qm Hw AK mq,els[i+k]? =some [.aN l' qm row.length 2 Hw]/\H.get l'=some (.row AK 2 mq)/\ ∀(j:Nat) (e:List I),row[j]? =some e->mq[qm+j]? =some e
def CM(H:J)(br:I):Prop:=br= .ap\/zQ H br
structure e6(H:J)(r:Nat)(T:List Tok)(ak br:I)(s:aA):Prop where
 rd:ed H r ak br s
 cf:ih H ak T
 br:CM H br
abbrev cC(r:Nat):J->J->Prop:=dC (· =r)
theorem ih.bo{H H':J}{v:I}{T:List Tok}(h:ih H v T)(p: ∀l ro els,H.get l=some (.row ro 4 els)->H'.get l=some (.row ro 4 els)):ih H' v T:=by
 rcases h with h|⟨l,i,cap,U,aa|⟨ro,els,aa,ae⟩⟩
 ·exact .inl h
 ·exact .inr ⟨l,i,cap,U,.inl aa⟩
 ·exact .inr ⟨l,i,cap,U,.inr ⟨ro,els,p _ _ _ aa,ae⟩⟩
theorem ih.aK{H H':J}{v:I}{T:List Tok}(h:ih H v T)(p:aR H H'):ih H' v T:=h.bo λ_ _ _ e=>p.get e
theorem ih.one{H:J}{v:I}{T:List Tok}(h:ih H v T):v.one=true:=by
 rcases h with⟨rfl,_⟩|⟨l,i,cap,rfl,_⟩<;>rfl
theorem zQ.one{H:J}{v:I}(h:zQ H v):v.one=true:=by
 obtain⟨l,i,cap,ro,els,rfl,_⟩:=h;rfl
theorem CM.one{H:J}{v:I}(h:CM H v):v.one=true:=by
 rcases h with rfl|h
 ·rfl
 ·exact h.one
theorem zQ.bo{H H':J}{v:I}(h:zQ H v)(p: ∀l ro n els,n≠6->H.get l=some (.row ro n els)->H'.get l=some (.row ro n els)):zQ H' v:=by
 obtain⟨l,i,cap,ro,els,U,aa,ae⟩:=h;refine⟨l,i,cap,ro,els,U,p _ _ _ _ Z aa,λk row ah=> ?_⟩;obtain⟨l',qm,Hw,AK,mq,aI,bc,dq⟩:=ae k row ah;exact⟨l',qm,Hw,AK,mq,aI,p _ _ _ _ Z bc,dq⟩
theorem CM.bo{H H':J}{v:I}(h:CM H v)(p: ∀l ro n els,n≠6->H.get l=some (.row ro n els)->H'.get l=some (.row ro n els)):CM H' v:=by
 rcases h with rfl|h
 ·exact .inl rfl
 ·exact .inr (h.bo p)
theorem ed.aK{H H':J}{r:Nat}{ak br:I}{s:aA}(a8:ed H r ak br s)(p:aR H H'):ed H' r ak br s:=p.get a8
theorem ed.lt{H:J}{r:Nat}{ak br:I}{s:aA}(a8:ed H r ak br s):r<H.next:=J.aX a8
theorem e6.mut{H H':J}{r:Nat}{T:List Tok}{ak br:I}{s s':aA}(h:e6 H r T ak br s)(m:cC r H H')(bd:ed H' r ak br s'):e6 H' r T ak br s':=by
 have dM: ∀l ro n els,n≠6->H.get l=some (.row ro n els)->H'.get l=some (.row ro n els):=λl ro n els aU e=>m.get e (by
  rintro rfl;rw[h.rd] at e;simp only[bF,dY.row.injEq] at e;exact aU e.2.1.symm)
 exact⟨bd,h.cf.bo λl ro els e=>dM l ro 4 els Z e,h.br.bo dM⟩
theorem e6.aK{H H':J}{r:Nat}{T:List Tok}{ak br:I}{s:aA}(h:e6 H r T ak br s)(p:aR H H'):e6 H' r T ak br s:=h.mut (p.mut _) (h.rd.aK p)
theorem mI{H:J}{r:Nat}{ak br:I}{s:aA}{T:List Tok}(a8:ed H r ak br s)(bz:ih H ak T):W (aq P ao 121 [.ptr r 0 0] H) λv H'=>v=(ar T s.at_).v/\aR H H':=by
 unfold ed at a8;have az:=J.aX a8;refine cP (λ_=>ahW 0) ?_;by_cases aY:s.at_<0
 ·simp-implicitDefEqProofs(disch:=try exact af) only[Ac,bg,bL,Nat.reduceAdd,Nat.reduceLeDiff,reduceIte,I.cells,eF,fu,aj,dx,aQ,dx,ee,dB,BH,wT,a8,aY,decide_true,a_];exact⟨by simp[ar,aY,Tok.v,Tok.none],aR.push _ _⟩
 ·rcases bz with⟨rfl,rfl⟩|⟨l,i,cap,rfl,jI⟩
  ·have U:(0:Int)<=s.at_:=Z;simp-implicitDefEqProofs(disch:=try exact af) only[Ac,bg,bL,Nat.reduceAdd,Nat.reduceLeDiff,reduceIte,I.cells,eF,fu,aj,dx,aQ,dx,ee,dB,BH,wT,a8,aY,U,decide_true,decide_false,a_,Eh];exact⟨by simp[ar,aY,Tok.v,Tok.none,U],aR.push _ _⟩
  ·by_cases U:(T.length:Int)<=s.at_
   ·simp-implicitDefEqProofs(disch:=try exact af) only[Ac,bg,bL,Nat.reduceAdd,Nat.reduceLeDiff,reduceIte,I.cells,eF,fu,aj,dx,aQ,dx,ee,dB,BH,wT,a8,aY,U,decide_true,decide_false,a_,xT];exact⟨by simp[ar,aY,Tok.v,Tok.none,U],aR.push _ _⟩
   ·have et:s.at_.toNat<T.length:=Z;obtain⟨ro,els,aa,ae⟩:=jI.resolve_left (by rintro rfl;simp at et);have l1:=J.aX aa;have am:=ae s.at_.toNat T[s.at_.toNat] (by simp[et]);simp only[Tok.cells] at am;simp-implicitDefEqProofs(disch:=try exact af) only[Ac,bg,bL,Nat.reduceAdd,Nat.reduceLeDiff,reduceIte,I.cells,eF,fu,aj,dx,aQ,dx,ee,dB,BH,wT,a8,aY,U,decide_true,decide_false,a_,xT,Ey,aa,am];refine⟨?_,aR.push _ _⟩;simp[ar,aY,U,Tok.v,et]
theorem Bl{H:J}{r:Nat}{ak br:I}{s:aA}(a8:ed H r ak br s):W (aq P ao 102 [.ptr r 0 0] H) λv H'=>v= .bool (s.aC != 0)/\H'=H:=by
 unfold ed at a8;refine cP (λ_=>ahI 0) ?_;simp-implicitDefEqProofs(disch:=try exact af) only[HO,bg,bL,Nat.reduceAdd,Nat.reduceLeDiff,reduceIte,I.cells,eF,fu,aj,dx,aQ,dx,ee,dB,GK,Lc,a8,a_]
theorem rm{H:J}{r:Nat}{ak br:I}{s:aA}{T:List Tok}(a8:ed H r ak br s)(bz:ih H ak T)(k:Int)(x:List UInt8):W (aq P ao 119 [.ptr r 0 0,.int .i64 k,.str x] H) λv H'=>v= .bool (b7 T s k x)/\aR H H':=by
 refine cP (λ_=>ahU 0) ?_;rw[xY];refine a6 (mI a8 bz) ?_;rintro _ H1 ⟨rfl,aV⟩;refine⟨aV.1,?_⟩;simp-implicitDefEqProofs(disch:=try exact af) only[xY,bg,bL,Nat.reduceAdd,Nat.reduceLeDiff,reduceIte,I.cells,eF,fu,aj,dx,aQ,dx,ee,dB,Tok.v];refine a6 (Bl (a8.aK (aV.bX _))) ?_;rintro _ bm ⟨rfl,rfl⟩;refine⟨bN _,?_⟩;by_cases U:s.aC=0
 ·by_cases aa:(ar T s.at_).kind=k
  ·simp-implicitDefEqProofs(disch:=try exact af) only[xY,bg,bL,Nat.reduceAdd,Nat.reduceLeDiff,reduceIte,I.cells,eF,fu,aj,dx,aQ,dx,ee,dB,D2,D3,a_,U,aa,bne_self_eq_false,Bool.not_false,beq_self_eq_true];exact⟨by simp[b7,U,aa],aV.bX _⟩
  ·have hq:((ar T s.at_).kind==k)=false:=by simpa using aa
   simp-implicitDefEqProofs(disch:=try exact af) only[xY,bg,bL,Nat.reduceAdd,Nat.reduceLeDiff,reduceIte,I.cells,eF,fu,aj,dx,aQ,dx,ee,dB,D2,D3,a_,U,hq,bne_self_eq_false,Bool.not_false];exact⟨by simp[b7,U,aa],aV.bX _⟩
 ·have ft:(s.aC != 0)=true:=by simpa using U
  simp-implicitDefEqProofs(disch:=try exact af) only[xY,bg,bL,Nat.reduceAdd,Nat.reduceLeDiff,reduceIte,I.cells,eF,fu,aj,dx,aQ,dx,ee,dB,D2,D3,a_,ft,Bool.not_true];exact⟨by simp[b7,U],aV.bX _⟩
theorem qu{H:J}{r:Nat}{ak br:I}{s:aA}(a8:ed H r ak br s)(s':aA):cC r H (H.set r (.row false 6 [[ak,.int .i64 s'.at_,.int .i64 s'.bR,br,.int .i64 s'.aC,.int .i64 s'.cv]]))/\ed (H.set r (.row false 6 [[ak,.int .i64 s'.at_,.int .i64 s'.bR,br,.int .i64 s'.aC,.int .i64 s'.cv]])) r ak br s':=
 ⟨dC.db (S:=(· =r)) (dC.refl _ _) (.inl rfl) _,J.get_set_same a8.lt⟩
theorem wM{H:J}{r:Nat}{T:List Tok}{ak br:I}{s:aA}(ag:e6 H r T ak br s)(e:Int):W (aq P ao 120 [.ptr r 0 0,.int .i64 e] H) λv H'=>v= .bool false/\cC r H H'/\e6 H' r T ak br (cS T e s):=by
 refine cP (λ_=>ahV 0) ?_;have a8:=ag.rd;have de:=ag.cf.one;have hA:=ag.br.one;rw[Ab];refine a6 (Bl a8) ?_;rintro _ H1 ⟨rfl,rfl⟩;refine⟨bN _,?_⟩;by_cases U:s.aC=0
 ·rw[show cS T e s={s with aC:=e,cv:=(ar T s.at_).pos} by simp[cS,U]];simp-implicitDefEqProofs(disch:=try exact af) only[w3,Ab,bg,bL,U,bne_self_eq_false,Bool.not_false];refine a6 (mI a8 ag.cf) ?_;rintro _ bm ⟨rfl,aJ⟩;refine⟨aJ.1,?_⟩;have cI:ed bm r ak br s:=a8.aK aJ;have fM:=cI;unfold ed at fM;simp-implicitDefEqProofs(disch:=try exact af) only[w3,Ab,bg,bL,Nat.reduceAdd,Nat.reduceLeDiff,reduceIte,I.cells,eF,fu,aj,dx,aQ,dx,dB,Tok.v,Ld,Ku,GK,fM,de,hA];obtain⟨m,bd⟩:=qu cI {s with aC:=e,cv:=(ar T s.at_).pos};exact a_.2 ⟨rfl,(aJ.mut _).trans m,ag.mut ((aJ.mut _).trans m) bd⟩
 ·have ft:(s.aC != 0)=true:=by simpa using U
  rw[show cS T e s=s by simp[cS,U]];simp-implicitDefEqProofs(disch:=try exact af) only[w3,Ab,bg,bL,ft,Bool.not_true];exact a_.2 ⟨rfl,dC.refl _ _,ag⟩
theorem Kb{H:J}{r:Nat}{T:List Tok}{ak br:I}{s:aA}(ag:e6 H r T ak br s)(k:Int)(x:List UInt8):W (aq P ao 136 [.ptr r 0 0,.int .i64 k,.str x] H) λv H'=>v= .bool (fj T k x s).1/\cC r H H'/\e6 H' r T ak br (fj T k x s).2:=by
 refine cP (λ_=>ah5 0) ?_;have a8:=ag.rd;have de:=ag.cf.one;have hA:=ag.br.one;rw[CB];refine a6 (rm a8 ag.cf k x) ?_;rintro _ H1 ⟨rfl,aV⟩;refine⟨aV.1,?_⟩;have cI:ed H1 r ak br s:=a8.aK aV;have fM:=cI;unfold ed at fM;cases ax:b7 T s k x with
 |false=>
  rw[show fj T k x s=(false,s) by simp[fj,ax]];simp-implicitDefEqProofs(disch:=try exact af) only[CB,bg,bL,Bool.not_false];exact a_.2 ⟨rfl,aV.mut _,ag.aK aV⟩
 |true=>
  rw[show fj T k x s=(true,aF s) by simp[fj,ax]];simp-implicitDefEqProofs(disch:=try exact af) only[CB,bg,bL,Nat.reduceAdd,Nat.reduceLeDiff,reduceIte,I.cells,eF,fu,aj,dx,aQ,dx,ee,dB,wT,fM,de,hA,Bool.not_true];obtain⟨m,bd⟩:=qu cI (aF s);exact a_.2 ⟨rfl,(aV.mut _).trans m,ag.mut ((aV.mut _).trans m) bd⟩
theorem Kc{H:J}{r:Nat}{T:List Tok}{ak br:I}{s:aA}(ag:e6 H r T ak br s)(x:List UInt8):W (aq P ao 122 [.ptr r 0 0,.str x] H) λv H'=>v= .bool (cZ T x s).1/\cC r H H'/\e6 H' r T ak br (cZ T x s).2:=by
 refine cP (λ_=>ahX 0) ?_;rw[Ad];refine a6 (Kb ag 4 x) ?_;rintro _ H1 ⟨rfl,m1,du⟩;refine⟨m1.1,?_⟩;cases ax:b7 T s 4 x with
 |true=>
  rw[show cZ T x s=(true,aF s) by simp[cZ,ax]];simp only[fj,ax,bC] at du ⊢;simp-implicitDefEqProofs(disch:=try exact af) only[Ad,bg,bL];exact a_.2 ⟨rfl,m1,du⟩
 |false=>
  rw[show cZ T x s=(false,cS T 2 s) by simp[cZ,ax]];simp only[fj,ax,bj] at du ⊢;simp-implicitDefEqProofs(disch:=try exact af) only[Ad,bg,bL];refine gP (wM du 2) ?_;rintro _ bm ⟨rfl,m2,cJ⟩;refine⟨m2.1,?_⟩;simp-implicitDefEqProofs(disch:=try exact af) only[Ad,bg,bL];exact a_.2 ⟨rfl,m1.trans m2,cJ⟩
theorem Gf{H:J}{r:Nat}{T:List Tok}{ak br:I}{s:aA}(ag:e6 H r T ak br s)(x:List UInt8):W (aq P ao 177 [.ptr r 0 0,.str x] H) λv H'=>v= .bool (eI T x s).1/\cC r H H'/\e6 H' r T ak br (eI T x s).2:=by
 refine cP (λ_=>aiq 0) ?_;have a8:=ag.rd;have de:=ag.cf.one;have hA:=ag.br.one;rw[vV];refine a6 (rm a8 ag.cf 4 x) ?_;rintro _ H1 ⟨rfl,aV⟩;refine⟨aV.1,?_⟩;have du:=ag.aK aV;have cI:=du.rd;have l1:=cI.lt;have fM:=cI;unfold ed at fM;cases ax:b7 T s 4 x with
 |false=>
  rw[show eI T x s=(false,cS T 2 s) by simp[eI,ax]];simp-implicitDefEqProofs(disch:=try exact af) only[vV,bg,bL,Bool.not_false];refine a6 (wM du 2) ?_;rintro _ bm ⟨rfl,m2,cJ⟩;refine⟨m2.1,?_⟩
  try simp only[vV]
  exact a_.2 ⟨rfl,(aV.mut _).trans m2,cJ⟩
 |true=>
  by_cases bt:50<=s.bR
  ·rw[show eI T x s=(false,cS T 4 s) by simp[eI,ax,bt]];simp-implicitDefEqProofs(disch:=try exact af) only[vV,bg,bL,Nat.reduceAdd,Nat.reduceLeDiff,reduceIte,I.cells,eF,fu,aj,dx,aQ,dx,ee,dB,DP,fM,Bool.not_true,bt,decide_true];refine a6 (wM du 4) ?_;rintro _ bm ⟨rfl,m2,cJ⟩;refine⟨m2.1,?_⟩
   try simp-implicitDefEqProofs(disch:=try exact af) only[vV]
   exact a_.2 ⟨rfl,(aV.mut _).trans m2,cJ⟩
  ·rw[show eI T x s=(true,{s with at_:=hP (s.at_+1),bR:=hP (s.bR+1)}) by simp[eI,ax,bt]];simp-implicitDefEqProofs(disch:=try exact af) only[vV,bg,bL,Nat.reduceAdd,Nat.reduceLeDiff,reduceIte,I.cells,eF,fu,aj,dx,aQ,dx,ee,dB,wT,DP,fM,cI.lt,de,hA,Bool.not_true,bt,decide_false];obtain⟨m,bd⟩:=qu cI {s with at_:=hP (s.at_+1),bR:=hP (s.bR+1)};exact a_.2 ⟨rfl,(aV.mut _).trans m,ag.mut ((aV.mut _).trans m) bd⟩
theorem JK{H:J}{r:Nat}{T:List Tok}{ak br:I}{s:aA}(ag:e6 H r T ak br s)(x:List UInt8):W (aq P ao 195 [.ptr r 0 0,.str x] H) λv H'=>v= .bool (j1 T x s).1/\cC r H H'/\e6 H' r T ak br (j1 T x s).2:=by
 refine cP (λ_=>aiG 0) ?_;have a8:=ag.rd;have de:=ag.cf.one;have hA:=ag.br.one;have iU:=a8;unfold ed at iU;simp-implicitDefEqProofs(disch:=try exact af) only[G0,HU,bg,bL,Nat.reduceAdd,Nat.reduceLeDiff,reduceIte,I.cells,eF,fu,aj,dx,aQ,dx,ee,dB,DP,iU,de,hA];obtain⟨m,bd⟩:=qu a8 (ga s);refine a6 (Kc (ag.mut m bd) x) ?_;rintro _ H1 ⟨rfl,m1,du⟩;refine⟨m1.1,?_⟩;simp only[G0];exact a_.2 ⟨rfl,m.trans m1,du⟩
end
section
def f6.cells(a:f6)(kv:I):List I:=[.int .i64 a.kind,.int .i64 a.n,.str a.name,.str a.eV,.int .i64 a.fT,kv,.int .i64 a.pos,.int .i64 a.wE,.int .i64 a.Bc,.int .i64 a.tv,.int .i64 a.ref]
mutual
def ea(H:J)(ok:Nat->Prop):bp->I->Prop
 | .mk a bQ,v=> ∃kv,v= .agg (a.cells kv)/\((kv= .ap/\bQ.length=0)\/(∃l i cap ro els,kv= .aN l i bQ.length 11 cap/\ok l/\H.get l=some (.row ro 11 els)/\gq H ok bQ (els.drop i))\/ ∃l i cap,kv= .aN l i 0 11 cap/\bQ.length=0)
def gq(H:J)(ok:Nat->Prop):List bp->List (List I)->Prop
 |[],_=>True
 |e::es,[]=>False
 |e::es,cs::qV=>ea H ok e (.agg cs)/\gq H ok es qV
end
def dP(H:J)(ok:Nat->Prop)(bQ:List bp)(kv:I):Prop:=(kv= .ap/\bQ.length=0)\/(∃l i cap ro els,kv= .aN l i bQ.length 11 cap/\ok l/\H.get l=some (.row ro 11 els)/\gq H ok bQ (els.drop i))\/ ∃l i cap,kv= .aN l i 0 11 cap/\bQ.length=0
theorem lD{H:J}{ok:Nat->Prop}{a:f6}{bQ:List bp}{v:I}:ea H ok (.mk a bQ) v↔ ∃kv,v= .agg (a.cells kv)/\dP H ok bQ kv:=by
 rw[ea];rfl
def e_(H:J)(ok:Nat->Prop)(H':J)(ok':Nat->Prop):Prop:= ∀l ro els,ok l->H.get l=some (.row ro 11 els)->ok' l/\H'.get l=some (.row ro 11 els)
mutual
theorem ea.bo{H H':J}{ok ok':Nat->Prop}(p:e_ H ok H' ok'): ∀(e:bp) (v:I),ea H ok e v->ea H' ok' e v
 | .mk a bQ,v,h=>by
  rw[ea] at h ⊢;obtain⟨kv,U,aa⟩:=h;refine⟨kv,U,?_⟩;rcases aa with aa|⟨l,i,cap,ro,els,aI,bc,dq,eZ⟩|aa
  ·exact .inl aa
  ·obtain⟨cD,cu⟩:=p l ro els bc dq;exact .inr (.inl ⟨l,i,cap,ro,els,aI,cD,cu,gq.bo p bQ _ eZ⟩)
  ·exact .inr (.inr aa)
theorem gq.bo{H H':J}{ok ok':Nat->Prop}(p:e_ H ok H' ok'): ∀(es:List bp) (cs:List (List I)),gq H ok es cs->gq H' ok' es cs
 |[],_,_=>by rw[gq];trivial
 |e::es,[],h=>by rw[gq] at h;exact h.elim
 |e::es,cs::qV,h=>by
  rw[gq] at h ⊢;exact⟨ea.bo p e _ h.1,gq.bo p es qV h.2⟩
end
theorem dP.bo{H H':J}{ok ok':Nat->Prop}(p:e_ H ok H' ok'){bQ:List bp}{v:I}(h:dP H ok bQ v):dP H' ok' bQ v:=by
 rcases h with aa|⟨l,i,cap,ro,els,aI,bc,dq,eZ⟩|aa
 ·exact .inl aa
 ·obtain⟨cD,cu⟩:=p l ro els bc dq;exact .inr (.inl ⟨l,i,cap,ro,els,aI,cD,cu,gq.bo p bQ _ eZ⟩)
 ·exact .inr (.inr aa)
theorem e_.mut{r:Nat}{H H':J}{ok ok':Nat->Prop}(m:cC r H H')(a8: ¬ok r)(az: ∀l,ok l->ok' l):e_ H ok H' ok':=λl ro els h e=>⟨az l h,m.get e (by rintro rfl;exact a8 h)⟩
theorem e_.aK{H H':J}{ok ok':Nat->Prop}(m:aR H H')(az: ∀l,ok l->ok' l):e_ H ok H' ok':=λl ro els h e=>⟨az l h,m.get e⟩
def bI(n:Nat):Nat->Prop:=λl=>n<=l
theorem ea.agg{H:J}{ok:Nat->Prop}{e:bp}{v:I}(h:ea H ok e v): ∃k n nm o d kv p t1 t2 t3 Zv,v= .agg [.int .i64 k,.int .i64 n,.str nm,.str o,.int .i64 d,kv,.int .i64 p,.int .i64 t1,.int .i64 t2,.int .i64 t3,.int .i64 Zv]/\kv.one=true:=by
 cases e with|mk a bQ=>
 rw[lD] at h;obtain⟨kv,U,aa⟩:=h;refine⟨_,_,_,_,_,kv,_,_,_,_,_,U,?_⟩;rcases aa with⟨rfl,_⟩|⟨l,i,cap,ro,els,rfl,_⟩|⟨l,i,cap,rfl,_⟩<;>rfl
theorem ea.leaf(H:J)(ok:Nat->Prop)(a:f6):ea H ok (.mk a []) (.agg (a.cells .ap)):=by
 rw[lD];exact⟨_,rfl,.inl ⟨rfl,rfl⟩⟩
theorem QE{r:Nat}{T:List Tok}{ak br:I}{s:aA}{H0:J}(ag:e6 H0 r T ak br s){l i:Nat}{cap:Option Nat}{ro:Bool}{els:List (List I)}(aZ:H0.get l=some (.row ro 2 els))(N:Nat)(all:List (bl×Int))(hS:all.length<=1000)
  (kN: ∀(j:Nat) (p:bl×Int),all[j]? =some p->els[i+j]? =some [.str p.1,.int .i64 p.2]):
  ∀(rest pre:List (bl×Int)),all=pre++rest-> ∀(n:Nat) (H:J),rest.length<n->aR H0 H->
   W (w_ (aq P ao) N n (.ptr r 0 0) (.aN l i all.length 2 cap) (.int .i64 all.length) (.int .i64 pre.length) H) λv H'=>v= .int .i64 (sQ T s rest)/\aR H0 H'
 |[],pre,bw,0,H,aU,p=>Z
 |[],pre,bw,n+1,H,aU,p=>by
  have U: ¬((pre.length:Int)<(all.length:Int)):=by rw[bw];simp
  simp-implicitDefEqProofs(disch:=try exact af) only[w_,tJ,w9,x5,reduceAdd,reduceLeDiff,reduceIte,aw,U,decide_false];exact a_.2 ⟨rfl,p⟩
 |q::rest,pre,bw,0,H,aU,p=>Z
 |(x,k)::rest,pre,bw,n+1,H,aU,p=>by
  have U:(pre.length:Int)<(all.length:Int):=by rw[bw];simp;omega
  have aY:(0:Int)<=(pre.length:Int):=Z;have he:=kN pre.length (x,k) (by rw[bw];simp);have kO:=p.get aZ;have az:=J.aX kO;have aI:((pre.length:Int)).toNat=pre.length:=Z;simp-implicitDefEqProofs(disch:=try exact af) only[w_,tJ,w9,x5,reduceAdd,reduceLeDiff,reduceIte,aw,U,decide_true,kO,aI,he];refine a6 (rm (ag.rd.aK (p.bX _)) (ag.cf.aK (p.bX _)) 4 x) ?_;rintro _ bm ⟨rfl,aJ⟩;refine⟨aJ.1,?_⟩;have ax:bm.get H.next=some (.row false 2 [[.str x,.int .i64 k]]):=aJ.get (J.ca _ _)
  have bB:=(p.bX _).trans aJ;cases be:b7 T s 4 x with
  |true=>
   simp-implicitDefEqProofs(disch:=try exact af) only[tJ,w9,x5,reduceAdd,reduceLeDiff,reduceIte,aw,ax];exact a_.2 ⟨by simp[sQ,be],bB⟩
  |false=>
   have hw:IntKind.i64.wrap ((pre.length:Int)+1)=((pre++[(x,k)]).length:Int):=by
    have et:pre.length<all.length:=Z;rw[wrap_i64 Z Z];simp
   simp-implicitDefEqProofs(disch:=try exact af) only[tJ,w9,x5,reduceAdd,reduceLeDiff,reduceIte,aw,hw];refine(QE ag aZ N all hS kN rest (pre++[(x,k)]) (by simp[bw]) n bm (by simp at aU;omega) bB).mono ?_;rintro v H' ⟨rfl,q⟩;exact⟨by simp[sQ,be],q⟩
theorem QF{H:J}{r:Nat}{T:List Tok}{ak br:I}{s:aA}(ag:e6 H r T ak br s)(fC:br≠ .ap)(lev:Nat)(oX:lev<5):W (aq P ao 171 [.ptr r 0 0,.int .i64 lev] H) λv H'=>v= .int .i64 (ml T lev s)/\aR H H':=by
 refine cP (λ_=>aip 10) ?_;have a8:=ag.rd;unfold ed at a8;obtain⟨l,i,cap,ro,els,rfl,aa,ae⟩:=ag.br.resolve_left fC;obtain⟨all,rX⟩: ∃all,mS[lev]? =some all:=⟨mS[lev]'(by simpa [mS] using oX),by simp[mS]⟩;have mR:ve[lev]? =some (all.map λp=>[I.str p.1,.int .i64 p.2]):=by
  have:ve=mS.map λrow=>row.map λp=>[I.str p.1,.int .i64 p.2]:=rfl
  rw[this,List.getElem?_map,rX];rfl
 obtain⟨l',qm,Hw,AK,mq,aI,bc,dq⟩:=ae lev _ mR;have hle:all.length<=1000:=by
  have: ∀a∈mS,a.length<=1000:=cm;exact this all (List.mem_of_getElem? rX)
 have aY:(0:Int)<=(lev:Int):=Z;have aB:(lev:Int)<((5:Nat):Int):=Z;have bz:((lev:Int)).toNat=lev:=Z;simp only[List.length_map] at aI;simp-implicitDefEqProofs(disch:=try exact af) only[tJ,w9,x5,reduceAdd,reduceLeDiff,reduceIte,aw,a8,aa,bz,aI];refine(QE ag bc 10 all hle (λj p bH=>dq j _ (by rw[List.getElem?_map,bH];rfl)) all [] rfl 10 H (by
  have: ∀a∈mS,a.length<10:=cm;exact this all (List.mem_of_getElem? rX)) (.refl _)).mono ?_
 rintro v H' ⟨rfl,q⟩;exact⟨by simp[ml,rX],q⟩
theorem RV{r:Nat}{T:List Tok}{ak br:I}{H0:J}{s0:aA}(bs:e6 H0 r T ak br s0){b t:Nat}(ax:H0.next<=b)(bz:H0.next<=t){x:bl}{k n q:Int}(d:Nat)(bd:d<=1000)(N:Nat):
  ∀(j i:Nat),i+j=d-> ∀(m:Nat) (H:J) (s:aA),j<m->cC r H0 H->ed H r ak br s->H.get b=some (.row false 2 [[.str [],.int .i64 0]])->H.get t=some (.row false 4 [[.int .i64 k,.str x,.int .i64 n,.int .i64 q]])->
   W (wX (aq P ao) N m (.ptr r 0 0) (.ptr b 0 0) (.int .i64 d) (.ptr t 0 0) (.int .i64 d) (.int .i64 i) H) λv H'=>v= .agg [.str x,.int .i64 d]/\cC r H0 H'/\e6 H' r T ak br (ov T [93] j s)
 |0,i,be,0,H,s,hm,mt,nG,gF,jS=>Z
 |0,i,be,m+1,H,s,hm,mt,nG,gF,jS=>by
  have U: ¬((i:Int)<(d:Int)):=Z;have iw:=J.aX gF;simp-implicitDefEqProofs(disch:=try exact af) only[wX,pB,ru,rq,nZ,n0,n1,n3,n4,n5,n6,n7,n8,n9,n_,oa,ob,oc,qz,qA,pA,rr,qT,reduceAdd,reduceLeDiff,reduceIte,aw,U,decide_false,gF,jS];exact a_.2 ⟨rfl,mt.db (.inr ax) _,bs.mut (mt.db (.inr ax) _) (by
   have:=bs.rd.lt;unfold ed at nG ⊢;rw[J.get_set_other Z];exact nG)⟩
 |j+1,i,be,0,H,s,hm,mt,nG,gF,jS=>Z
 |j+1,i,be,m+1,H,s,hm,mt,nG,gF,jS=>by
  have U:((i:Int)<(d:Int)):=Z;have ib:=bs.rd.lt;simp-implicitDefEqProofs(disch:=try exact af) only[wX,pB,ru,rq,nZ,n0,n1,n3,n4,n5,n6,n7,n8,n9,n_,oa,ob,oc,qz,qA,pA,rr,qT,reduceAdd,reduceLeDiff,reduceIte,aw,U,decide_true];refine a6 (Kc (bs.mut mt nG) [93]) ?_;rintro _ bm ⟨rfl,m2,cJ⟩;refine⟨m2.1,?_⟩;have hw:IntKind.i64.wrap ((i:Int)+1)=((i+1:Nat):Int):=by rw[wrap_i64 Z Z];simp
  simp-implicitDefEqProofs(disch:=try exact af) only[pB,ru,rq,nZ,n0,n1,n3,n4,n5,n6,n7,n8,n9,n_,oa,ob,oc,qz,qA,pA,rr,qT,reduceAdd,reduceLeDiff,reduceIte,aw,hw];refine(RV bs ax bz d bd N j (i+1) Z m bm _ Z (mt.trans m2) cJ.rd (m2.get gF Z) (m2.get jS Z)).mono ?_;rintro v H' ⟨rfl,cD,cu⟩;exact⟨rfl,cD,cu⟩
theorem Lm{r:Nat}{T:List Tok}{ak br:I}{H0:J}{s0:aA}(bs:e6 H0 r T ak br s0){b t:Nat}(ax:H0.next<=b)(bz:H0.next<=t)(As:b≠t)(d:Nat)(bd:d<=1000)(N:Nat)(dU:d<N){H:J}{s:aA}(mt:cC r H0 H)(cp:ed H r ak br s)(gF:H.get b=some (.row false 2 [[.str [],.int .i64 0]]))
  (jS:H.get t=some (.row false 4 [[.int .i64 (ar T s.at_).kind,.str (ar T s.at_).text,.int .i64 (ar T s.at_).n,.int .i64 (ar T s.at_).pos]])) {c:Bool}
  (aS:((ar T s.at_).kind != 1&&(!b7 T s 3 [105,110,116]&& !b7 T s 3 [98,111,111,108]))=c):
  W (rq (aq P ao) N H (.ptr r 0 0) (.ptr b 0 0) (.int .i64 d) (.ptr t 0 0) (.bool c)) λv H'=>v= .agg [.str (jw T d s).1.1,.int .i64 (jw T d s).1.2]/\cC r H0 H'/\e6 H' r T ak br (jw T d s).2:=by
 have ib:=bs.rd.lt;have iw:=J.aX gF;have et:=J.aX jS;have hle:=mt.1;have ag:=bs.mut mt cp;cases c with
 |true=>
  rw[show jw T d s=(([],0),cS T 2 s) by simp only[jw,aS,bC]];simp-implicitDefEqProofs(disch:=try exact af) only[pB,ru,rq,nZ,n0,n1,n3,n4,n5,n6,n7,n8,n9,n_,oa,ob,oc,qz,qA,pA,rr,qT,reduceAdd,reduceLeDiff,reduceIte,aw];refine a6 (wM ag 2) ?_;rintro _ H1 ⟨rfl,m1,du⟩;refine⟨m1.1,?_⟩;have pY:=m1.get gF Z;have ap3:=J.aX pY;simp-implicitDefEqProofs(disch:=try exact af) only[pB,ru,rq,nZ,n0,n1,n3,n4,n5,n6,n7,n8,n9,n_,oa,ob,oc,qz,qA,pA,rr,qT,reduceAdd,reduceLeDiff,reduceIte,aw,pY];have m2:=(mt.trans m1).db (.inr ax) (.row false 2 [[.str [],.int .i64 0]]);refine a_.2 ⟨rfl,m2,bs.mut m2 ?_⟩;have:=du.rd;unfold ed at this ⊢
  rw[J.get_set_other Z];exact this
 |false=>
  rw[show jw T d s=(((ar T s.at_).text,(d:Int)),ov T [93] d (aF s)) by simp[jw,aS]];have de:=ag.cf.one;have hA:=ag.br.one;have WZ:=cp;unfold ed at WZ;simp-implicitDefEqProofs(disch:=try exact af) only[pB,ru,rq,nZ,n0,n1,n3,n4,n5,n6,n7,n8,n9,n_,oa,ob,oc,qz,qA,pA,rr,qT,reduceAdd,reduceLeDiff,reduceIte,aw,WZ,de,hA];obtain⟨m1,mV⟩:=qu cp (aF s);exact RV bs ax bz d bd N d 0 Z N _ _ dU (mt.trans m1) mV (m1.get gF Z) (m1.get jS Z)
theorem Vg{r:Nat}{T:List Tok}{ak br:I}{H0:J}{s0:aA}(bs:e6 H0 r T ak br s0){b:Nat}(ax:H0.next<=b)(d:Nat)(bd:d<=1000)(N:Nat)(dU:d<N){H:J}{s:aA}(mt:cC r H0 H)(cp:ed H r ak br s)(gF:H.get b=some (.row false 2 [[.str [],.int .i64 0]])):
  W (oc (aq P ao) N (.ptr r 0 0) (.ptr b 0 0) (.int .i64 d) H) λv H'=>v= .agg [.str (jw T d s).1.1,.int .i64 (jw T d s).1.2]/\cC r H0 H'/\e6 H' r T ak br (jw T d s).2:=by
 have ib:=bs.rd.lt;have iw:=J.aX gF;have hle:=mt.1;rw[oc];refine a6 (mI cp (bs.mut mt cp).cf) ?_;rintro _ H1 ⟨rfl,aV⟩;refine⟨aV.1,?_⟩;have aqr:=aV.1;have aJ:=aV.bX (.row false 4 [[.int .i64 (ar T s.at_).kind,.str (ar T s.at_).text,.int .i64 (ar T s.at_).n,.int .i64 (ar T s.at_).pos]]);have jS:=J.ca H1 (.row false 4 [[.int .i64 (ar T s.at_).kind,.str (ar T s.at_).text,.int .i64 (ar T s.at_).n,.int .i64 (ar T s.at_).pos]]);have ag:=bs.mut mt cp;by_cases ah:(ar T s.at_).kind=1
 ·have e3:((ar T s.at_).kind != 1)=false:=by simpa using ah
  simp-implicitDefEqProofs(disch:=try exact af) only[Tok.v,reduceAdd,reduceLeDiff,reduceIte,aw,e3,nZ,n0,n1,n3,n4,n5,n6,n7,n8,n9,n_,oa,ob];exact Lm bs ax Z Z d bd N dU (mt.trans (aJ.mut _)) (cp.aK aJ) (aJ.get gF) jS (by simp[ah])
 ·have e3:((ar T s.at_).kind != 1)=true:=by simpa using ah
  simp-implicitDefEqProofs(disch:=try exact af) only[Tok.v,reduceAdd,reduceLeDiff,reduceIte,aw,e3,nZ,n0,n1,n3,n4,n5,n6,n7,n8,n9,n_,oa,ob];refine gP (rm (cp.aK aJ) (ag.cf.aK aJ) 3 _) ?_;rintro _ bm ⟨rfl,bB⟩;refine⟨bB.1,?_⟩;have bK:=aJ.trans bB;have Nb:=bB.1;cases be:b7 T s 3 [105,110,116] with
  |true=>
   simp-implicitDefEqProofs(disch:=try exact af) only[reduceAdd,reduceLeDiff,reduceIte,aw,nZ,n0,n1,n3,n4,n5,n6,n7,n8,n9,n_,oa,ob,Bool.not_true];exact Lm bs ax Z Z d bd N dU (mt.trans (bK.mut _)) (cp.aK bK) (bK.get gF) (bB.get jS) (by simp[be])
  |false=>
   simp-implicitDefEqProofs(disch:=try exact af) only[reduceAdd,reduceLeDiff,reduceIte,aw,nZ,n0,n1,n3,n4,n5,n6,n7,n8,n9,n_,oa,ob,Bool.not_false];refine gP (rm (cp.aK bK) (ag.cf.aK bK) 3 _) ?_;rintro _ cT ⟨rfl,c8⟩;refine⟨c8.1,?_⟩;have fc:=bK.trans c8;simp-implicitDefEqProofs(disch:=try exact af) only[reduceAdd,reduceLeDiff,reduceIte,aw,nZ,n0,n1,n3,n4,n5,n6,n7,n8,n9,n_,oa,ob];exact Lm bs ax Z Z d bd N dU (mt.trans (fc.mut _)) (cp.aK fc) (fc.get gF) ((bB.trans c8).get jS) (by simp[be,ah])
theorem af3{r:Nat}{T:List Tok}{ak br:I}{H0:J}{s0:aA}(bs:e6 H0 r T ak br s0){b:Nat}(ax:H0.next<=b)(N:Nat)(dU:3<N):
  ∀(n d:Nat),n+d=3-> ∀(m:Nat) (H:J) (s:aA),n<m->cC r H0 H->ed H r ak br s->H.get b=some (.row false 2 [[.str [],.int .i64 0]])->
   W (wY (aq P ao) N m (.ptr r 0 0) (.ptr b 0 0) (.int .i64 d) H) λv H'=> ∃p:(bl×Int)×aA,p=(match jx T n d s with| .inr s'=>(([],0),s')| .inl (d,s')=>jw T d s')/\v= .agg [.str p.1.1,.int .i64 p.1.2]/\cC r H0 H'/\e6 H' r T ak br p.2:=by
 intro n
 induction n with
 |zero=>
  intro d bd m H s hm mt cp gF;obtain⟨m,rfl⟩: ∃k,m=k+1:=⟨m-1,Z⟩;have lp:d=3:=Z;subst lp;have ag:=bs.mut mt cp;have ib:=bs.rd.lt;have iw:=J.aX gF;simp only[wY];rw[pA];refine a6 (rm cp ag.cf 4 [91]) ?_;rintro _ H1 ⟨rfl,aV⟩;refine⟨aV.1,?_⟩;have pY:=aV.get gF;cases be:b7 T s 4 [91] with
  |true=>
   simp-implicitDefEqProofs(disch:=try exact af) only[pB,ru,rq,nZ,n0,n1,n3,n4,n5,n6,n7,n8,n9,n_,oa,ob,oc,qz,qA,pA,rr,qT,reduceAdd,reduceLeDiff,reduceIte,aw,beq_self_eq_true,Int.cast_ofNat_Int];refine a6 (wM (ag.aK aV) 4) ?_;rintro _ bm ⟨rfl,m2,cJ⟩;refine⟨m2.1,?_⟩;have Es:=m2.get pY Z;have vO:=J.aX Es;simp-implicitDefEqProofs(disch:=try exact af) only[pB,ru,rq,nZ,n0,n1,n3,n4,n5,n6,n7,n8,n9,n_,oa,ob,oc,qz,qA,pA,rr,qT,reduceAdd,reduceLeDiff,reduceIte,aw,Es];have m3:=((mt.trans (aV.mut _)).trans m2).db (.inr ax) (.row false 2 [[.str [],.int .i64 0]]);refine a_.2 ⟨(([],0),cS T 4 s),by simp[jx,be],rfl,m3,bs.mut m3 ?_⟩
   have:=cJ.rd;unfold ed at this ⊢;rw[J.get_set_other Z];exact this
  |false=>
   simp-implicitDefEqProofs(disch:=try exact af) only[qA,qz,reduceAdd,reduceLeDiff,reduceIte,aw];refine(Vg bs ax 3 Z N dU (mt.trans (aV.mut _)) (cp.aK aV) pY).mono ?_;rintro v H' ⟨rfl,cD,cu⟩;exact⟨jw T 3 s,by simp[jx,be],rfl,cD,cu⟩
 |succ n aT=>
  intro d bd m H s hm mt cp gF;obtain⟨m,rfl⟩: ∃k,m=k+1:=⟨m-1,Z⟩;have ag:=bs.mut mt cp;have ib:=bs.rd.lt;have iw:=J.aX gF;have de:=ag.cf.one;have hA:=ag.br.one;simp only[wY];rw[pA];refine a6 (rm cp ag.cf 4 [91]) ?_;rintro _ H1 ⟨rfl,aV⟩;refine⟨aV.1,?_⟩;have pY:=aV.get gF;have vP:=cp.aK aV;have Eg:=vP;unfold ed at Eg;cases be:b7 T s 4 [91] with
  |true=>
   have ae:((d:Int)==3)=false:=by simp;omega
   have hw:IntKind.i64.wrap ((d:Int)+1)=((d+1:Nat):Int):=by rw[wrap_i64 Z Z];simp
   obtain⟨m2,mW⟩:=qu vP (aF s);simp-implicitDefEqProofs(disch:=try exact af) only[pB,ru,rq,nZ,n0,n1,n3,n4,n5,n6,n7,n8,n9,n_,oa,ob,oc,qz,qA,pA,rr,qT,reduceAdd,reduceLeDiff,reduceIte,aw,ae,hw,Eg,de,hA];refine(aT (d+1) Z m _ _ Z ((mt.trans (aV.mut _)).trans m2) mW (m2.get pY Z)).mono ?_;rintro v H' ⟨p,bw,rfl,cD,cu⟩;exact⟨p,by rw[bw];simp[jx,be],rfl,cD,cu⟩
  |false=>
   simp-implicitDefEqProofs(disch:=try exact af) only[qA,qz,reduceAdd,reduceLeDiff,reduceIte,aw];refine(Vg bs ax d Z N Z (mt.trans (aV.mut _)) (cp.aK aV) pY).mono ?_;rintro v H' ⟨rfl,cD,cu⟩;exact⟨jw T d s,by simp[jx,be],rfl,cD,cu⟩
theorem KT{H:J}{r:Nat}{T:List Tok}{ak br:I}{s:aA}(ag:e6 H r T ak br s):W (aq P ao 101 [.ptr r 0 0] H) λv H'=>v= .agg [.str (eL T s).1.1,.int .i64 (eL T s).1.2]/\cC r H H'/\e6 H' r T ak br (eL T s).2:=by
 refine cP (λ_=>ahH 10) ?_;simp only[qT,cy,rr];have p:=aR.push H (.row false 2 [[.str [],.int .i64 0]]);refine(af3 ag (bN _) 10 Z 3 0 rfl 10 _ s Z (p.mut _) (ag.rd.aK p) (J.ca _ _)).mono ?_;rintro v H' ⟨q,bi,rfl,cD,cu⟩;have:q=eL T s:=by rw[bi];rfl
 subst this;exact⟨rfl,cD,cu⟩
end
section
theorem jP(l:Nat)(cs:List I)(h:cs.length=11)(bt:cs.all I.one=true):dK P l 96 1 [(0,.agg cs)]=some (.aN l 0 1 11 (some 1),.row false 11 [cs]):=by
 have:dK P l 96 1 [(0,.agg cs)]=(qx 11 (List.replicate 1 [.int .i64 0,.int .i64 0,.str [],.str [],.int .i64 0,.ap,.int .i64 0,.int .i64 0,.int .i64 0,.int .i64 0,.int .i64 0]) [(0,.agg cs)]).bind λels=>some (.aN l 0 1 11 (some 1),.row false 11 els):=ad
 rw[this];simp[qx,I.cells,h,bt]
theorem B7(l:Nat)(cs bU:List I)(h:cs.length=11)(bt:cs.all I.one=true)(bZ:bU.length=11)(Ff:bU.all I.one=true):dK P l 96 2 [(0,.agg cs),(1,.agg bU)]=some (.aN l 0 2 11 (some 2),.row false 11 [cs,bU]):=by
 have:dK P l 96 2 [(0,.agg cs),(1,.agg bU)]=(qx 11 (List.replicate 2 [.int .i64 0,.int .i64 0,.str [],.str [],.int .i64 0,.ap,.int .i64 0,.int .i64 0,.int .i64 0,.int .i64 0,.int .i64 0]) [(0,.agg cs),(1,.agg bU)]).bind λels=>some (.aN l 0 2 11 (some 2),.row false 11 els):=ad
 rw[this];have a8:List.replicate 2 [I.int .i64 0,.int .i64 0,.str [],.str [],.int .i64 0,.ap,.int .i64 0,.int .i64 0,.int .i64 0,.int .i64 0,.int .i64 0]=[[I.int .i64 0,.int .i64 0,.str [],.str [],.int .i64 0,.ap,.int .i64 0,.int .i64 0,.int .i64 0,.int .i64 0,.int .i64 0],[I.int .i64 0,.int .i64 0,.str [],.str [],.int .i64 0,.ap,.int .i64 0,.int .i64 0,.int .i64 0,.int .i64 0,.int .i64 0]]:=rfl;rw[a8];simp[qx,I.cells,h,bt,bZ,Ff]
theorem e_.push{H:J}{ok ok':Nat->Prop}(b:dY)(az: ∀l,ok l->ok' l):e_ H ok (H.push b) ok':=e_.aK (aR.push H b) az
theorem e_.set{H:J}{ok ok':Nat->Prop}{l:Nat}(b:dY)(h: ¬ok l)(az: ∀l,ok l->ok' l):e_ H ok (H.set l b) ok':=λj ro els bH e=>⟨az j bH,by rw[J.get_set_other (by rintro rfl;exact h bH)];exact e⟩
theorem e_.q4{H:J}{ok ok':Nat->Prop}(h: ∀l,ok l->ok' l):e_ H ok H ok':=λl ro els az e=>⟨h l az,e⟩
theorem ea.cells{H:J}{ok:Nat->Prop}{e:bp}{v:I}(h:ea H ok e v): ∃cs,v= .agg cs/\cs.length=11/\cs.all I.one=true:=by
 obtain⟨k,n,nm,o,d,kv,p,t1,t2,t3,Zv,rfl,U⟩:=h.agg;exact⟨_,rfl,rfl,by simp only[List.all_cons,List.all_nil,iF,jO,U,Bool.and_self]⟩
theorem ea.same{H:J}{ok:Nat->Prop}{e:bp}{v:I}(h:ea H ok e v):cj (some v) v=true:=by
 cases e with|mk a bQ=>
 rw[lD] at h;obtain⟨kv,rfl,aa⟩:=h;have:I.beq kv kv=true:=by rcases aa with⟨rfl,_⟩|⟨l,i,cap,ro,els,rfl,_⟩|⟨l,i,cap,rfl,_⟩<;>simp[I.beq]
 simp[cj,I.beq,jR.beq,f6.cells,this]
def rL(ok:Nat->Prop)(H:J)(r:Nat)(T:List Tok)(ak br:I)(e:bp)(s':aA)(v:I)(H':J):Prop:=cC r H H'/\e6 H' r T ak br s'/\ea H' ok e v
abbrev fZ(H:J):=rL (bI H.next) H
theorem fZ.box{H hK:J}{r:Nat}{T:List Tok}{ak br:I}{s s':aA}{a:f6}{bQ:List bp}{kv:I}{b:Nat}{lo:Nat}(ag:e6 H r T ak br s)(m:cC r H hK)(bd:ed hK r ak br s')(ax:H.next<=b)(ko:b<lo)(ah:dP hK (bI lo) bQ kv)(hj:dY):
  fZ H r T ak br (.mk a bQ) s' (.agg (a.cells kv)) (hK.set b hj):=by
 have az:=ag.rd.lt;have fr:=m.db (.inr ax) hj;refine⟨fr,ag.mut fr ?_,?_⟩
 ·unfold ed at bd ⊢;rw[J.get_set_other Z];exact bd
 ·rw[lD];exact⟨kv,rfl,ah.bo (e_.set _ (by unfold bI;omega) λl az=>by unfold bI at*;omega)⟩
theorem dP.nil(H:J)(ok:Nat->Prop):dP H ok [] .ap:= .inl ⟨rfl,rfl⟩
theorem Qd{H:J}{r:Nat}{T:List Tok}{ak br:I}{s:aA}(ag:e6 H r T ak br s):W (aq P ao 188 [.ptr r 0 0] H) (fZ H r T ak br (vH T s).1 (vH T s).2):=by
 refine cP (λ_=>aiz 0) ?_;have az:=ag.rd.lt;have de:=ag.cf.one;have hA:=ag.br.one;simp-implicitDefEqProofs(disch:=try exact af) only[xc,CG,reduceAdd,reduceLeDiff,reduceIte,aw];refine a6 (mI (ag.rd.aK (aR.push _ _)) (ag.cf.aK (aR.push _ _))) ?_;rintro _ bm ⟨rfl,aJ⟩;refine⟨aJ.1,?_⟩;have jT:=aJ.1;simp only[J.b2] at jT;have bP:=((aR.push H _).trans aJ).mut (· =r);have cI:=ag.rd.aK ((aR.push H _).trans aJ);unfold ed at cI;have ck:=aJ.get (J.ca H _);cases bz:(ar T s.at_).text==[116,114,117,101] with
 |true=>
  simp-implicitDefEqProofs(disch:=try exact af) only[xc,CG,reduceAdd,reduceLeDiff,reduceIte,aw,Tok.v,cI,ck,de,hA,bz];simp only[vH,bz,bC];refine a_.2 ?_;refine fZ.box (a:={kind:=2,n:=1,pos:=(ar T s.at_).pos}) (kv:= .ap) (s':=aF s) (lo:=H.next+1) ag ?_ ?_ ?_ ?_ (dP.nil _ _) _
  ·(repeat (first|exact bP|refine dC.bX ?_ _|refine dC.db (S:=(· =r)) ?_ (.inl rfl) _|refine dC.db ?_ (.inr (by(first|omega|(simp only[J.b2,J.e9];omega)))) _))
  ·(unfold ed;simp-implicitDefEqProofs(disch:=try exact af) only[dB,cI,aF,ga])
  ·exact bN _
  ·exact Nat.lt_succ_self _
 |false=>
  simp-implicitDefEqProofs(disch:=try exact af) only[xc,CG,reduceAdd,reduceLeDiff,reduceIte,aw,Tok.v,cI,ck,de,hA,bz];simp only[vH,bz,bj];refine a_.2 ?_;refine fZ.box (a:={kind:=2,n:=0,pos:=(ar T s.at_).pos}) (kv:= .ap) (s':=aF s) (lo:=H.next+1) ag ?_ ?_ ?_ ?_ (dP.nil _ _) _
  ·(repeat (first|exact bP|refine dC.bX ?_ _|refine dC.db (S:=(· =r)) ?_ (.inl rfl) _|refine dC.db ?_ (.inr (by(first|omega|(simp only[J.b2,J.e9];omega)))) _))
  ·(unfold ed;simp-implicitDefEqProofs(disch:=try exact af) only[dB,cI,aF,ga])
  ·exact bN _
  ·exact Nat.lt_succ_self _
theorem adb{H:J}{r:Nat}{T:List Tok}{ak br:I}{s:aA}(ag:e6 H r T ak br s):W (aq P ao 189 [.ptr r 0 0] H) (fZ H r T ak br (Cl T s).1 (Cl T s).2):=by
 refine cP (λ_=>aiA 0) ?_;have az:=ag.rd.lt;have de:=ag.cf.one;have hA:=ag.br.one;simp-implicitDefEqProofs(disch:=try exact af) only[CH,reduceAdd,reduceLeDiff,reduceIte,aw];refine a6 (mI (ag.rd.aK (aR.push _ _)) (ag.cf.aK (aR.push _ _))) ?_;rintro _ bm ⟨rfl,aJ⟩;refine⟨aJ.1,?_⟩;have jT:=aJ.1;simp only[J.b2] at jT;have bP:=((aR.push H _).trans aJ).mut (· =r);have nB:=ag.rd.aK ((aR.push H _).trans aJ);have cI:=nB;unfold ed at cI;have ck:=aJ.get (J.ca H _);obtain⟨m3,lp⟩:=qu nB (aF s);simp-implicitDefEqProofs(disch:=try exact af) only[CH,reduceAdd,reduceLeDiff,reduceIte,aw,Tok.v,cI,de,hA];refine a6 (KT (ag.mut (bP.trans m3) lp)) ?_
 rintro _ ct ⟨rfl,m4,fa⟩;refine⟨m4.1,?_⟩;have fV:=m4.get (m3.get ck Z) Z;have yc:=J.aX fV;replace bP:=(bP.trans m3).trans m4;simp-implicitDefEqProofs(disch:=try exact af) only[CH,reduceAdd,reduceLeDiff,reduceIte,aw,fV];refine a_.2 ?_;exact fZ.box (a:={kind:=3,eV:=(eL T (aF s)).1.1,fT:=(eL T (aF s)).1.2,pos:=(ar T s.at_).pos}) (kv:= .ap) (lo:=H.next+1) ag bP fa.rd (bN _) (Nat.lt_succ_self _) (dP.nil _ _) _
theorem adj{H:J}{r:Nat}{T:List Tok}{ak br:I}{s:aA}(ag:e6 H r T ak br s):W (aq P ao 192 [.ptr r 0 0] H) (fZ H r T ak br (pU T s).1 (pU T s).2):=by
 refine cP (λ_=>aiD 0) ?_;have az:=ag.rd.lt;have de:=ag.cf.one;have hA:=ag.br.one;simp-implicitDefEqProofs(disch:=try exact af) only[tL,x6,reduceAdd,reduceLeDiff,reduceIte,aw];refine a6 (mI (ag.rd.aK (aR.push _ _)) (ag.cf.aK (aR.push _ _))) ?_;rintro _ bm ⟨rfl,aJ⟩;refine⟨aJ.1,?_⟩;have jT:=aJ.1;simp only[J.b2] at jT;have bP:=((aR.push H _).trans aJ).mut (· =r);have nB:=ag.rd.aK ((aR.push H _).trans aJ);have cI:=nB;unfold ed at cI;have ck:=aJ.get (J.ca H _);obtain⟨m3,lp⟩:=qu nB (aF s);simp-implicitDefEqProofs(disch:=try exact af) only[tL,x6,reduceAdd,reduceLeDiff,reduceIte,aw,Tok.v,cI,de,hA];refine a6 (Gf (ag.mut (bP.trans m3) lp) [40]) ?_
 rintro _ ct ⟨rfl,m4,fa⟩;refine⟨m4.1,?_⟩;have fV:=m4.get (m3.get ck Z) Z;have yc:=J.aX fV;replace bP:=(bP.trans m3).trans m4;cases bt:(eI T [40] (aF s)).1 with
 |true=>
  rw[show pU T s=(.mk {kind:=11,pos:=(ar T s.at_).pos} [],(j1 T [41] (eI T [40] (aF s)).2).2) by simp only[pU,bt,bC]];simp-implicitDefEqProofs(disch:=try exact af) only[tL,x6,reduceAdd,reduceLeDiff,reduceIte,aw];refine a6 (JK fa [41]) ?_;rintro _ dp ⟨rfl,m5,fg⟩;refine⟨m5.1,?_⟩;have gz:=m5.get fV Z;have C0:=J.aX gz;simp-implicitDefEqProofs(disch:=try exact af) only[tL,x6,reduceAdd,reduceLeDiff,reduceIte,aw,gz];refine a_.2 ?_;exact fZ.box (a:={kind:=11,pos:=(ar T s.at_).pos}) (kv:= .ap) (lo:=H.next+1) ag (bP.trans m5) fg.rd (bN _) (Nat.lt_succ_self _) (dP.nil _ _) _
 |false=>
  rw[show pU T s=(.mk {kind:=11,pos:=(ar T s.at_).pos} [],(eI T [40] (aF s)).2) by simp only[pU,bt,bj]];simp-implicitDefEqProofs(disch:=try exact af) only[tL,x6,reduceAdd,reduceLeDiff,reduceIte,aw,fV];refine a_.2 ?_;exact fZ.box (a:={kind:=11,pos:=(ar T s.at_).pos}) (kv:= .ap) (lo:=H.next+1) ag bP fa.rd (bN _) (Nat.lt_succ_self _) (dP.nil _ _) _
end
section
theorem rL.fin{ok:Nat->Prop}{H dR:J}{r:Nat}{T:List Tok}{ak br:I}{s s':aA}{a:f6}{bQ:List bp}{kv:I}(ag:e6 H r T ak br s)(m:cC r H dR)(bd:ed dR r ak br s')(ah:dP dR ok bQ kv):rL ok H r T ak br (.mk a bQ) s' (.agg (a.cells kv)) dR:=
 ⟨m,ag.mut m bd,lD.2 ⟨kv,rfl,ah⟩⟩
theorem dP.qF{H:J}{ok:Nat->Prop}{L:Nat}{e:bp}{cs:List I}{cap:Option Nat}{ro:Bool}(aZ:H.get L=some (.row ro 11 [cs]))(az:ok L)(h:ea H ok e (.agg cs)):dP H ok [e] (.aN L 0 1 11 cap):=by
 refine .inr (.inl ⟨L,0,cap,ro,[cs],rfl,az,aZ,?_⟩);simp only[List.drop_zero];rw[gq,gq];exact⟨h,trivial⟩
theorem dP.B8{H:J}{ok:Nat->Prop}{L:Nat}{e f:bp}{cs bU:List I}{cap:Option Nat}{ro:Bool}(aZ:H.get L=some (.row ro 11 [cs,bU]))(az:ok L)(h:ea H ok e (.agg cs))(bZ:ea H ok f (.agg bU)):dP H ok [e,f] (.aN L 0 2 11 cap):=by
 refine .inr (.inl ⟨L,0,cap,ro,[cs,bU],rfl,az,aZ,?_⟩);simp only[List.drop_zero];rw[gq,gq,gq];exact⟨h,bZ,trivial⟩
theorem ea.mut{H H':J}{ok ok':Nat->Prop}{r:Nat}{e:bp}{v:I}(h:ea H ok e v)(m:cC r H H')(a8: ¬ok r)(az: ∀l,ok l->ok' l):ea H' ok' e v:=ea.bo (e_.mut m a8 az) e v h
theorem ea.new{H H':J}{ok:Nat->Prop}{n:Nat}{e:bp}{v:I}(h:ea H (bI n) e v)(m:dC (· <n) H H')(az: ∀l,n<=l->ok l):ea H' ok e v:=
 ea.bo (λl ro els dD g=>⟨az l dD,m.get g (Nat.not_lt.2 dD)⟩) e v h
theorem Qx{ok:Nat->Prop}{H0 H:J}{r:Nat}{T:List Tok}{ak br:I}{s0 s:aA}{e:bp}{cs:List I}(bs:e6 H0 r T ak br s0)(he:ea H0 ok e (.agg cs))(hlen:cs.length=11)(dN:cs.all I.one=true)(ko: ¬ok r)(zX: ∀l,H0.next<=l->ok l){b3 eB ra:Nat}{k n q pos:Int}{x:bl}(bP:cC r H0 H)(cp:ed H r ak br s)
  (ae:H.get b3=some (.row false 11 [cs])) {gn:List I} (am:H.get eB=some (.row false 11 [gn])) (cn:gn.length=11) (aG:H.get ra=some (.row false 4 [[.int .i64 k,.str x,.int .i64 n,.int .i64 q]])) (eO:H0.next<=b3) (fV:H0.next<=eB) (p_:H0.next<=ra) (s5:b3≠eB):
  W (y9 (aq P ao) (.ptr r 0 0) (.ptr b3 0 0) (.ptr eB 0 0) (.int .i64 pos) (.ptr ra 0 0) H) (rL ok H0 r T ak br (.mk {kind:=5,name:=x,pos:=pos} [e]) (aF s)):=by
 have az:=bs.rd.lt;have de:=bs.cf.one;have hA:=bs.br.one;have cI:=cp;unfold ed at cI;have ib:=cp.lt;have gS:=J.aX ae;have h7:=J.aX am;have FX:=J.aX aG;have hle:=bP.1;have bz:List.take 11 cs=cs:=List.take_of_length_le Z;have aM: ∀l,dK P l 96 1 [(0,.agg cs)]=some (.aN l 0 1 11 (some 1),.row false 11 [cs]):=λl=>jP l cs hlen dN
 have bd:List.drop 11 gn=[]:=List.drop_of_length_le Z;simp-implicitDefEqProofs(disch:=try exact af) only[y9,vW,reduceAdd,reduceLeDiff,reduceIte,aw,cI,de,hA,ae,am,aG,bz,aM,bd];refine a_.2 ?_;refine rL.fin (a:={kind:=5,name:=x,pos:=pos}) (kv:= .aN H.next 0 1 11 (some 1)) bs ?_ ?_ (dP.qF (ro:=false) ?_ (zX _ Z) (he.mut (r:=r) ?_ ko λ_ h=>h))
 ·(repeat (first|exact bP|refine dC.bX ?_ _|refine dC.db (S:=(· =r)) ?_ (.inl rfl) _|refine dC.db ?_ (.inr (by(first|omega|(simp only[J.b2,J.e9];omega)))) _))
 ·(unfold ed;simp-implicitDefEqProofs(disch:=try exact af) only[dB,cI,aF,ga])
 ·simp-implicitDefEqProofs(disch:=try exact af) only[dB]
 ·(repeat (first|exact bP|refine dC.bX ?_ _|refine dC.db (S:=(· =r)) ?_ (.inl rfl) _|refine dC.db ?_ (.inr (by(first|omega|(simp only[J.b2,J.e9];omega)))) _))
theorem abn{ok:Nat->Prop}{H:J}{r:Nat}{T:List Tok}{ak br:I}{s:aA}{e:bp}{v:I}(ag:e6 H r T ak br s)(he:ea H ok e v)(ko: ¬ok r)(zX: ∀l,H.next<=l->ok l):W (aq P ao 185 [.ptr r 0 0,v] H) (rL ok H r T ak br (kI T e s).1 (kI T e s).2):=by
 refine cP (λ_=>aiw 0) ?_;obtain⟨cs,rfl,hlen,dN⟩:=he.cells;have az:=ag.rd.lt;have de:=ag.cf.one;have hA:=ag.br.one;have ij: ∀l,eK l (.agg cs)=some (.ptr l 0 0,.row false 11 [cs]):=λl=>by rw[h8 l cs dN,hlen]
 simp-implicitDefEqProofs(disch:=try exact af) only[vW,reduceAdd,reduceLeDiff,reduceIte,aw,ij];have aV:=(aR.push H (.row false 11 [cs])).bX (.row false 11 [[.int .i64 0,.int .i64 0,.str [],.str [],.int .i64 0,.ap,.int .i64 0,.int .i64 0,.int .i64 0,.int .i64 0,.int .i64 0]]);refine a6 (mI (ag.rd.aK aV) (ag.cf.aK aV)) ?_;rintro _ bm ⟨rfl,aJ⟩;refine⟨aJ.1,?_⟩;have jT:=aJ.1;simp only[J.b2] at jT;have bP:=(aV.trans aJ).mut (· =r);have nB:=ag.rd.aK (aV.trans aJ);have cI:=nB;unfold ed at cI;have ae:bm.get H.next=some (.row false 11 [cs]):=by rw[aJ.2 _ (by simp only[J.b2];omega)];simp-implicitDefEqProofs(disch:=try exact af) only[dB]
 have am:bm.get (H.next+1)=some (.row false 11 [[.int .i64 0,.int .i64 0,.str [],.str [],.int .i64 0,.ap,.int .i64 0,.int .i64 0,.int .i64 0,.int .i64 0,.int .i64 0]]):=by rw[aJ.2 _ (by simp only[J.b2];omega)];simp-implicitDefEqProofs(disch:=try exact af) only[dB]
 obtain⟨m3,lp⟩:=qu nB (aF s);simp-implicitDefEqProofs(disch:=try exact af) only[vW,reduceAdd,reduceLeDiff,reduceIte,aw,Tok.v,cI,de,hA];have e2:=ag.mut (bP.trans m3) lp;refine a6 (mI e2.rd e2.cf) ?_;rintro _ ct ⟨rfl,bK⟩;refine⟨bK.1,?_⟩;have Fe:=bK.1;simp only[J.e9] at Fe;have fa:=e2.aK bK;have yi:=(bP.trans m3).trans (bK.mut _);have s5:=bK.get (m3.get ae Z);have E3:=bK.get (m3.get am Z);have c8:=aR.push ct (.row false 4 [[.int .i64 (ar T (aF s).at_).kind,.str (ar T (aF s).at_).text,.int .i64 (ar T (aF s).at_).n,.int .i64 (ar T (aF s).at_).pos]]);have Ye:=J.ca ct (.row false 4 [[.int .i64 (ar T (aF s).at_).kind,.str (ar T (aF s).at_).text,.int .i64 (ar T (aF s).at_).n,.int .i64 (ar T (aF s).at_).pos]])
 by_cases ah:(ar T (aF s).at_).kind=1
 ·have e3:((ar T (aF s).at_).kind != 1)=false:=by simpa using ah
  rw[show kI T e s=(.mk {kind:=5,name:=(ar T (aF s).at_).text,pos:=(ar T s.at_).pos} [e],aF (aF s)) by simp only[kI,e3,bj]];simp-implicitDefEqProofs(disch:=try exact af) only[vW,reduceAdd,reduceLeDiff,reduceIte,aw,Tok.v,e3];exact Qx ag he hlen dN ko zX (yi.trans (c8.mut _)) (fa.rd.aK c8) (c8.get s5) (c8.get E3) rfl Ye Z Z Z Z
 ·have e3:((ar T (aF s).at_).kind != 1)=true:=by simpa using ah
  rw[show kI T e s=(.mk {kind:=5,name:=(ar T (aF s).at_).text,pos:=(ar T s.at_).pos} [e],aF (cS T 2 (aF s))) by simp only[kI,e3,bC]];simp-implicitDefEqProofs(disch:=try exact af) only[vW,reduceAdd,reduceLeDiff,reduceIte,aw,Tok.v,e3];refine a6 (wM (fa.aK c8) 2) ?_;rintro _ fW ⟨rfl,m6,hO⟩;refine⟨m6.1,?_⟩
  try simp only[vW]
  exact Qx ag he hlen dN ko zX ((yi.trans (c8.mut _)).trans m6) hO.rd (m6.get (c8.get s5) Z) (m6.get (c8.get E3) Z) rfl (m6.get Ye Z) Z Z Z Z
def mN(n:Nat):Prop:= ∀{H:J} {r:Nat} {T:List Tok} {ak br:I} {s:aA},e6 H r T ak br s->br≠ .ap-> ∀(lev:Nat),lev<=5-> ∀(e:bp) (s':aA),i_ T n lev s=some (e,s')->W (aq P ao 165 [.ptr r 0 0,.int .i64 lev] H) (fZ H r T ak br e s')
def BG(n:Nat):Prop:= ∀{H:J} {r:Nat} {T:List Tok} {ak br:I} {s:aA},e6 H r T ak br s->br≠ .ap-> ∀(e:bp) (s':aA),pL T n s=some (e,s')->W (aq P ao 170 [.ptr r 0 0] H) (fZ H r T ak br e s')
def KJ(n:Nat):Prop:= ∀{H:J} {r:Nat} {T:List Tok} {ak br:I} {s:aA},e6 H r T ak br s->br≠ .ap-> ∀(e:bp) (s':aA),rB T n s=some (e,s')->W (aq P ao 178 [.ptr r 0 0] H) (fZ H r T ak br e s')
def KK(n:Nat):Prop:= ∀{H:J} {r:Nat} {T:List Tok} {ak br:I} {s:aA},e6 H r T ak br s->br≠ .ap-> ∀(e:bp) (s':aA),og T n s=some (e,s')->W (aq P ao 181 [.ptr r 0 0] H) (fZ H r T ak br e s')
def u2(n:Nat):Prop:= ∀{H:J} {r:Nat} {T:List Tok} {ak br:I} {s:aA},e6 H r T ak br s->br≠ .ap-> ∀(b c:bl) (e:bp) (s':aA),ki T n b c s=some (e,s')->W (aq P ao 194 [.ptr r 0 0,.str b,.str c] H) (fZ H r T ak br e s')
def K_(n:Nat):Prop:= ∀{H:J} {r:Nat} {T:List Tok} {ak br:I} {s:aA},e6 H r T ak br s->br≠ .ap-> ∀(e:bp) (s':aA),ul T n s=some (e,s')->W (aq P ao 183 [.ptr r 0 0] H) (fZ H r T ak br e s')
def KL(n:Nat):Prop:= ∀{H:J} {r:Nat} {T:List Tok} {ak br:I} {s:aA},e6 H r T ak br s->br≠ .ap-> ∀(e:bp) (s':aA),sH T n s=some (e,s')->W (aq P ao 190 [.ptr r 0 0] H) (fZ H r T ak br e s')
def K9(n:Nat):Prop:= ∀{H:J} {r:Nat} {T:List Tok} {ak br:I} {s:aA},e6 H r T ak br s->br≠ .ap-> ∀(l:List bp) (s':aA),rQ T n s=some (l,s')->W (aq P ao 187 [.ptr r 0 0,.func (.func 163) [.ptr r 0 0] []] H) λv H'=>cC r H H'/\e6 H' r T ak br s'/\dP H' (bI H.next) l v
structure ajZ(n:Nat):Prop where
 row:mN n
 unary:BG n
 chain:KJ n
 first:KK n
 single:u2 n
 name:K_ n
 fresh:KL n
 list:K9 n
theorem fZ.ret{H bm:J}{r:Nat}{T:List Tok}{ak br:I}{s s':aA}{e:bp}{v:I}{b n:Nat}(ag:e6 H r T ak br s)(m:cC r H bm)(bd:ed bm r ak br s')(ax:H.next<=b)(he:ea bm (bI n) e v)(aU:b<n)(hj:dY):fZ H r T ak br e s' v (bm.set b hj):=by
 have az:=ag.rd.lt;have fr:=m.db (.inr ax) hj;refine⟨fr,ag.mut fr ?_,he.new (dC.db (S:=(· <n)) (dC.refl _ _) (.inl aU) _) λl h=>by unfold bI;omega⟩;unfold ed at bd ⊢;rw[J.get_set_other Z];exact bd
theorem Gj{n:Nat}(aT:mN n){H:J}{r:Nat}{T:List Tok}{ak br:I}{s:aA}(ag:e6 H r T ak br s)(fC:br≠ .ap){e:bp}{s':aA}(h:i_ T n 0 s=some (e,s')):W (aq P ao 163 [.ptr r 0 0] H) (fZ H r T ak br e s'):=by
 refine cP (λ_=>aim 0) ?_;have az:=ag.rd.lt;simp-implicitDefEqProofs(disch:=try exact af) only[EI,reduceAdd,reduceLeDiff,reduceIte,aw];have aV:=aR.push H (.row false 11 [[.int .i64 0,.int .i64 0,.str [],.str [],.int .i64 0,.ap,.int .i64 0,.int .i64 0,.int .i64 0,.int .i64 0,.int .i64 0]]);refine a6 (aT (ag.aK aV) fC 0 Z e s' h) ?_;rintro v bm ⟨m2,cJ,fR⟩;refine⟨m2.1,?_⟩;have ck:=m2.get (J.ca H _) Z;have iw:=J.aX ck;obtain⟨cs,rfl,hlen,dN⟩:=fR.cells;have bz:List.take 11 cs=cs:=List.take_of_length_le Z;simp-implicitDefEqProofs(disch:=try exact af) only[EI,reduceAdd,reduceLeDiff,reduceIte,aw,ck,hlen,dN,List.append_nil,bz]
 exact a_.2 (fZ.ret ag ((aV.mut _).trans m2) cJ.rd (bN _) fR (Nat.lt_succ_self _) _)
theorem aa5{n:Nat}(aT:mN n):u2 (n+1):=by
 intro H r T ak br s ag fC b c e s' h;refine cP (λ_=>aiF 0) ?_;have az:=ag.rd.lt;have aV:=aR.push H (.row false 11 [[.int .i64 0,.int .i64 0,.str [],.str [],.int .i64 0,.ap,.int .i64 0,.int .i64 0,.int .i64 0,.int .i64 0,.int .i64 0]]);simp-implicitDefEqProofs(disch:=try exact af) only[x7,reduceAdd,reduceLeDiff,reduceIte,aw];refine a6 (Gf (ag.aK aV) b) ?_;rintro _ bm ⟨rfl,m2,cJ⟩;refine⟨m2.1,?_⟩;have ck:=m2.get (J.ca H _) Z;have iw:=J.aX ck;have bP:=(aV.mut (· =r)).trans m2;simp only[ki] at h;cases bt:(eI T b s).1 with
 |false=>
  simp only[bt,bj,bF,dw] at h;obtain⟨rfl,rfl⟩:=h;simp-implicitDefEqProofs(disch:=try exact af) only[x7,reduceAdd,reduceLeDiff,reduceIte,aw,Bool.not_false,ck];exact a_.2 (fZ.ret ag bP cJ.rd (bN _) (ea.leaf _ (bI (H.next+1)) {kind:=0}) (Nat.lt_succ_self _) _)
 |true=>
  simp only[bt,bC,eW] at h;obtain⟨⟨aI,s1⟩,U,aa⟩:=h;simp only[bF,dw] at aa;obtain⟨rfl,rfl⟩:=aa;simp-implicitDefEqProofs(disch:=try exact af) only[x7,reduceAdd,reduceLeDiff,reduceIte,aw,Bool.not_true];refine a6 (Gj aT cJ fC U) ?_;rintro v cT ⟨m3,e2,mx⟩;refine⟨m3.1,?_⟩;have eO:=m3.get ck Z;have WT:=J.aX eO;obtain⟨cs,rfl,hlen,dN⟩:=mx.cells;have bz:List.take 11 cs=cs:=List.take_of_length_le Z;simp-implicitDefEqProofs(disch:=try exact af) only[x7,reduceAdd,reduceLeDiff,reduceIte,aw,hlen,dN,List.append_nil,bz];have bK:=aR.push cT (.row false 11 [cs]);refine a6 (JK (e2.aK bK) c) ?_;rintro _ dp ⟨rfl,m5,fg⟩
  refine⟨m5.1,?_⟩;have gz:=m5.get (bK.get eO) Z;have amK:=J.aX gz;have jJ:=m5.get (J.ca cT (.row false 11 [cs])) Z;have hy:=m2.1;simp only[J.b2] at hy;simp-implicitDefEqProofs(disch:=try exact af) only[x7,reduceAdd,reduceLeDiff,reduceIte,aw,hlen,dN,List.append_nil,bz,gz,jJ];refine a_.2 (fZ.ret ag (((bP.trans m3).trans (bK.mut _)).trans m5) fg.rd (bN _) (n:=bm.next) (mx.new ?_ λ_ h=>h) Z _);exact((aR.push _ _).mut _).trans ⟨m5.1,λl dD FV=>m5.2 l dD Z⟩
theorem aa_{n:Nat}(aT:u2 n){H:J}{r:Nat}{T:List Tok}{ak br:I}{s:aA}(ag:e6 H r T ak br s)(fC:br≠ .ap){e:bp}{s':aA}(h:ki T n [40] [41] s=some (e,s')):W (aq P ao 193 [.ptr r 0 0] H) (fZ H r T ak br e s'):=by
 refine cP (λ_=>aiE 0) ?_;have az:=ag.rd.lt;simp-implicitDefEqProofs(disch:=try exact af) only[EJ,reduceAdd,reduceLeDiff,reduceIte,aw];have aV:=aR.push H (.row false 11 [[.int .i64 0,.int .i64 0,.str [],.str [],.int .i64 0,.ap,.int .i64 0,.int .i64 0,.int .i64 0,.int .i64 0,.int .i64 0]]);refine a6 (aT (ag.aK aV) fC [40] [41] e s' h) ?_;rintro v bm ⟨m2,cJ,fR⟩;refine⟨m2.1,?_⟩;have ck:=m2.get (J.ca H _) Z;have iw:=J.aX ck;obtain⟨cs,rfl,hlen,dN⟩:=fR.cells;have bz:List.take 11 cs=cs:=List.take_of_length_le Z;simp-implicitDefEqProofs(disch:=try exact af) only[EJ,reduceAdd,reduceLeDiff,reduceIte,aw,ck,hlen,dN,List.append_nil,bz]
 exact a_.2 (fZ.ret ag ((aV.mut _).trans m2) cJ.rd (bN _) fR (Nat.lt_succ_self _) _)
theorem aaO{n:Nat}(aT:u2 n){H:J}{r:Nat}{T:List Tok}{ak br:I}{s:aA}(ag:e6 H r T ak br s)(fC:br≠ .ap){e:bp}{s':aA}(h:ki T n [40] [41] (aF s)=some (e,s')):W (aq P ao 191 [.ptr r 0 0] H) (fZ H r T ak br (.mk {kind:=10,pos:=(ar T s.at_).pos} [e]) s'):=by
 refine cP (λ_=>aiC 0) ?_;have az:=ag.rd.lt;have de:=ag.cf.one;have hA:=ag.br.one;simp-implicitDefEqProofs(disch:=try exact af) only[CI,reduceAdd,reduceLeDiff,reduceIte,aw];refine a6 (mI (ag.rd.aK (aR.push _ _)) (ag.cf.aK (aR.push _ _))) ?_;rintro _ bm ⟨rfl,aJ⟩;refine⟨aJ.1,?_⟩;have jT:=aJ.1;simp only[J.b2] at jT;have bP:=((aR.push H _).trans aJ).mut (· =r);have nB:=ag.rd.aK ((aR.push H _).trans aJ);have cI:=nB;unfold ed at cI;have ck:=aJ.get (J.ca H _);obtain⟨m3,lp⟩:=qu nB (aF s);simp-implicitDefEqProofs(disch:=try exact af) only[CI,reduceAdd,reduceLeDiff,reduceIte,aw,Tok.v,cI,de,hA];refine a6 (aT (ag.mut (bP.trans m3) lp) fC [40] [41] e s' h) ?_
 rintro v ct ⟨m4,fa,jc⟩;refine⟨m4.1,?_⟩;have fV:=m4.get (m3.get ck Z) Z;have yc:=J.aX fV;have Fb:=m4.1;simp only[J.e9] at Fb jc;replace bP:=(bP.trans m3).trans m4;obtain⟨cs,rfl,hlen,dN⟩:=jc.cells;have aM: ∀l,dK P l 96 1 [(0,.agg cs)]=some (.aN l 0 1 11 (some 1),.row false 11 [cs]):=λl=>jP l cs hlen dN
 have cI:=fa.rd;unfold ed at cI;simp-implicitDefEqProofs(disch:=try exact af) only[CI,reduceAdd,reduceLeDiff,reduceIte,aw,fV,aM];refine a_.2 ?_;refine rL.fin (ok:=bI H.next) (a:={kind:=10,pos:=(ar T s.at_).pos}) (kv:= .aN ct.next 0 1 11 (some 1)) (s':=s') ag ?_ ?_ (dP.qF (ro:=false) ?_ (by unfold bI;omega) (jc.new ?_ λl h=>by unfold bI;omega))
 ·(repeat (first|exact bP|refine dC.bX ?_ _|refine dC.db (S:=(· =r)) ?_ (.inl rfl) _|refine dC.db ?_ (.inr (by(first|omega|(simp only[J.b2,J.e9];omega)))) _))
 ·(unfold ed;simp-implicitDefEqProofs(disch:=try exact af) only[dB,cI,aF,ga])
 ·simp-implicitDefEqProofs(disch:=try exact af) only[dB]
 ·exact dC.db (S:=λl=>l<_) ((dC.refl _ _).bX _) (.inl Z) _
theorem ac4{n:Nat}(aT:u2 n){ok:Nat->Prop}{H:J}{r:Nat}{T:List Tok}{ak br:I}{s:aA}{e:bp}{v:I}(ag:e6 H r T ak br s)(fC:br≠ .ap)(he:ea H ok e v)(ko: ¬ok r)(zX: ∀l,H.next<=l->ok l){bc:bp}{s':aA}(h:ki T n [91] [93] s=some (bc,s')):W (aq P ao 186 [.ptr r 0 0,v] H) (rL ok H r T ak br (.mk {kind:=6,pos:=(ar T s.at_).pos} [e,bc]) s'):=by
 refine cP (λ_=>aix 0) ?_;obtain⟨cs,rfl,hlen,dN⟩:=he.cells;have az:=ag.rd.lt;have bz:List.take 11 cs=cs:=List.take_of_length_le Z;have ij: ∀l,eK l (.agg cs)=some (.ptr l 0 0,.row false 11 [cs]):=λl=>by rw[h8 l cs dN,hlen]
 simp-implicitDefEqProofs(disch:=try exact af) only[CF,reduceAdd,reduceLeDiff,reduceIte,aw,ij];have aV:=(aR.push H (.row false 11 [cs])).bX (.row false 11 [[.int .i64 0,.int .i64 0,.str [],.str [],.int .i64 0,.ap,.int .i64 0,.int .i64 0,.int .i64 0,.int .i64 0,.int .i64 0]]);refine a6 (mI (ag.rd.aK aV) (ag.cf.aK aV)) ?_;rintro _ bm ⟨rfl,aJ⟩;refine⟨aJ.1,?_⟩;have jT:=aJ.1;simp only[J.b2] at jT;have cJ:=ag.aK (aV.trans aJ);have bP:=(aV.trans aJ).mut (· =r);have ae:bm.get H.next=some (.row false 11 [cs]):=by rw[aJ.2 _ (by simp only[J.b2];omega)];simp-implicitDefEqProofs(disch:=try exact af) only[dB]
 have am:bm.get (H.next+1)=some (.row false 11 [[.int .i64 0,.int .i64 0,.str [],.str [],.int .i64 0,.ap,.int .i64 0,.int .i64 0,.int .i64 0,.int .i64 0,.int .i64 0]]):=by rw[aJ.2 _ (by simp only[J.b2];omega)];simp-implicitDefEqProofs(disch:=try exact af) only[dB]
 simp-implicitDefEqProofs(disch:=try exact af) only[CF,reduceAdd,reduceLeDiff,reduceIte,aw,Tok.v];refine a6 (aT cJ fC [91] [93] bc s' h) ?_;rintro v ct ⟨m4,fa,jc⟩;refine⟨m4.1,?_⟩;have s5:=m4.get ae Z;have E3:=m4.get am Z;have yc:=J.aX E3;have Fb:=m4.1;replace bP:=bP.trans m4;obtain⟨bU,rfl,mi,lJ⟩:=jc.cells;have aM: ∀l,dK P l 96 2 [(0,.agg cs),(1,.agg bU)]=some (.aN l 0 2 11 (some 2),.row false 11 [cs,bU]):=λl=>B7 l cs bU hlen dN mi lJ
 have cI:=fa.rd;unfold ed at cI;have bi:=he.same;simp-implicitDefEqProofs(disch:=try exact af) only[CF,reduceAdd,reduceLeDiff,reduceIte,aw,s5,E3,ae,aM,bz,bi,Bool.and_true];refine a_.2 ?_;refine rL.fin (a:={kind:=6,pos:=(ar T s.at_).pos}) (kv:= .aN ct.next 0 2 11 (some 2)) (s':=s') ag ?_ ?_ (dP.B8 (ro:=false) ?_ (zX _ Z) (he.mut (r:=r) ?_ ko λ_ h=>h) (jc.new ?_ λl h=>zX _ Z))
 ·(repeat (first|exact bP|refine dC.bX ?_ _|refine dC.db (S:=(· =r)) ?_ (.inl rfl) _|refine dC.db ?_ (.inr (by(first|omega|(simp only[J.b2,J.e9];omega)))) _))
 ·(unfold ed;simp-implicitDefEqProofs(disch:=try exact af) only[dB,cI,aF,ga])
 ·simp-implicitDefEqProofs(disch:=try exact af) only[dB]
 ·(repeat (first|exact bP|refine dC.bX ?_ _|refine dC.db (S:=(· =r)) ?_ (.inl rfl) _|refine dC.db ?_ (.inr (by(first|omega|(simp only[J.b2,J.e9];omega)))) _))
 ·exact dC.db (S:=λl=>l<_) ((dC.refl _ _).bX _) (.inl Z) _
end
section
theorem gq.append{H:J}{ok:Nat->Prop}: ∀(es:List bp) (cs:List (List I)) (e:bp) (c:List I),gq H ok es cs->cs.length=es.length->ea H ok e (.agg c)->gq H ok (es++[e]) (cs++[c])
 |[],[],e,c,_,_,h=>by
  simp only[List.nil_append];rw[gq,gq];exact⟨h,trivial⟩
 |[],_::_,e,c,_,az,_=>by simp at az
 |_::_,[],e,c,h,_,_=>by rw[gq] at h;exact h.elim
 |aI::es,bM::cs,e,c,h,az,he=>by
  rw[gq] at h;simp only[List.cons_append];rw[gq];exact⟨h.1,gq.append es cs e c h.2 (by simpa using az) he⟩
theorem XF:P.underlying 96=some (.slice 103):=ad
theorem VK:rv P 103=some 120:=ad
theorem VE:j2 P 103=some (.agg [.int .i64 0,.int .i64 0,.str [],.str [],.int .i64 0,.ap,.int .i64 0,.int .i64 0,.int .i64 0,.int .i64 0,.int .i64 0]):=ad
theorem Rd{H:J}{L:Nat}{cs:List I}{cap:Option Nat}{ro:Bool}(aZ:H.get L=some (.row ro 11 [cs])):fQ P H [96,96] .ap (.aN L 0 1 11 cap)=some (.aN H.next 0 1 11 none,H.push (.row false 11 [cs])):=by
 simp[fQ,XF,Hu,VK,VE,sM,pV,aZ,I.cells]
theorem Sl{H:J}{L l n:Nat}{cs:List I}{els:List (List I)}{cap:Option Nat}{ro:Bool}(aZ:H.get L=some (.row ro 11 [cs]))(az:H.get l=some (.row false 11 els))(aU:els.length=n)(ax:n<=1000000000):fQ P H [96,96] (.aN l 0 n 11 none) (.aN L 0 1 11 cap)=some (.aN H.next 0 (n+1) 11 none,(H.set l .dead).push (.row false 11 (els++[cs]))):=by
 have U:(n+1)*120<=140737488355328:=Z;have aa:n+1<=9223372036854775807:=Z;simp[fQ,XF,Hu,VK,VE,sM,pV,aZ,az,I.cells,aU,U,aa];rw[List.take_of_length_le Z]
theorem abv{n:Nat}(aT:u2 n):KL (n+1):=by
 intro H r T ak br s ag fC e s' h;refine cP (λ_=>aiB 0) ?_;have az:=ag.rd.lt;have de:=ag.cf.one;have hA:=ag.br.one;simp-implicitDefEqProofs(disch:=try exact af) only[xd,p0,reduceAdd,reduceLeDiff,reduceIte,aw];refine a6 (mI (ag.rd.aK (aR.push _ _)) (ag.cf.aK (aR.push _ _))) ?_;rintro _ bm ⟨rfl,aJ⟩;refine⟨aJ.1,?_⟩;have jT:=aJ.1;simp only[J.b2] at jT;have bP:=((aR.push H _).trans aJ).mut (· =r);have nB:=ag.rd.aK ((aR.push H _).trans aJ);have cI:=nB;unfold ed at cI;have ck:=aJ.get (J.ca H _);obtain⟨m3,lp⟩:=qu nB (aF s);simp-implicitDefEqProofs(disch:=try exact af) only[p0,reduceAdd,reduceLeDiff,reduceIte,aw,Tok.v,cI,de,hA]
 have e2:=ag.mut (bP.trans m3) lp;refine a6 (Kb e2 4 [91]) ?_;rintro _ ct ⟨rfl,m4,fa⟩;refine⟨m4.1,?_⟩;have fV:=m4.get (m3.get ck Z) Z;have yc:=J.aX fV;have Fb:=m4.1;simp only[J.e9] at Fb;replace bP:=(bP.trans m3).trans m4;simp only[sH] at h;cases be:b7 T (aF s) 4 [91] with
 |true=>
  simp only[fj,be,bC] at fa ⊢;simp only[be,bC,eW] at h;obtain⟨⟨aI,s1⟩,U,aa⟩:=h;simp only[bF,dw] at aa;obtain⟨rfl,rfl⟩:=aa;simp-implicitDefEqProofs(disch:=try exact af) only[p0,reduceAdd,reduceLeDiff,reduceIte,aw];refine a6 (KT fa) ?_;rintro _ dp ⟨rfl,m5,fg⟩;refine⟨m5.1,?_⟩;have gz:=m5.get fV Z;have C0:=J.aX gz;simp-implicitDefEqProofs(disch:=try exact af) only[p0,reduceAdd,reduceLeDiff,reduceIte,aw];have fc:=aR.push dp (.row false 2 [[.str (eL T (aF (aF s))).1.1,.int .i64 (eL T (aF (aF s))).1.2]]);have tb:=J.ca dp (.row false 2 [[.str (eL T (aF (aF s))).1.1,.int .i64 (eL T (aF (aF s))).1.2]]);refine a6 (Kc (fg.aK fc) [93]) ?_
  rintro _ jX ⟨rfl,m8,oF⟩;refine⟨m8.1,?_⟩;have uD:=m8.get (fc.get gz) Z;have sf:=m8.get tb Z;have Na:=J.aX uD;have amO:=J.aX sf;simp-implicitDefEqProofs(disch:=try exact af) only[p0,reduceAdd,reduceLeDiff,reduceIte,aw];refine a6 (aT oF fC [40] [41] aI s1 U) ?_;rintro v gV ⟨m9,qd,sa⟩;refine⟨m9.1,?_⟩;have s7:=m9.get uD Z;have td:=m9.get sf Z;have E_:=J.aX s7;have WV:=J.aX td;have Yy:=m9.1;obtain⟨cs,rfl,hlen,dN⟩:=sa.cells;have aM: ∀l,dK P l 96 1 [(0,.agg cs)]=some (.aN l 0 1 11 (some 1),.row false 11 [cs]):=λl=>jP l cs hlen dN
  replace bP:=(((bP.trans m5).trans (fc.mut _)).trans m8).trans m9;have cI:=qd.rd;unfold ed at cI;simp-implicitDefEqProofs(disch:=try exact af) only[p0,reduceAdd,reduceLeDiff,reduceIte,aw,aM,s7,td,sf];refine a_.2 ?_;refine rL.fin (ok:=bI H.next) (a:={kind:=9,eV:=(eL T (aF (aF s))).1.1,fT:=(eL T (aF (aF s))).1.2,pos:=(ar T s.at_).pos}) (kv:= .aN gV.next 0 1 11 (some 1)) (s':=s1) ag ?_ ?_ (dP.qF (ro:=false) ?_ (by unfold bI;omega) (sa.new ?_ λl h=>by unfold bI;omega))
  ·(repeat (first|exact bP|refine dC.bX ?_ _|refine dC.db (S:=(· =r)) ?_ (.inl rfl) _|refine dC.db ?_ (.inr (by(first|omega|(simp only[J.b2,J.e9];omega)))) _))
  ·(unfold ed;simp-implicitDefEqProofs(disch:=try exact af) only[dB,cI,aF,ga])
  ·simp-implicitDefEqProofs(disch:=try exact af) only[dB]
  ·exact dC.db (S:=λl=>l<_) ((dC.refl _ _).bX _) (.inl Z) _
 |false=>
  simp only[fj,be,bj] at fa ⊢;simp only[be,bj,bF,dw] at h;obtain⟨rfl,rfl⟩:=h;simp-implicitDefEqProofs(disch:=try exact af) only[p0,reduceAdd,reduceLeDiff,reduceIte,aw];refine a6 (mI fa.rd fa.cf) ?_;rintro _ dp ⟨rfl,c8⟩;refine⟨c8.1,?_⟩;have gz:=c8.get fV;have fg:=fa.aK c8;have C0:=J.aX gz;have fc:=aR.push dp (.row false 4 [[.int .i64 (ar T (aF s).at_).kind,.str (ar T (aF s).at_).text,.int .i64 (ar T (aF s).at_).n,.int .i64 (ar T (aF s).at_).pos]]);have tb:=J.ca dp (.row false 4 [[.int .i64 (ar T (aF s).at_).kind,.str (ar T (aF s).at_).text,.int .i64 (ar T (aF s).at_).n,.int .i64 (ar T (aF s).at_).pos]])
  have fin: ∀(fX:J) (pr:aA),cC r H fX->ed fX r ak br pr->fX.get H.next=some (.row false 11 [[.int .i64 0,.int .i64 0,.str [],.str [],.int .i64 0,.ap,.int .i64 0,.int .i64 0,.int .i64 0,.int .i64 0,.int .i64 0]])->fX.get dp.next=some (.row false 4 [[.int .i64 (ar T (aF s).at_).kind,.str (ar T (aF s).at_).text,.int .i64 (ar T (aF s).at_).n,.int .i64 (ar T (aF s).at_).pos]])->
    W (xd (aq P ao) (.ptr r 0 0) (.ptr H.next 0 0) (.int .i64 (ar T s.at_).pos) (.ptr dp.next 0 0) fX) (fZ H r T ak br (.mk {kind:=8,eV:=(ar T (aF s).at_).text,pos:=(ar T s.at_).pos} []) (aF pr)):=by
   intro fX pr bP W0 s6 tc;have cI:=W0;unfold ed at cI;have ib:=W0.lt;have Yv:=J.aX s6;have WU:=J.aX tc;simp-implicitDefEqProofs(disch:=try exact af) only[xd,p0,reduceAdd,reduceLeDiff,reduceIte,aw,cI,de,hA,s6,tc];refine a_.2 ?_;refine fZ.box (a:={kind:=8,eV:=(ar T (aF s).at_).text,pos:=(ar T s.at_).pos}) (kv:= .ap) (s':=aF pr) (lo:=H.next+1) ag ?_ ?_ (bN _) (Nat.lt_succ_self _) (dP.nil _ _) _
   ·(repeat (first|exact bP|refine dC.bX ?_ _|refine dC.db (S:=(· =r)) ?_ (.inl rfl) _|refine dC.db ?_ (.inr (by(first|omega|(simp only[J.b2,J.e9];omega)))) _))
   ·(unfold ed;simp-implicitDefEqProofs(disch:=try exact af) only[dB,cI,aF,ga])
  by_cases ah:(ar T (aF s).at_).kind=1
  ·have e3:((ar T (aF s).at_).kind != 1)=false:=by simpa using ah
   simp-implicitDefEqProofs(disch:=try exact af) only[p0,reduceAdd,reduceLeDiff,reduceIte,aw,Tok.v,e3];exact fin _ _ ((bP.trans (c8.mut _)).trans (fc.mut _)) (fg.rd.aK fc) (fc.get gz) tb
  ·have e3:((ar T (aF s).at_).kind != 1)=true:=by simpa using ah
   simp-implicitDefEqProofs(disch:=try exact af) only[p0,reduceAdd,reduceLeDiff,reduceIte,aw,Tok.v,e3];refine a6 (wM (fg.aK fc) 2) ?_;rintro _ jX ⟨rfl,m8,oF⟩;refine⟨m8.1,?_⟩
   try simp only[p0]
   exact fin _ _ (((bP.trans (c8.mut _)).trans (fc.mut _)).trans m8) oF.rd (m8.get (fc.get gz) Z) (m8.get tb Z)
end
end Go.Proofs.YtghmbpmaafnodaaGreatDoor
