/-
  Texts of one proof, laid together: Ls X1 X2 X3 X4 X5.
-/
import Derived.Test.YtghmbpmaafnodaaGreatDoorME
import Derived.Test.YtghmbpmaafnodaaGreatDoorMF
set_option linter.unusedVariables false
set_option linter.unusedSimpArgs false
namespace Go.Proofs.YtghmbpmaafnodaaGreatDoor
open Go.f7
open Nat (reduceAdd reduceLeDiff)
section
set_option linter.defProp false
def ap7:=ar @J.b6 @J.e9
def am7:=ar (ar (ar (ar (ar (ar (ar (ar @aac @WY) (ar @TQ (ar @TR @WB))) (ar (ar @Rw (ar @lx @T3)) (ar @RA (ar @ix @yF)))) (ar (ar (ar @WX (ar @WT @WW)) (ar @WU (ar @WV @QG))) (ar (ar @Sk (ar @Sj @SK)) (ar @PW (ar @PX @PY))))) (ar (ar (ar (ar @Dv @Dw) (ar @Pm (ar @QH @DE))) (ar (ar @QI (ar @PV @Option.bind_some.{0,0})) (ar @bx (ar @bi @OP)))) (ar (ar (ar @Sp (ar @Sq @Rh)) (ar @u7 (ar @Kg @TS))) (ar (ar @List.getElem?_cons_zero.{0} (ar @List.getElem?_cons_succ.{0} @List.drop_zero.{0})) (ar @List.drop_succ_cons.{0} (ar @List.take_succ_cons.{0} @List.take_zero.{0})))))) (ar (ar (ar (ar (ar @List.set_cons_zero.{0} @List.set_cons_succ.{0}) (ar @List.cons_append.{0} (ar @List.nil_append.{0} @List.length_cons.{0}))) (ar (ar @List.length_nil.{0} (ar @List.all_cons.{0} @List.all_nil.{0})) (ar @Bool.and_true (ar @Bool.and_self @Nat.zero_add)))) (ar (ar (ar @Nat.add_zero (ar @bL @and_self)) (ar @and_true (ar @true_and @if_true.{1}))) (ar (ar @bD (ar @iy @jJ)) (ar @yN (ar @LB @Bt))))) (ar (ar (ar (ar @K9 @KL) (ar @ZE (ar @ZF @ZG))) (ar (ar @ZH (ar @XL @XG)) (ar @XH (ar @XJ @XP)))) (ar (ar (ar @WD (ar @WE @EU)) (ar @ET (ar @MG @MH))) (ar (ar @XN (ar @WF @WG)) (ar @WH (ar @WI @WJ))))))) (ar (ar (ar (ar (ar (ar @WK @XC) (ar @XD (ar @XE @XF))) (ar (ar @XI (ar @XK @XO)) (ar @XM (ar @XV @XX)))) (ar (ar (ar @WL (ar @HB @CJ)) (ar @H4 (ar @WN @WQ))) (ar (ar @XT (ar @MI @MJ)) (ar @MK (ar @X0 @ZJ))))) (ar (ar (ar (ar @ZK @ZL) (ar @ZM (ar @XZ @XU))) (ar (ar @X1 (ar @XY @XW)) (ar @CI (ar @WM @WO)))) (ar (ar (ar @WP (ar @WR @XQ)) (ar @XR (ar @XS @RZ))) (ar (ar @R6 (ar @R0 @R5)) (ar @R4 (ar @R3 @R2)))))) (ar (ar (ar (ar (ar @R1 @QT) (ar @QU (ar @Yw @Zr))) (ar (ar @J.wJ (ar @J.gy @J.get_set_same)) (ar @J.get_set_other (ar @J.b6 @J.e9)))) (ar (ar (ar @J.PH (ar @J.set_set @RE)) (ar @RF (ar @RG @RH))) (ar (ar @RI (ar @RJ @KF)) (ar @RO (ar @RP @RT))))) (ar (ar (ar (ar @RU @T6) (ar @RS (ar @RL @RN))) (ar (ar @Ua (ar @T7 @Ub)) (ar @T_ (ar @RQ @P3)))) (ar (ar (ar @OZ (ar @O0 @P1)) (ar @P2 (ar @T9 @RR))) (ar (ar @Ps (ar @Pt @Ud)) (ar @RM (ar @OX @OY)))))))) (ar (ar (ar (ar (ar (ar (ar @P5 @P6) (ar @O8 (ar @O9 @P4))) (ar (ar @OQ (ar @OR @O_)) (ar @Pa (ar @Pb @Pc)))) (ar (ar (ar @Uc (ar @OF @OG)) (ar @Pp (ar @Pr @QN))) (ar (ar @Pq (ar @OJ @OK)) (ar @OL (ar @OM @T8))))) (ar (ar (ar (ar @OH @OI) (ar @QO (ar @Uf @Ug))) (ar (ar @Uh (ar @Lr @Ui)) (ar @Uj (ar @Uk @Ul)))) (ar (ar (ar @Um (ar @Un @Uo)) (ar @Up (ar @Uq @Ur))) (ar (ar @Us (ar @Ut @Uu)) (ar @Uv (ar @Uw @Ux)))))) (ar (ar (ar (ar (ar @D7 @D8) (ar @Uy (ar @Uz @BU))) (ar (ar @BV (ar @UA @UB)) (ar @UC (ar @UD @UE)))) (ar (ar (ar @UF (ar @UG @UH)) (ar @UI (ar @UJ @UK))) (ar (ar @UL (ar @UM @SS)) (ar @SU (ar @SV @SW))))) (ar (ar (ar (ar @SX @SY) (ar @SZ (ar @S0 @S1))) (ar (ar @S2 (ar @S3 @S4)) (ar @S5 (ar @S6 @S7)))) (ar (ar (ar @BN (ar @wT @DU)) (ar @S8 (ar @GU @S9))) (ar (ar @S_ (ar @UO @UP)) (ar @UQ (ar @UR @US))))))) (ar (ar (ar (ar (ar (ar @UT @UU) (ar @UV (ar @UW @UX))) (ar (ar @UY (ar @UZ @U0)) (ar @U1 (ar @U2 @U3)))) (ar (ar (ar @U4 (ar @U5 @U6)) (ar @U7 (ar @U8 @U9))) (ar (ar @U_ (ar @Ls @Va)) (ar @Vb (ar @Vc @Vd))))) (ar (ar (ar (ar @Ve @Vf) (ar @Vg (ar @Vh @Vi))) (ar (ar @Vj (ar @Vk @Vl)) (ar @Vm (ar @Vn @Vo)))) (ar (ar (ar @Ta (ar @Tb @Tc)) (ar @Td (ar @Te @Tf))) (ar (ar @Tg (ar @Th @Ti)) (ar @Tj (ar @Tk @Tl)))))) (ar (ar (ar (ar (ar @Tm @Tn) (ar @To (ar @Tp @Tq))) (ar (ar @Tr (ar @Ts @Tt)) (ar @Tu (ar @Tv @Zn)))) (ar (ar (ar @EG (ar @Hs @EH)) (ar @Ht (ar @EI @Hu))) (ar (ar @Xw (ar @Wu @HP)) (ar @L7 (ar @Xx @Wv))))) (ar (ar (ar (ar @xP (ar @En @HQ)) (ar @L8 (ar @L6 @Vw))) (ar (ar @Wr (ar @Vx @Ws)) (ar @Vy (ar @Wt @Vz)))) (ar (ar (ar @My (ar @Mz @Xs)) (ar @MA (ar @Xt @MB))) (ar (ar @EF (ar @Xu @Wo)) (ar @LZ (ar @L0 @L1))))))))
def bO:=ar (ar (ar (ar (ar @aac @WY) (ar @TQ (ar @TR @WB))) (ar (ar @Rw @lx) (ar @T3 (ar @RA @ix)))) (ar (ar (ar @yF @WX) (ar @WT (ar @WW @WU))) (ar (ar @WV @QG) (ar @Sk (ar @Sj @SK))))) (ar (ar (ar (ar @PW @PX) (ar @PY (ar @Dv @Dw))) (ar (ar @Pm @QH) (ar @DE (ar @QI @PV)))) (ar (ar (ar @Option.bind_some.{0,0} @bx) (ar @bi (ar @OP @Sp))) (ar (ar @Sq @Rh) (ar @u7 (ar @Kg @TS)))))
def fl:=ar (ar (ar (ar @List.getElem?_cons_zero.{0} (ar @List.getElem?_cons_succ.{0} @List.drop_zero.{0})) (ar (ar @List.drop_succ_cons.{0} @List.take_succ_cons.{0}) (ar @List.take_zero.{0} @List.set_cons_zero.{0}))) (ar (ar (ar @List.set_cons_succ.{0} @List.cons_append.{0}) (ar @List.nil_append.{0} @List.length_cons.{0})) (ar (ar @List.length_nil.{0} @List.all_cons.{0}) (ar @List.all_nil.{0} @Bool.and_true)))) (ar (ar (ar (ar @Bool.and_self @Nat.zero_add) (ar @Nat.add_zero @bL)) (ar (ar @and_self @and_true) (ar @true_and @if_true.{1}))) (ar (ar (ar @bD @iy) (ar @jJ @yN)) (ar (ar @LB @Bt) (ar @K9 @KL))))
def dy:=ar (ar (ar (ar (ar @ZE (ar @ZF @ZG)) (ar (ar @ZH @XL) (ar @XG @XH))) (ar (ar (ar @XJ @XP) (ar @WD @WE)) (ar (ar @EU @ET) (ar @MG @MH)))) (ar (ar (ar @XN (ar @WF @WG)) (ar (ar @WH @WI) (ar @WJ @WK))) (ar (ar (ar @XC @XD) (ar @XE @XF)) (ar (ar @XI @XK) (ar @XO @XM))))) (ar (ar (ar (ar @XV (ar @XX @WL)) (ar (ar @HB @CJ) (ar @H4 @WN))) (ar (ar (ar @WQ @XT) (ar @MI @MJ)) (ar (ar @MK @X0) (ar @ZJ @ZK)))) (ar (ar (ar @ZL (ar @ZM @XZ)) (ar (ar @XU @X1) (ar @XY @XW))) (ar (ar (ar @CI @WM) (ar @WO @WP)) (ar (ar @WR @XQ) (ar @XR @XS)))))
def ei:=ar (ar (ar @RZ (ar @R6 @R0)) (ar @R5 (ar @R4 @R3))) (ar (ar @R2 (ar @R1 @QT)) (ar @QU (ar @Yw @Zr)))
def dD:=ar (ar (ar @J.wJ @J.gy) (ar @J.get_set_same @J.get_set_other)) (ar (ar @J.b6 @J.e9) (ar @J.PH @J.set_set))
def fE:=ar (ar (ar (ar (ar (ar (ar @RE (ar @RF @RG)) (ar @RH (ar @RI @RJ))) (ar (ar @KF (ar @RO @RP)) (ar (ar @RT @RU) (ar @T6 @RS)))) (ar (ar (ar @RL (ar @RN @Ua)) (ar (ar @T7 @Ub) (ar @T_ @RQ))) (ar (ar @P3 (ar @OZ @O0)) (ar (ar @P1 @P2) (ar @T9 @RR))))) (ar (ar (ar (ar @Ps (ar @Pt @Ud)) (ar @RM (ar @OX @OY))) (ar (ar @P5 (ar @P6 @O8)) (ar (ar @O9 @P4) (ar @OQ @OR)))) (ar (ar (ar @O_ (ar @Pa @Pb)) (ar (ar @Pc @Uc) (ar @OF @OG))) (ar (ar @Pp (ar @Pr @QN)) (ar (ar @Pq @OJ) (ar @OK @OL)))))) (ar (ar (ar (ar (ar @OM (ar @T8 @OH)) (ar @OI (ar @QO @Uf))) (ar (ar @Ug (ar @Uh @Lr)) (ar (ar @Ui @Uj) (ar @Uk @Ul)))) (ar (ar (ar @Um (ar @Un @Uo)) (ar (ar @Up @Uq) (ar @Ur @Us))) (ar (ar @Ut (ar @Uu @Uv)) (ar (ar @Uw @Ux) (ar @D7 @D8))))) (ar (ar (ar (ar @Uy (ar @Uz @BU)) (ar (ar @BV @UA) (ar @UB @UC))) (ar (ar @UD (ar @UE @UF)) (ar (ar @UG @UH) (ar @UI @UJ)))) (ar (ar (ar @UK (ar @UL @UM)) (ar (ar @SS @SU) (ar @SV @SW))) (ar (ar @SX (ar @SY @SZ)) (ar (ar @S0 @S1) (ar @S2 @S3))))))) (ar (ar (ar (ar (ar (ar @S4 (ar @S5 @S6)) (ar @S7 (ar @BN @wT))) (ar (ar @DU (ar @S8 @GU)) (ar (ar @S9 @S_) (ar @UO @UP)))) (ar (ar (ar @UQ (ar @UR @US)) (ar (ar @UT @UU) (ar @UV @UW))) (ar (ar @UX (ar @UY @UZ)) (ar (ar @U0 @U1) (ar @U2 @U3))))) (ar (ar (ar (ar @U4 (ar @U5 @U6)) (ar @U7 (ar @U8 @U9))) (ar (ar @U_ (ar @Ls @Va)) (ar (ar @Vb @Vc) (ar @Vd @Ve)))) (ar (ar (ar @Vf (ar @Vg @Vh)) (ar (ar @Vi @Vj) (ar @Vk @Vl))) (ar (ar @Vm (ar @Vn @Vo)) (ar (ar @Ta @Tb) (ar @Tc @Td)))))) (ar (ar (ar (ar (ar @Te (ar @Tf @Tg)) (ar @Th (ar @Ti @Tj))) (ar (ar @Tk (ar @Tl @Tm)) (ar (ar @Tn @To) (ar @Tp @Tq)))) (ar (ar (ar @Tr (ar @Ts @Tt)) (ar (ar @Tu @Tv) (ar @Zn @EG))) (ar (ar @Hs (ar @EH @Ht)) (ar (ar @EI @Hu) (ar @Xw @Wu))))) (ar (ar (ar (ar @HP (ar @L7 @Xx)) (ar (ar @Wv @xP) (ar @En @HQ))) (ar (ar @L8 (ar @L6 @Vw)) (ar (ar @Wr @Vx) (ar @Ws @Vy)))) (ar (ar (ar @Wt (ar @Vz @My)) (ar (ar @Mz @Xs) (ar @MA @Xt))) (ar (ar @MB (ar @EF @Xu)) (ar (ar @Wo @LZ) (ar @L0 @L1)))))))
def aob:=ar (ar @iy (ar @jJ @yN)) (ar (ar @LB @Bt) (ar @K9 @KL))
theorem ag{p:Prop}(h:p:=by first|assumption|omega|(simp only[ap7];omega)|(simp only[aob];done)|fail):p:=h
theorem ana:(∀cs,(I.agg cs).cells=cs)/\(∀b,(I.bool b).cells=[.bool b])/\(∀k n,(I.int k n).cells=[.int k n])/\(∀s,(I.str s).cells=[.str s])/\(∀l i c,(I.ptr l i c).cells=[.ptr l i c])/\I.nilPtr.cells=[.nilPtr]/\(∀l i n e c,(I.aM l i n e c).cells=[.aM l i n e c])/\I.an.cells=[.an]/\(∀f a b,(I.func f a b).cells=[.func f a b])/\I.nilFunc.cells=[.nilFunc]/\I.nilIface.cells=[.nilIface]:=
 ⟨λ_=>rfl,λ_=>rfl,λ_ _=>rfl,λ_=>rfl,λ_ _ _=>rfl,rfl,λ_ _ _ _ _=>rfl,rfl,λ_ _ _=>rfl,rfl,rfl⟩
def az:=ar @bj.eq_1 (ar @eu.eq_1 (ar @am.eq_1 (ar @aQ.eq_1 (ar ana am7))))
end
section
def Tok.cells(t:Tok):List I:=[.int .i64 t.kind,.str t.text,.int .i64 t.n,.int .i64 t.pos]
def Tok.v(t:Tok):I:= .agg [.int .i64 t.kind,.str t.text,.int .i64 t.n,.int .i64 t.pos]
def h9(H:J)(v:I)(T:List Tok):Prop:=(v= .an/\T=[])\/ ∃l i cap,v= .aM l i T.length 4 cap/\(T=[]\/ ∃ro els,H.get l=some (.row ro 4 els)/\ ∀(k:Nat) (t:Tok),T[k]? =some t->els[i+k]? =some t.cells)
def ee(H:J)(r:Nat)(aj bq:I)(s:aw):Prop:=H.get r=some (.row false 6 [[aj,.int .i64 s.at_,.int .i64 s.bN,bq,.int .i64 s.aA,.int .i64 s.cw]])
def vf:List (List (List I)):=[[[.str [124,124],.int .i64 24]],[[.str [38,38],.int .i64 23]],[[.str [60],.int .i64 19],[.str [60,61],.int .i64 20],[.str [61,61],.int .i64 21],[.str [33,61],.int .i64 22]],[[.str [43],.int .i64 14],[.str [45],.int .i64 15]],[[.str [42],.int .i64 16],[.str [47],.int .i64 17],[.str [37],.int .i64 18]]]
def zL(H:J)(bq:I):Prop:= ∃l i cap ro els,bq= .aM l i 5 1 cap/\H.get l=some (.row ro 1 els)/\ ∀(k:Nat) (row:List (List I)),vf[k]? =some row-> ∃l' qy HD AE me,els[i+k]? =some [.aM l' qy row.length 2 HD]/\H.get l'=some (.row AE 2 me)/\ ∀(j:Nat) (e:List I),row[j]? =some e->me[qy+j]? =some e
def CL(H:J)(bq:I):Prop:=bq= .an\/zL H bq
structure e1(H:J)(r:Nat)(T:List Tok)(aj bq:I)(s:aw):Prop where
 rd:ee H r aj bq s
 b9:h9 H aj T
 bq:CL H bq
abbrev cB(r:Nat):J->J->Prop:=dE (· =r)
theorem h9.bo{H H':J}{v:I}{T:List Tok}(h:h9 H v T)(p: ∀l ro els,H.get l=some (.row ro 4 els)->H'.get l=some (.row ro 4 els)):h9 H' v T:=by
 rcases h with h|⟨l,i,cap,U,aa|⟨ro,els,aa,ae⟩⟩
 ·exact .inl h
 ·exact .inr ⟨l,i,cap,U,.inl aa⟩
 ·exact .inr ⟨l,i,cap,U,.inr ⟨ro,els,p _ _ _ aa,ae⟩⟩
theorem h9.aK{H H':J}{v:I}{T:List Tok}(h:h9 H v T)(p:aR H H'):h9 H' v T:=h.bo λ_ _ _ e=>p.get e
theorem h9.one{H:J}{v:I}{T:List Tok}(h:h9 H v T):v.one=true:=by
 rcases h with⟨rfl,_⟩|⟨l,i,cap,rfl,_⟩<;>rfl
theorem zL.one{H:J}{v:I}(h:zL H v):v.one=true:=by
 obtain⟨l,i,cap,ro,els,rfl,_⟩:=h;rfl
theorem CL.one{H:J}{v:I}(h:CL H v):v.one=true:=by
 rcases h with rfl|h
 ·rfl
 ·exact h.one
theorem zL.bo{H H':J}{v:I}(h:zL H v)(p: ∀l ro n els,n≠6->H.get l=some (.row ro n els)->H'.get l=some (.row ro n els)):zL H' v:=by
 obtain⟨l,i,cap,ro,els,U,aa,ae⟩:=h;refine⟨l,i,cap,ro,els,U,p _ _ _ _ Z aa,λk row ah=> ?_⟩;obtain⟨l',qy,HD,AE,me,aI,bc,dm⟩:=ae k row ah;exact⟨l',qy,HD,AE,me,aI,p _ _ _ _ Z bc,dm⟩
theorem CL.bo{H H':J}{v:I}(h:CL H v)(p: ∀l ro n els,n≠6->H.get l=some (.row ro n els)->H'.get l=some (.row ro n els)):CL H' v:=by
 rcases h with rfl|h
 ·exact .inl rfl
 ·exact .inr (h.bo p)
theorem ee.aK{H H':J}{r:Nat}{aj bq:I}{s:aw}(a7:ee H r aj bq s)(p:aR H H'):ee H' r aj bq s:=p.get a7
theorem ee.lt{H:J}{r:Nat}{aj bq:I}{s:aw}(a7:ee H r aj bq s):r<H.next:=J.aW a7
theorem e1.mut{H H':J}{r:Nat}{T:List Tok}{aj bq:I}{s s':aw}(h:e1 H r T aj bq s)(m:cB r H H')(bb:ee H' r aj bq s'):e1 H' r T aj bq s':=by
 have dK: ∀l ro n els,n≠6->H.get l=some (.row ro n els)->H'.get l=some (.row ro n els):=λl ro n els aV e=>m.get e (by
  rintro rfl;rw[h.rd] at e;simp only[bD,dZ.row.injEq] at e;exact aV e.2.1.symm)
 exact⟨bb,h.b9.bo λl ro els e=>dK l ro 4 els Z e,h.bq.bo dK⟩
theorem e1.aK{H H':J}{r:Nat}{T:List Tok}{aj bq:I}{s:aw}(h:e1 H r T aj bq s)(p:aR H H'):e1 H' r T aj bq s:=h.mut (p.mut _) (h.rd.aK p)
theorem mD{H:J}{r:Nat}{aj bq:I}{s:aw}{T:List Tok}(a7:ee H r aj bq s)(bC:h9 H aj T):W (au P ao 121 [.ptr r 0 0] H) λv H'=>v=(aq T s.at_).v/\aR H H':=by
 unfold ee at a7;have ax:=J.aW a7;refine cU (λ_=>aiX 0) ?_;by_cases a6:s.at_<0
 ·simp-implicitDefEqProofs(disch:=try exact ag) only[Aa,bj,bO,Nat.reduceAdd,Nat.reduceLeDiff,reduceIte,I.cells,eu,fl,am,dy,aQ,dy,ei,dD,BN,wT,a7,a6,decide_true,a8];exact⟨by simp[aq,a6,Tok.v,Tok.none],aR.push _ _⟩
 ·rcases bC with⟨rfl,rfl⟩|⟨l,i,cap,rfl,hB⟩
  ·have U:(0:Int)<=s.at_:=Z;simp-implicitDefEqProofs(disch:=try exact ag) only[Aa,bj,bO,Nat.reduceAdd,Nat.reduceLeDiff,reduceIte,I.cells,eu,fl,am,dy,aQ,dy,ei,dD,BN,wT,a7,a6,U,decide_true,decide_false,a8,En];exact⟨by simp[aq,a6,Tok.v,Tok.none,U],aR.push _ _⟩
  ·by_cases U:(T.length:Int)<=s.at_
   ·simp-implicitDefEqProofs(disch:=try exact ag) only[Aa,bj,bO,Nat.reduceAdd,Nat.reduceLeDiff,reduceIte,I.cells,eu,fl,am,dy,aQ,dy,ei,dD,BN,wT,a7,a6,U,decide_true,decide_false,a8,xP];exact⟨by simp[aq,a6,Tok.v,Tok.none,U],aR.push _ _⟩
   ·have eo:s.at_.toNat<T.length:=Z;obtain⟨ro,els,aa,ae⟩:=hB.resolve_left (by rintro rfl;simp at eo);have lV:=J.aW aa;have al:=ae s.at_.toNat T[s.at_.toNat] (by simp[eo]);simp only[Tok.cells] at al;simp-implicitDefEqProofs(disch:=try exact ag) only[Aa,bj,bO,Nat.reduceAdd,Nat.reduceLeDiff,reduceIte,I.cells,eu,fl,am,dy,aQ,dy,ei,dD,BN,wT,a7,a6,U,decide_true,decide_false,a8,xP,EF,aa,al];refine⟨?_,aR.push _ _⟩;simp[aq,a6,U,Tok.v,eo]
theorem Bh{H:J}{r:Nat}{aj bq:I}{s:aw}(a7:ee H r aj bq s):W (au P ao 102 [.ptr r 0 0] H) λv H'=>v= .bool (s.aA != 0)/\H'=H:=by
 unfold ee at a7;refine cU (λ_=>aiJ 0) ?_;simp-implicitDefEqProofs(disch:=try exact ag) only[HU,bj,bO,Nat.reduceAdd,Nat.reduceLeDiff,reduceIte,I.cells,eu,fl,am,dy,aQ,dy,ei,dD,GU,Lr,a7,a8]
theorem rq{H:J}{r:Nat}{aj bq:I}{s:aw}{T:List Tok}(a7:ee H r aj bq s)(bC:h9 H aj T)(k:Int)(x:List UInt8):W (au P ao 119 [.ptr r 0 0,.int .i64 k,.str x] H) λv H'=>v= .bool (b4 T s k x)/\aR H H':=by
 refine cU (λ_=>aiV 0) ?_;rw[xU];refine aY (mD a7 bC) ?_;rintro _ H1 ⟨rfl,aU⟩;refine⟨aU.1,?_⟩;simp-implicitDefEqProofs(disch:=try exact ag) only[xU,bj,bO,Nat.reduceAdd,Nat.reduceLeDiff,reduceIte,I.cells,eu,fl,am,dy,aQ,dy,ei,dD,Tok.v];refine aY (Bh (a7.aK (aU.bV _))) ?_;rintro _ bl ⟨rfl,rfl⟩;refine⟨bL _,?_⟩;by_cases U:s.aA=0
 ·by_cases aa:(aq T s.at_).kind=k
  ·simp-implicitDefEqProofs(disch:=try exact ag) only[xU,bj,bO,Nat.reduceAdd,Nat.reduceLeDiff,reduceIte,I.cells,eu,fl,am,dy,aQ,dy,ei,dD,D7,D8,a8,U,aa,bne_self_eq_false,Bool.not_false,beq_self_eq_true];exact⟨by simp[b4,U,aa],aU.bV _⟩
  ·have hb:((aq T s.at_).kind==k)=false:=by simpa using aa
   simp-implicitDefEqProofs(disch:=try exact ag) only[xU,bj,bO,Nat.reduceAdd,Nat.reduceLeDiff,reduceIte,I.cells,eu,fl,am,dy,aQ,dy,ei,dD,D7,D8,a8,U,hb,bne_self_eq_false,Bool.not_false];exact⟨by simp[b4,U,aa],aU.bV _⟩
 ·have fr:(s.aA != 0)=true:=by simpa using U
  simp-implicitDefEqProofs(disch:=try exact ag) only[xU,bj,bO,Nat.reduceAdd,Nat.reduceLeDiff,reduceIte,I.cells,eu,fl,am,dy,aQ,dy,ei,dD,D7,D8,a8,fr,Bool.not_true];exact⟨by simp[b4,U],aU.bV _⟩
theorem qD{H:J}{r:Nat}{aj bq:I}{s:aw}(a7:ee H r aj bq s)(s':aw):cB r H (H.set r (.row false 6 [[aj,.int .i64 s'.at_,.int .i64 s'.bN,bq,.int .i64 s'.aA,.int .i64 s'.cw]]))/\ee (H.set r (.row false 6 [[aj,.int .i64 s'.at_,.int .i64 s'.bN,bq,.int .i64 s'.aA,.int .i64 s'.cw]])) r aj bq s':=
 ⟨dE.de (S:=(· =r)) (dE.refl _ _) (.inl rfl) _,J.get_set_same a7.lt⟩
theorem wM{H:J}{r:Nat}{T:List Tok}{aj bq:I}{s:aw}(af:e1 H r T aj bq s)(e:Int):W (au P ao 120 [.ptr r 0 0,.int .i64 e] H) λv H'=>v= .bool false/\cB r H H'/\e1 H' r T aj bq (cL T e s):=by
 refine cU (λ_=>aiW 0) ?_;have a7:=af.rd;have df:=af.b9.one;have hl:=af.bq.one;rw[z_];refine aY (Bh a7) ?_;rintro _ H1 ⟨rfl,rfl⟩;refine⟨bL _,?_⟩;by_cases U:s.aA=0
 ·rw[show cL T e s={s with aA:=e,cw:=(aq T s.at_).pos} by simp[cL,U]];simp-implicitDefEqProofs(disch:=try exact ag) only[w2,z_,bj,bO,U,bne_self_eq_false,Bool.not_false];refine aY (mD a7 af.b9) ?_;rintro _ bl ⟨rfl,aJ⟩;refine⟨aJ.1,?_⟩;have cJ:ee bl r aj bq s:=a7.aK aJ;have fH:=cJ;unfold ee at fH;simp-implicitDefEqProofs(disch:=try exact ag) only[w2,z_,bj,bO,Nat.reduceAdd,Nat.reduceLeDiff,reduceIte,I.cells,eu,fl,am,dy,aQ,dy,dD,Tok.v,Ls,KF,GU,fH,df,hl];obtain⟨m,bb⟩:=qD cJ {s with aA:=e,cw:=(aq T s.at_).pos};exact a8.2 ⟨rfl,(aJ.mut _).trans m,af.mut ((aJ.mut _).trans m) bb⟩
 ·have fr:(s.aA != 0)=true:=by simpa using U
  rw[show cL T e s=s by simp[cL,U]];simp-implicitDefEqProofs(disch:=try exact ag) only[w2,z_,bj,bO,fr,Bool.not_true];exact a8.2 ⟨rfl,dE.refl _ _,af⟩
theorem Kj{H:J}{r:Nat}{T:List Tok}{aj bq:I}{s:aw}(af:e1 H r T aj bq s)(k:Int)(x:List UInt8):W (au P ao 136 [.ptr r 0 0,.int .i64 k,.str x] H) λv H'=>v= .bool (fg T k x s).1/\cB r H H'/\e1 H' r T aj bq (fg T k x s).2:=by
 refine cU (λ_=>ai6 0) ?_;have a7:=af.rd;have df:=af.b9.one;have hl:=af.bq.one;rw[CA];refine aY (rq a7 af.b9 k x) ?_;rintro _ H1 ⟨rfl,aU⟩;refine⟨aU.1,?_⟩;have cJ:ee H1 r aj bq s:=a7.aK aU;have fH:=cJ;unfold ee at fH;cases ay:b4 T s k x with
 |false=>
  rw[show fg T k x s=(false,s) by simp[fg,ay]];simp-implicitDefEqProofs(disch:=try exact ag) only[CA,bj,bO,Bool.not_false];exact a8.2 ⟨rfl,aU.mut _,af.aK aU⟩
 |true=>
  rw[show fg T k x s=(true,aE s) by simp[fg,ay]];simp-implicitDefEqProofs(disch:=try exact ag) only[CA,bj,bO,Nat.reduceAdd,Nat.reduceLeDiff,reduceIte,I.cells,eu,fl,am,dy,aQ,dy,ei,dD,wT,fH,df,hl,Bool.not_true];obtain⟨m,bb⟩:=qD cJ (aE s);exact a8.2 ⟨rfl,(aU.mut _).trans m,af.mut ((aU.mut _).trans m) bb⟩
theorem Kk{H:J}{r:Nat}{T:List Tok}{aj bq:I}{s:aw}(af:e1 H r T aj bq s)(x:List UInt8):W (au P ao 122 [.ptr r 0 0,.str x] H) λv H'=>v= .bool (cY T x s).1/\cB r H H'/\e1 H' r T aj bq (cY T x s).2:=by
 refine cU (λ_=>aiY 0) ?_;rw[Ab];refine aY (Kj af 4 x) ?_;rintro _ H1 ⟨rfl,m1,dt⟩;refine⟨m1.1,?_⟩;cases ay:b4 T s 4 x with
 |true=>
  rw[show cY T x s=(true,aE s) by simp[cY,ay]];simp only[fg,ay,bx] at dt ⊢;simp-implicitDefEqProofs(disch:=try exact ag) only[Ab,bj,bO];exact a8.2 ⟨rfl,m1,dt⟩
 |false=>
  rw[show cY T x s=(false,cL T 2 s) by simp[cY,ay]];simp only[fg,ay,bi] at dt ⊢;simp-implicitDefEqProofs(disch:=try exact ag) only[Ab,bj,bO];refine hh (wM dt 2) ?_;rintro _ bl ⟨rfl,m2,cK⟩;refine⟨m2.1,?_⟩;simp-implicitDefEqProofs(disch:=try exact ag) only[Ab,bj,bO];exact a8.2 ⟨rfl,m1.trans m2,cK⟩
theorem Gl{H:J}{r:Nat}{T:List Tok}{aj bq:I}{s:aw}(af:e1 H r T aj bq s)(x:List UInt8):W (au P ao 177 [.ptr r 0 0,.str x] H) λv H'=>v= .bool (eG T x s).1/\cB r H H'/\e1 H' r T aj bq (eG T x s).2:=by
 refine cU (λ_=>ajr 0) ?_;have a7:=af.rd;have df:=af.b9.one;have hl:=af.bq.one;rw[vT];refine aY (rq a7 af.b9 4 x) ?_;rintro _ H1 ⟨rfl,aU⟩;refine⟨aU.1,?_⟩;have dt:=af.aK aU;have cJ:=dt.rd;have lV:=cJ.lt;have fH:=cJ;unfold ee at fH;cases ay:b4 T s 4 x with
 |false=>
  rw[show eG T x s=(false,cL T 2 s) by simp[eG,ay]];simp-implicitDefEqProofs(disch:=try exact ag) only[vT,bj,bO,Bool.not_false];refine aY (wM dt 2) ?_;rintro _ bl ⟨rfl,m2,cK⟩;refine⟨m2.1,?_⟩
  try simp only[vT]
  exact a8.2 ⟨rfl,(aU.mut _).trans m2,cK⟩
 |true=>
  by_cases bs:50<=s.bN
  ·rw[show eG T x s=(false,cL T 4 s) by simp[eG,ay,bs]];simp-implicitDefEqProofs(disch:=try exact ag) only[vT,bj,bO,Nat.reduceAdd,Nat.reduceLeDiff,reduceIte,I.cells,eu,fl,am,dy,aQ,dy,ei,dD,DU,fH,Bool.not_true,bs,decide_true];refine aY (wM dt 4) ?_;rintro _ bl ⟨rfl,m2,cK⟩;refine⟨m2.1,?_⟩
   try simp-implicitDefEqProofs(disch:=try exact ag) only[vT]
   exact a8.2 ⟨rfl,(aU.mut _).trans m2,cK⟩
  ·rw[show eG T x s=(true,{s with at_:=hD (s.at_+1),bN:=hD (s.bN+1)}) by simp[eG,ay,bs]];simp-implicitDefEqProofs(disch:=try exact ag) only[vT,bj,bO,Nat.reduceAdd,Nat.reduceLeDiff,reduceIte,I.cells,eu,fl,am,dy,aQ,dy,ei,dD,wT,DU,fH,cJ.lt,df,hl,Bool.not_true,bs,decide_false];obtain⟨m,bb⟩:=qD cJ {s with at_:=hD (s.at_+1),bN:=hD (s.bN+1)};exact a8.2 ⟨rfl,(aU.mut _).trans m,af.mut ((aU.mut _).trans m) bb⟩
theorem JR{H:J}{r:Nat}{T:List Tok}{aj bq:I}{s:aw}(af:e1 H r T aj bq s)(x:List UInt8):W (au P ao 195 [.ptr r 0 0,.str x] H) λv H'=>v= .bool (jW T x s).1/\cB r H H'/\e1 H' r T aj bq (jW T x s).2:=by
 refine cU (λ_=>ajH 0) ?_;have a7:=af.rd;have df:=af.b9.one;have hl:=af.bq.one;have iQ:=a7;unfold ee at iQ;simp-implicitDefEqProofs(disch:=try exact ag) only[G9,H2,bj,bO,Nat.reduceAdd,Nat.reduceLeDiff,reduceIte,I.cells,eu,fl,am,dy,aQ,dy,ei,dD,DU,iQ,df,hl];obtain⟨m,bb⟩:=qD a7 (fU s);refine aY (Kk (af.mut m bb) x) ?_;rintro _ H1 ⟨rfl,m1,dt⟩;refine⟨m1.1,?_⟩;simp only[G9];exact a8.2 ⟨rfl,m.trans m1,dt⟩
end
section
def fm.cells(a:fm)(kv:I):List I:=[.int .i64 a.kind,.int .i64 a.n,.str a.name,.str a.eQ,.int .i64 a.fS,kv,.int .i64 a.pos,.int .i64 a.wF,.int .i64 a.A8,.int .i64 a.tt,.int .i64 a.ref]
mutual
def ec(H:J)(ok:Nat->Prop):bh->I->Prop
 | .mk a bR,v=> ∃kv,v= .agg (a.cells kv)/\((kv= .an/\bR.length=0)\/(∃l i cap ro els,kv= .aM l i bR.length 11 cap/\ok l/\H.get l=some (.row ro 11 els)/\gm H ok bR (els.drop i))\/ ∃l i cap,kv= .aM l i 0 11 cap/\bR.length=0)
def gm(H:J)(ok:Nat->Prop):List bh->List (List I)->Prop
 |[],_=>True
 |e::es,[]=>False
 |e::es,cs::q3=>ec H ok e (.agg cs)/\gm H ok es q3
end
def dO(H:J)(ok:Nat->Prop)(bR:List bh)(kv:I):Prop:=(kv= .an/\bR.length=0)\/(∃l i cap ro els,kv= .aM l i bR.length 11 cap/\ok l/\H.get l=some (.row ro 11 els)/\gm H ok bR (els.drop i))\/ ∃l i cap,kv= .aM l i 0 11 cap/\bR.length=0
theorem lA{H:J}{ok:Nat->Prop}{a:fm}{bR:List bh}{v:I}:ec H ok (.mk a bR) v↔ ∃kv,v= .agg (a.cells kv)/\dO H ok bR kv:=by
 rw[ec];rfl
def e_(H:J)(ok:Nat->Prop)(H':J)(ok':Nat->Prop):Prop:= ∀l ro els,ok l->H.get l=some (.row ro 11 els)->ok' l/\H'.get l=some (.row ro 11 els)
mutual
theorem ec.bo{H H':J}{ok ok':Nat->Prop}(p:e_ H ok H' ok'): ∀(e:bh) (v:I),ec H ok e v->ec H' ok' e v
 | .mk a bR,v,h=>by
  rw[ec] at h ⊢;obtain⟨kv,U,aa⟩:=h;refine⟨kv,U,?_⟩;rcases aa with aa|⟨l,i,cap,ro,els,aI,bc,dm,eS⟩|aa
  ·exact .inl aa
  ·obtain⟨cE,cx⟩:=p l ro els bc dm;exact .inr (.inl ⟨l,i,cap,ro,els,aI,cE,cx,gm.bo p bR _ eS⟩)
  ·exact .inr (.inr aa)
theorem gm.bo{H H':J}{ok ok':Nat->Prop}(p:e_ H ok H' ok'): ∀(es:List bh) (cs:List (List I)),gm H ok es cs->gm H' ok' es cs
 |[],_,_=>by rw[gm];trivial
 |e::es,[],h=>by rw[gm] at h;exact h.elim
 |e::es,cs::q3,h=>by
  rw[gm] at h ⊢;exact⟨ec.bo p e _ h.1,gm.bo p es q3 h.2⟩
end
theorem dO.bo{H H':J}{ok ok':Nat->Prop}(p:e_ H ok H' ok'){bR:List bh}{v:I}(h:dO H ok bR v):dO H' ok' bR v:=by
 rcases h with aa|⟨l,i,cap,ro,els,aI,bc,dm,eS⟩|aa
 ·exact .inl aa
 ·obtain⟨cE,cx⟩:=p l ro els bc dm;exact .inr (.inl ⟨l,i,cap,ro,els,aI,cE,cx,gm.bo p bR _ eS⟩)
 ·exact .inr (.inr aa)
theorem e_.mut{r:Nat}{H H':J}{ok ok':Nat->Prop}(m:cB r H H')(a7: ¬ok r)(ax: ∀l,ok l->ok' l):e_ H ok H' ok':=λl ro els h e=>⟨ax l h,m.get e (by rintro rfl;exact a7 h)⟩
theorem e_.aK{H H':J}{ok ok':Nat->Prop}(m:aR H H')(ax: ∀l,ok l->ok' l):e_ H ok H' ok':=λl ro els h e=>⟨ax l h,m.get e⟩
def bG(n:Nat):Nat->Prop:=λl=>n<=l
theorem ec.agg{H:J}{ok:Nat->Prop}{e:bh}{v:I}(h:ec H ok e v): ∃k n nm o d kv p t1 t2 t3 Z4,v= .agg [.int .i64 k,.int .i64 n,.str nm,.str o,.int .i64 d,kv,.int .i64 p,.int .i64 t1,.int .i64 t2,.int .i64 t3,.int .i64 Z4]/\kv.one=true:=by
 cases e with|mk a bR=>
 rw[lA] at h;obtain⟨kv,U,aa⟩:=h;refine⟨_,_,_,_,_,kv,_,_,_,_,_,U,?_⟩;rcases aa with⟨rfl,_⟩|⟨l,i,cap,ro,els,rfl,_⟩|⟨l,i,cap,rfl,_⟩<;>rfl
theorem ec.leaf(H:J)(ok:Nat->Prop)(a:fm):ec H ok (.mk a []) (.agg (a.cells .an)):=by
 rw[lA];exact⟨_,rfl,.inl ⟨rfl,rfl⟩⟩
theorem Q2{r:Nat}{T:List Tok}{aj bq:I}{s:aw}{H0:J}(af:e1 H0 r T aj bq s){l i:Nat}{cap:Option Nat}{ro:Bool}{els:List (List I)}(aX:H0.get l=some (.row ro 2 els))(N:Nat)(all:List (bk×Int))(hG:all.length<=1000)
  (kN: ∀(j:Nat) (p:bk×Int),all[j]? =some p->els[i+j]? =some [.str p.1,.int .i64 p.2]):
  ∀(rest pre:List (bk×Int)),all=pre++rest-> ∀(n:Nat) (H:J),rest.length<n->aR H0 H->
   W (w9 (au P ao) N n (.ptr r 0 0) (.aM l i all.length 2 cap) (.int .i64 all.length) (.int .i64 pre.length) H) λv H'=>v= .int .i64 (sP T s rest)/\aR H0 H'
 |[],pre,bA,0,H,aV,p=>Z
 |[],pre,bA,n+1,H,aV,p=>by
  have U: ¬((pre.length:Int)<(all.length:Int)):=by rw[bA];simp
  simp-implicitDefEqProofs(disch:=try exact ag) only[w9,tK,w8,x1,reduceAdd,reduceLeDiff,reduceIte,az,U,decide_false];exact a8.2 ⟨rfl,p⟩
 |q::rest,pre,bA,0,H,aV,p=>Z
 |(x,k)::rest,pre,bA,n+1,H,aV,p=>by
  have U:(pre.length:Int)<(all.length:Int):=by rw[bA];simp;omega
  have a6:(0:Int)<=(pre.length:Int):=Z;have he:=kN pre.length (x,k) (by rw[bA];simp);have kO:=p.get aX;have ax:=J.aW kO;have aI:((pre.length:Int)).toNat=pre.length:=Z;simp-implicitDefEqProofs(disch:=try exact ag) only[w9,tK,w8,x1,reduceAdd,reduceLeDiff,reduceIte,az,U,decide_true,kO,aI,he];refine aY (rq (af.rd.aK (p.bV _)) (af.b9.aK (p.bV _)) 4 x) ?_;rintro _ bl ⟨rfl,aJ⟩;refine⟨aJ.1,?_⟩;have ay:bl.get H.next=some (.row false 2 [[.str x,.int .i64 k]]):=aJ.get (J.ca _ _)
  have bz:=(p.bV _).trans aJ;cases be:b4 T s 4 x with
  |true=>
   simp-implicitDefEqProofs(disch:=try exact ag) only[tK,w8,x1,reduceAdd,reduceLeDiff,reduceIte,az,ay];exact a8.2 ⟨by simp[sP,be],bz⟩
  |false=>
   have hw:IntKind.i64.wrap ((pre.length:Int)+1)=((pre++[(x,k)]).length:Int):=by
    have eo:pre.length<all.length:=Z;rw[wrap_i64 Z Z];simp
   simp-implicitDefEqProofs(disch:=try exact ag) only[tK,w8,x1,reduceAdd,reduceLeDiff,reduceIte,az,hw];refine(Q2 af aX N all hG kN rest (pre++[(x,k)]) (by simp[bA]) n bl (by simp at aV;omega) bz).mono ?_;rintro v H' ⟨rfl,q⟩;exact⟨by simp[sP,be],q⟩
theorem Q3{H:J}{r:Nat}{T:List Tok}{aj bq:I}{s:aw}(af:e1 H r T aj bq s)(fx:bq≠ .an)(lev:Nat)(o3:lev<5):W (au P ao 171 [.ptr r 0 0,.int .i64 lev] H) λv H'=>v= .int .i64 (ma T lev s)/\aR H H':=by
 refine cU (λ_=>ajq 10) ?_;have a7:=af.rd;unfold ee at a7;obtain⟨l,i,cap,ro,els,rfl,aa,ae⟩:=af.bq.resolve_left fx;obtain⟨all,rY⟩: ∃all,mO[lev]? =some all:=⟨mO[lev]'(by simpa [mO] using o3),by simp[mO]⟩;have mL:vf[lev]? =some (all.map λp=>[I.str p.1,.int .i64 p.2]):=by
  have:vf=mO.map λrow=>row.map λp=>[I.str p.1,.int .i64 p.2]:=rfl
  rw[this,List.getElem?_map,rY];rfl
 obtain⟨l',qy,HD,AE,me,aI,bc,dm⟩:=ae lev _ mL;have hle:all.length<=1000:=by
  have: ∀a∈mO,a.length<=1000:=cl;exact this all (List.mem_of_getElem? rY)
 have a6:(0:Int)<=(lev:Int):=Z;have aB:(lev:Int)<((5:Nat):Int):=Z;have bC:((lev:Int)).toNat=lev:=Z;simp only[List.length_map] at aI;simp-implicitDefEqProofs(disch:=try exact ag) only[tK,w8,x1,reduceAdd,reduceLeDiff,reduceIte,az,a7,aa,bC,aI];refine(Q2 af bc 10 all hle (λj p bP=>dm j _ (by rw[List.getElem?_map,bP];rfl)) all [] rfl 10 H (by
  have: ∀a∈mO,a.length<10:=cl;exact this all (List.mem_of_getElem? rY)) (.refl _)).mono ?_
 rintro v H' ⟨rfl,q⟩;exact⟨by simp[ma,rY],q⟩
theorem Sh{r:Nat}{T:List Tok}{aj bq:I}{H0:J}{s0:aw}(bt:e1 H0 r T aj bq s0){b t:Nat}(ay:H0.next<=b)(bC:H0.next<=t){x:bk}{k n q:Int}(d:Nat)(bb:d<=1000)(N:Nat):
  ∀(j i:Nat),i+j=d-> ∀(m:Nat) (H:J) (s:aw),j<m->cB r H0 H->ee H r aj bq s->H.get b=some (.row false 2 [[.str [],.int .i64 0]])->H.get t=some (.row false 4 [[.int .i64 k,.str x,.int .i64 n,.int .i64 q]])->
   W (wW (au P ao) N m (.ptr r 0 0) (.ptr b 0 0) (.int .i64 d) (.ptr t 0 0) (.int .i64 d) (.int .i64 i) H) λv H'=>v= .agg [.str x,.int .i64 d]/\cB r H0 H'/\e1 H' r T aj bq (oA T [93] j s)
 |0,i,be,0,H,s,hm,mt,nE,gz,jN=>Z
 |0,i,be,m+1,H,s,hm,mt,nE,gz,jN=>by
  have U: ¬((i:Int)<(d:Int)):=Z;have io:=J.aW gz;simp-implicitDefEqProofs(disch:=try exact ag) only[wW,pJ,rz,rv,n5,n6,n7,n8,n9,n_,oa,ob,oc,od,oe,og,oh,oi,qH,qI,pI,ry,q1,reduceAdd,reduceLeDiff,reduceIte,az,U,decide_false,gz,jN];exact a8.2 ⟨rfl,mt.de (.inr ay) _,bt.mut (mt.de (.inr ay) _) (by
   have:=bt.rd.lt;unfold ee at nE ⊢;rw[J.get_set_other Z];exact nE)⟩
 |j+1,i,be,0,H,s,hm,mt,nE,gz,jN=>Z
 |j+1,i,be,m+1,H,s,hm,mt,nE,gz,jN=>by
  have U:((i:Int)<(d:Int)):=Z;have h0:=bt.rd.lt;simp-implicitDefEqProofs(disch:=try exact ag) only[wW,pJ,rz,rv,n5,n6,n7,n8,n9,n_,oa,ob,oc,od,oe,og,oh,oi,qH,qI,pI,ry,q1,reduceAdd,reduceLeDiff,reduceIte,az,U,decide_true];refine aY (Kk (bt.mut mt nE) [93]) ?_;rintro _ bl ⟨rfl,m2,cK⟩;refine⟨m2.1,?_⟩;have hw:IntKind.i64.wrap ((i:Int)+1)=((i+1:Nat):Int):=by rw[wrap_i64 Z Z];simp
  simp-implicitDefEqProofs(disch:=try exact ag) only[pJ,rz,rv,n5,n6,n7,n8,n9,n_,oa,ob,oc,od,oe,og,oh,oi,qH,qI,pI,ry,q1,reduceAdd,reduceLeDiff,reduceIte,az,hw];refine(Sh bt ay bC d bb N j (i+1) Z m bl _ Z (mt.trans m2) cK.rd (m2.get gz Z) (m2.get jN Z)).mono ?_;rintro v H' ⟨rfl,cE,cx⟩;exact⟨rfl,cE,cx⟩
theorem LA{r:Nat}{T:List Tok}{aj bq:I}{H0:J}{s0:aw}(bt:e1 H0 r T aj bq s0){b t:Nat}(ay:H0.next<=b)(bC:H0.next<=t)(Ap:b≠t)(d:Nat)(bb:d<=1000)(N:Nat)(dX:d<N){H:J}{s:aw}(mt:cB r H0 H)(cp:ee H r aj bq s)(gz:H.get b=some (.row false 2 [[.str [],.int .i64 0]]))
  (jN:H.get t=some (.row false 4 [[.int .i64 (aq T s.at_).kind,.str (aq T s.at_).text,.int .i64 (aq T s.at_).n,.int .i64 (aq T s.at_).pos]])) {c:Bool}
  (aS:((aq T s.at_).kind != 1&&(!b4 T s 3 [105,110,116]&& !b4 T s 3 [98,111,111,108]))=c):
  W (rv (au P ao) N H (.ptr r 0 0) (.ptr b 0 0) (.int .i64 d) (.ptr t 0 0) (.bool c)) λv H'=>v= .agg [.str (js T d s).1.1,.int .i64 (js T d s).1.2]/\cB r H0 H'/\e1 H' r T aj bq (js T d s).2:=by
 have h0:=bt.rd.lt;have io:=J.aW gz;have eo:=J.aW jN;have hle:=mt.1;have af:=bt.mut mt cp;cases c with
 |true=>
  rw[show js T d s=(([],0),cL T 2 s) by simp only[js,aS,bx]];simp-implicitDefEqProofs(disch:=try exact ag) only[pJ,rz,rv,n5,n6,n7,n8,n9,n_,oa,ob,oc,od,oe,og,oh,oi,qH,qI,pI,ry,q1,reduceAdd,reduceLeDiff,reduceIte,az];refine aY (wM af 2) ?_;rintro _ H1 ⟨rfl,m1,dt⟩;refine⟨m1.1,?_⟩;have p7:=m1.get gz Z;have aq4:=J.aW p7;simp-implicitDefEqProofs(disch:=try exact ag) only[pJ,rz,rv,n5,n6,n7,n8,n9,n_,oa,ob,oc,od,oe,og,oh,oi,qH,qI,pI,ry,q1,reduceAdd,reduceLeDiff,reduceIte,az,p7];have m2:=(mt.trans m1).de (.inr ay) (.row false 2 [[.str [],.int .i64 0]]);refine a8.2 ⟨rfl,m2,bt.mut m2 ?_⟩;have:=dt.rd;unfold ee at this ⊢
  rw[J.get_set_other Z];exact this
 |false=>
  rw[show js T d s=(((aq T s.at_).text,(d:Int)),oA T [93] d (aE s)) by simp[js,aS]];have df:=af.b9.one;have hl:=af.bq.one;have Xn:=cp;unfold ee at Xn;simp-implicitDefEqProofs(disch:=try exact ag) only[pJ,rz,rv,n5,n6,n7,n8,n9,n_,oa,ob,oc,od,oe,og,oh,oi,qH,qI,pI,ry,q1,reduceAdd,reduceLeDiff,reduceIte,az,Xn,df,hl];obtain⟨m1,mR⟩:=qD cp (aE s);exact Sh bt ay bC d bb N d 0 Z N _ _ dX (mt.trans m1) mR (m1.get gz Z) (m1.get jN Z)
theorem VG{r:Nat}{T:List Tok}{aj bq:I}{H0:J}{s0:aw}(bt:e1 H0 r T aj bq s0){b:Nat}(ay:H0.next<=b)(d:Nat)(bb:d<=1000)(N:Nat)(dX:d<N){H:J}{s:aw}(mt:cB r H0 H)(cp:ee H r aj bq s)(gz:H.get b=some (.row false 2 [[.str [],.int .i64 0]])):
  W (oi (au P ao) N (.ptr r 0 0) (.ptr b 0 0) (.int .i64 d) H) λv H'=>v= .agg [.str (js T d s).1.1,.int .i64 (js T d s).1.2]/\cB r H0 H'/\e1 H' r T aj bq (js T d s).2:=by
 have h0:=bt.rd.lt;have io:=J.aW gz;have hle:=mt.1;rw[oi];refine aY (mD cp (bt.mut mt cp).b9) ?_;rintro _ H1 ⟨rfl,aU⟩;refine⟨aU.1,?_⟩;have arv:=aU.1;have aJ:=aU.bV (.row false 4 [[.int .i64 (aq T s.at_).kind,.str (aq T s.at_).text,.int .i64 (aq T s.at_).n,.int .i64 (aq T s.at_).pos]]);have jN:=J.ca H1 (.row false 4 [[.int .i64 (aq T s.at_).kind,.str (aq T s.at_).text,.int .i64 (aq T s.at_).n,.int .i64 (aq T s.at_).pos]]);have af:=bt.mut mt cp;by_cases ah:(aq T s.at_).kind=1
 ·have eZ:((aq T s.at_).kind != 1)=false:=by simpa using ah
  simp-implicitDefEqProofs(disch:=try exact ag) only[Tok.v,reduceAdd,reduceLeDiff,reduceIte,az,eZ,n5,n6,n7,n8,n9,n_,oa,ob,oc,od,oe,og,oh];exact LA bt ay Z Z d bb N dX (mt.trans (aJ.mut _)) (cp.aK aJ) (aJ.get gz) jN (by simp[ah])
 ·have eZ:((aq T s.at_).kind != 1)=true:=by simpa using ah
  simp-implicitDefEqProofs(disch:=try exact ag) only[Tok.v,reduceAdd,reduceLeDiff,reduceIte,az,eZ,n5,n6,n7,n8,n9,n_,oa,ob,oc,od,oe,og,oh];refine hh (rq (cp.aK aJ) (af.b9.aK aJ) 3 _) ?_;rintro _ bl ⟨rfl,bz⟩;refine⟨bz.1,?_⟩;have bK:=aJ.trans bz;have Nt:=bz.1;cases be:b4 T s 3 [105,110,116] with
  |true=>
   simp-implicitDefEqProofs(disch:=try exact ag) only[reduceAdd,reduceLeDiff,reduceIte,az,n5,n6,n7,n8,n9,n_,oa,ob,oc,od,oe,og,oh,Bool.not_true];exact LA bt ay Z Z d bb N dX (mt.trans (bK.mut _)) (cp.aK bK) (bK.get gz) (bz.get jN) (by simp[be])
  |false=>
   simp-implicitDefEqProofs(disch:=try exact ag) only[reduceAdd,reduceLeDiff,reduceIte,az,n5,n6,n7,n8,n9,n_,oa,ob,oc,od,oe,og,oh,Bool.not_false];refine hh (rq (cp.aK bK) (af.b9.aK bK) 3 _) ?_;rintro _ cQ ⟨rfl,cO⟩;refine⟨cO.1,?_⟩;have e2:=bK.trans cO;simp-implicitDefEqProofs(disch:=try exact ag) only[reduceAdd,reduceLeDiff,reduceIte,az,n5,n6,n7,n8,n9,n_,oa,ob,oc,od,oe,og,oh];exact LA bt ay Z Z d bb N dX (mt.trans (e2.mut _)) (cp.aK e2) (e2.get gz) ((bz.trans cO).get jN) (by simp[be,ah])
theorem ag0{r:Nat}{T:List Tok}{aj bq:I}{H0:J}{s0:aw}(bt:e1 H0 r T aj bq s0){b:Nat}(ay:H0.next<=b)(N:Nat)(dX:3<N):
  ∀(n d:Nat),n+d=3-> ∀(m:Nat) (H:J) (s:aw),n<m->cB r H0 H->ee H r aj bq s->H.get b=some (.row false 2 [[.str [],.int .i64 0]])->
   W (wX (au P ao) N m (.ptr r 0 0) (.ptr b 0 0) (.int .i64 d) H) λv H'=> ∃p:(bk×Int)×aw,p=(match jt T n d s with| .inr s'=>(([],0),s')| .inl (d,s')=>js T d s')/\v= .agg [.str p.1.1,.int .i64 p.1.2]/\cB r H0 H'/\e1 H' r T aj bq p.2:=by
 intro n
 induction n with
 |zero=>
  intro d bb m H s hm mt cp gz;obtain⟨m,rfl⟩: ∃k,m=k+1:=⟨m-1,Z⟩;have lp:d=3:=Z;subst lp;have af:=bt.mut mt cp;have h0:=bt.rd.lt;have io:=J.aW gz;simp only[wX];rw[pI];refine aY (rq cp af.b9 4 [91]) ?_;rintro _ H1 ⟨rfl,aU⟩;refine⟨aU.1,?_⟩;have p7:=aU.get gz;cases be:b4 T s 4 [91] with
  |true=>
   simp-implicitDefEqProofs(disch:=try exact ag) only[pJ,rz,rv,n5,n6,n7,n8,n9,n_,oa,ob,oc,od,oe,og,oh,oi,qH,qI,pI,ry,q1,reduceAdd,reduceLeDiff,reduceIte,az,beq_self_eq_true,Int.cast_ofNat_Int];refine aY (wM (af.aK aU) 4) ?_;rintro _ bl ⟨rfl,m2,cK⟩;refine⟨m2.1,?_⟩;have Ey:=m2.get p7 Z;have vM:=J.aW Ey;simp-implicitDefEqProofs(disch:=try exact ag) only[pJ,rz,rv,n5,n6,n7,n8,n9,n_,oa,ob,oc,od,oe,og,oh,oi,qH,qI,pI,ry,q1,reduceAdd,reduceLeDiff,reduceIte,az,Ey];have m3:=((mt.trans (aU.mut _)).trans m2).de (.inr ay) (.row false 2 [[.str [],.int .i64 0]]);refine a8.2 ⟨(([],0),cL T 4 s),by simp[jt,be],rfl,m3,bt.mut m3 ?_⟩
   have:=cK.rd;unfold ee at this ⊢;rw[J.get_set_other Z];exact this
  |false=>
   simp-implicitDefEqProofs(disch:=try exact ag) only[qI,qH,reduceAdd,reduceLeDiff,reduceIte,az];refine(VG bt ay 3 Z N dX (mt.trans (aU.mut _)) (cp.aK aU) p7).mono ?_;rintro v H' ⟨rfl,cE,cx⟩;exact⟨js T 3 s,by simp[jt,be],rfl,cE,cx⟩
 |succ n aT=>
  intro d bb m H s hm mt cp gz;obtain⟨m,rfl⟩: ∃k,m=k+1:=⟨m-1,Z⟩;have af:=bt.mut mt cp;have h0:=bt.rd.lt;have io:=J.aW gz;have df:=af.b9.one;have hl:=af.bq.one;simp only[wX];rw[pI];refine aY (rq cp af.b9 4 [91]) ?_;rintro _ H1 ⟨rfl,aU⟩;refine⟨aU.1,?_⟩;have p7:=aU.get gz;have vN:=cp.aK aU;have Em:=vN;unfold ee at Em;cases be:b4 T s 4 [91] with
  |true=>
   have ae:((d:Int)==3)=false:=by simp;omega
   have hw:IntKind.i64.wrap ((d:Int)+1)=((d+1:Nat):Int):=by rw[wrap_i64 Z Z];simp
   obtain⟨m2,mS⟩:=qD vN (aE s);simp-implicitDefEqProofs(disch:=try exact ag) only[pJ,rz,rv,n5,n6,n7,n8,n9,n_,oa,ob,oc,od,oe,og,oh,oi,qH,qI,pI,ry,q1,reduceAdd,reduceLeDiff,reduceIte,az,ae,hw,Em,df,hl];refine(aT (d+1) Z m _ _ Z ((mt.trans (aU.mut _)).trans m2) mS (m2.get p7 Z)).mono ?_;rintro v H' ⟨p,bA,rfl,cE,cx⟩;exact⟨p,by rw[bA];simp[jt,be],rfl,cE,cx⟩
  |false=>
   simp-implicitDefEqProofs(disch:=try exact ag) only[qI,qH,reduceAdd,reduceLeDiff,reduceIte,az];refine(VG bt ay d Z N Z (mt.trans (aU.mut _)) (cp.aK aU) p7).mono ?_;rintro v H' ⟨rfl,cE,cx⟩;exact⟨js T d s,by simp[jt,be],rfl,cE,cx⟩
theorem K8{H:J}{r:Nat}{T:List Tok}{aj bq:I}{s:aw}(af:e1 H r T aj bq s):W (au P ao 101 [.ptr r 0 0] H) λv H'=>v= .agg [.str (eJ T s).1.1,.int .i64 (eJ T s).1.2]/\cB r H H'/\e1 H' r T aj bq (eJ T s).2:=by
 refine cU (λ_=>aiI 10) ?_;simp only[q1,cv,ry];have p:=aR.push H (.row false 2 [[.str [],.int .i64 0]]);refine(ag0 af (bL _) 10 Z 3 0 rfl 10 _ s Z (p.mut _) (af.rd.aK p) (J.ca _ _)).mono ?_;rintro v H' ⟨q,bg,rfl,cE,cx⟩;have:q=eJ T s:=by rw[bg];rfl
 subst this;exact⟨rfl,cE,cx⟩
end
section
theorem jK(l:Nat)(cs:List I)(h:cs.length=11)(bs:cs.all I.one=true):dH P l 96 1 [(0,.agg cs)]=some (.aM l 0 1 11 (some 1),.row false 11 [cs]):=by
 have:dH P l 96 1 [(0,.agg cs)]=(qG 11 (List.replicate 1 [.int .i64 0,.int .i64 0,.str [],.str [],.int .i64 0,.an,.int .i64 0,.int .i64 0,.int .i64 0,.int .i64 0,.int .i64 0]) [(0,.agg cs)]).bind λels=>some (.aM l 0 1 11 (some 1),.row false 11 els):=ad
 rw[this];simp[qG,I.cells,h,bs]
theorem B9(l:Nat)(cs bU:List I)(h:cs.length=11)(bs:cs.all I.one=true)(bZ:bU.length=11)(Fo:bU.all I.one=true):dH P l 96 2 [(0,.agg cs),(1,.agg bU)]=some (.aM l 0 2 11 (some 2),.row false 11 [cs,bU]):=by
 have:dH P l 96 2 [(0,.agg cs),(1,.agg bU)]=(qG 11 (List.replicate 2 [.int .i64 0,.int .i64 0,.str [],.str [],.int .i64 0,.an,.int .i64 0,.int .i64 0,.int .i64 0,.int .i64 0,.int .i64 0]) [(0,.agg cs),(1,.agg bU)]).bind λels=>some (.aM l 0 2 11 (some 2),.row false 11 els):=ad
 rw[this];have a7:List.replicate 2 [I.int .i64 0,.int .i64 0,.str [],.str [],.int .i64 0,.an,.int .i64 0,.int .i64 0,.int .i64 0,.int .i64 0,.int .i64 0]=[[I.int .i64 0,.int .i64 0,.str [],.str [],.int .i64 0,.an,.int .i64 0,.int .i64 0,.int .i64 0,.int .i64 0,.int .i64 0],[I.int .i64 0,.int .i64 0,.str [],.str [],.int .i64 0,.an,.int .i64 0,.int .i64 0,.int .i64 0,.int .i64 0,.int .i64 0]]:=rfl;rw[a7];simp[qG,I.cells,h,bs,bZ,Fo]
theorem e_.push{H:J}{ok ok':Nat->Prop}(b:dZ)(ax: ∀l,ok l->ok' l):e_ H ok (H.push b) ok':=e_.aK (aR.push H b) ax
theorem e_.set{H:J}{ok ok':Nat->Prop}{l:Nat}(b:dZ)(h: ¬ok l)(ax: ∀l,ok l->ok' l):e_ H ok (H.set l b) ok':=λj ro els bP e=>⟨ax j bP,by rw[J.get_set_other (by rintro rfl;exact h bP)];exact e⟩
theorem e_.q9{H:J}{ok ok':Nat->Prop}(h: ∀l,ok l->ok' l):e_ H ok H ok':=λl ro els ax e=>⟨h l ax,e⟩
theorem ec.cells{H:J}{ok:Nat->Prop}{e:bh}{v:I}(h:ec H ok e v): ∃cs,v= .agg cs/\cs.length=11/\cs.all I.one=true:=by
 obtain⟨k,n,nm,o,d,kv,p,t1,t2,t3,Z4,rfl,U⟩:=h.agg;exact⟨_,rfl,rfl,by simp only[List.all_cons,List.all_nil,iy,jJ,U,Bool.and_self]⟩
theorem ec.same{H:J}{ok:Nat->Prop}{e:bh}{v:I}(h:ec H ok e v):cd (some v) v=true:=by
 cases e with|mk a bR=>
 rw[lA] at h;obtain⟨kv,rfl,aa⟩:=h;have:I.beq kv kv=true:=by rcases aa with⟨rfl,_⟩|⟨l,i,cap,ro,els,rfl,_⟩|⟨l,i,cap,rfl,_⟩<;>simp[I.beq]
 simp[cd,I.beq,jA.beq,fm.cells,this]
def rM(ok:Nat->Prop)(H:J)(r:Nat)(T:List Tok)(aj bq:I)(e:bh)(s':aw)(v:I)(H':J):Prop:=cB r H H'/\e1 H' r T aj bq s'/\ec H' ok e v
abbrev f6(H:J):=rM (bG H.next) H
theorem f6.box{H hy:J}{r:Nat}{T:List Tok}{aj bq:I}{s s':aw}{a:fm}{bR:List bh}{kv:I}{b:Nat}{lo:Nat}(af:e1 H r T aj bq s)(m:cB r H hy)(bb:ee hy r aj bq s')(ay:H.next<=b)(kl:b<lo)(ah:dO hy (bG lo) bR kv)(gW:dZ):
  f6 H r T aj bq (.mk a bR) s' (.agg (a.cells kv)) (hy.set b gW):=by
 have ax:=af.rd.lt;have fp:=m.de (.inr ay) gW;refine⟨fp,af.mut fp ?_,?_⟩
 ·unfold ee at bb ⊢;rw[J.get_set_other Z];exact bb
 ·rw[lA];exact⟨kv,rfl,ah.bo (e_.set _ (by unfold bG;omega) λl ax=>by unfold bG at*;omega)⟩
theorem dO.nil(H:J)(ok:Nat->Prop):dO H ok [] .an:= .inl ⟨rfl,rfl⟩
theorem QB{H:J}{r:Nat}{T:List Tok}{aj bq:I}{s:aw}(af:e1 H r T aj bq s):W (au P ao 188 [.ptr r 0 0] H) (f6 H r T aj bq (vD T s).1 (vD T s).2):=by
 refine cU (λ_=>ajA 0) ?_;have ax:=af.rd.lt;have df:=af.b9.one;have hl:=af.bq.one;simp-implicitDefEqProofs(disch:=try exact ag) only[xb,CF,reduceAdd,reduceLeDiff,reduceIte,az];refine aY (mD (af.rd.aK (aR.push _ _)) (af.b9.aK (aR.push _ _))) ?_;rintro _ bl ⟨rfl,aJ⟩;refine⟨aJ.1,?_⟩;have jO:=aJ.1;simp only[J.b6] at jO;have bM:=((aR.push H _).trans aJ).mut (· =r);have cJ:=af.rd.aK ((aR.push H _).trans aJ);unfold ee at cJ;have cn:=aJ.get (J.ca H _);cases bC:(aq T s.at_).text==[116,114,117,101] with
 |true=>
  simp-implicitDefEqProofs(disch:=try exact ag) only[xb,CF,reduceAdd,reduceLeDiff,reduceIte,az,Tok.v,cJ,cn,df,hl,bC];simp only[vD,bC,bx];refine a8.2 ?_;refine f6.box (a:={kind:=2,n:=1,pos:=(aq T s.at_).pos}) (kv:= .an) (s':=aE s) (lo:=H.next+1) af ?_ ?_ ?_ ?_ (dO.nil _ _) _
  ·(repeat (first|exact bM|refine dE.bV ?_ _|refine dE.de (S:=(· =r)) ?_ (.inl rfl) _|refine dE.de ?_ (.inr (by(first|omega|(simp only[J.b6,J.e9];omega)))) _))
  ·(unfold ee;simp-implicitDefEqProofs(disch:=try exact ag) only[dD,cJ,aE,fU])
  ·exact bL _
  ·exact Nat.lt_succ_self _
 |false=>
  simp-implicitDefEqProofs(disch:=try exact ag) only[xb,CF,reduceAdd,reduceLeDiff,reduceIte,az,Tok.v,cJ,cn,df,hl,bC];simp only[vD,bC,bi];refine a8.2 ?_;refine f6.box (a:={kind:=2,n:=0,pos:=(aq T s.at_).pos}) (kv:= .an) (s':=aE s) (lo:=H.next+1) af ?_ ?_ ?_ ?_ (dO.nil _ _) _
  ·(repeat (first|exact bM|refine dE.bV ?_ _|refine dE.de (S:=(· =r)) ?_ (.inl rfl) _|refine dE.de ?_ (.inr (by(first|omega|(simp only[J.b6,J.e9];omega)))) _))
  ·(unfold ee;simp-implicitDefEqProofs(disch:=try exact ag) only[dD,cJ,aE,fU])
  ·exact bL _
  ·exact Nat.lt_succ_self _
theorem adS{H:J}{r:Nat}{T:List Tok}{aj bq:I}{s:aw}(af:e1 H r T aj bq s):W (au P ao 189 [.ptr r 0 0] H) (f6 H r T aj bq (Cl T s).1 (Cl T s).2):=by
 refine cU (λ_=>ajB 0) ?_;have ax:=af.rd.lt;have df:=af.b9.one;have hl:=af.bq.one;simp-implicitDefEqProofs(disch:=try exact ag) only[CG,reduceAdd,reduceLeDiff,reduceIte,az];refine aY (mD (af.rd.aK (aR.push _ _)) (af.b9.aK (aR.push _ _))) ?_;rintro _ bl ⟨rfl,aJ⟩;refine⟨aJ.1,?_⟩;have jO:=aJ.1;simp only[J.b6] at jO;have bM:=((aR.push H _).trans aJ).mut (· =r);have nz:=af.rd.aK ((aR.push H _).trans aJ);have cJ:=nz;unfold ee at cJ;have cn:=aJ.get (J.ca H _);obtain⟨m3,lp⟩:=qD nz (aE s);simp-implicitDefEqProofs(disch:=try exact ag) only[CG,reduceAdd,reduceLeDiff,reduceIte,az,Tok.v,cJ,df,hl];refine aY (K8 (af.mut (bM.trans m3) lp)) ?_
 rintro _ cu ⟨rfl,m4,fa⟩;refine⟨m4.1,?_⟩;have fV:=m4.get (m3.get cn Z) Z;have x9:=J.aW fV;replace bM:=(bM.trans m3).trans m4;simp-implicitDefEqProofs(disch:=try exact ag) only[CG,reduceAdd,reduceLeDiff,reduceIte,az,fV];refine a8.2 ?_;exact f6.box (a:={kind:=3,eQ:=(eJ T (aE s)).1.1,fS:=(eJ T (aE s)).1.2,pos:=(aq T s.at_).pos}) (kv:= .an) (lo:=H.next+1) af bM fa.rd (bL _) (Nat.lt_succ_self _) (dO.nil _ _) _
theorem ad0{H:J}{r:Nat}{T:List Tok}{aj bq:I}{s:aw}(af:e1 H r T aj bq s):W (au P ao 192 [.ptr r 0 0] H) (f6 H r T aj bq (p0 T s).1 (p0 T s).2):=by
 refine cU (λ_=>ajE 0) ?_;have ax:=af.rd.lt;have df:=af.b9.one;have hl:=af.bq.one;simp-implicitDefEqProofs(disch:=try exact ag) only[tM,x2,reduceAdd,reduceLeDiff,reduceIte,az];refine aY (mD (af.rd.aK (aR.push _ _)) (af.b9.aK (aR.push _ _))) ?_;rintro _ bl ⟨rfl,aJ⟩;refine⟨aJ.1,?_⟩;have jO:=aJ.1;simp only[J.b6] at jO;have bM:=((aR.push H _).trans aJ).mut (· =r);have nz:=af.rd.aK ((aR.push H _).trans aJ);have cJ:=nz;unfold ee at cJ;have cn:=aJ.get (J.ca H _);obtain⟨m3,lp⟩:=qD nz (aE s);simp-implicitDefEqProofs(disch:=try exact ag) only[tM,x2,reduceAdd,reduceLeDiff,reduceIte,az,Tok.v,cJ,df,hl];refine aY (Gl (af.mut (bM.trans m3) lp) [40]) ?_
 rintro _ cu ⟨rfl,m4,fa⟩;refine⟨m4.1,?_⟩;have fV:=m4.get (m3.get cn Z) Z;have x9:=J.aW fV;replace bM:=(bM.trans m3).trans m4;cases bs:(eG T [40] (aE s)).1 with
 |true=>
  rw[show p0 T s=(.mk {kind:=11,pos:=(aq T s.at_).pos} [],(jW T [41] (eG T [40] (aE s)).2).2) by simp only[p0,bs,bx]];simp-implicitDefEqProofs(disch:=try exact ag) only[tM,x2,reduceAdd,reduceLeDiff,reduceIte,az];refine aY (JR fa [41]) ?_;rintro _ dc ⟨rfl,m5,ff⟩;refine⟨m5.1,?_⟩;have gu:=m5.get fV Z;have CZ:=J.aW gu;simp-implicitDefEqProofs(disch:=try exact ag) only[tM,x2,reduceAdd,reduceLeDiff,reduceIte,az,gu];refine a8.2 ?_;exact f6.box (a:={kind:=11,pos:=(aq T s.at_).pos}) (kv:= .an) (lo:=H.next+1) af (bM.trans m5) ff.rd (bL _) (Nat.lt_succ_self _) (dO.nil _ _) _
 |false=>
  rw[show p0 T s=(.mk {kind:=11,pos:=(aq T s.at_).pos} [],(eG T [40] (aE s)).2) by simp only[p0,bs,bi]];simp-implicitDefEqProofs(disch:=try exact ag) only[tM,x2,reduceAdd,reduceLeDiff,reduceIte,az,fV];refine a8.2 ?_;exact f6.box (a:={kind:=11,pos:=(aq T s.at_).pos}) (kv:= .an) (lo:=H.next+1) af bM fa.rd (bL _) (Nat.lt_succ_self _) (dO.nil _ _) _
end
section
theorem rM.fin{ok:Nat->Prop}{H dU:J}{r:Nat}{T:List Tok}{aj bq:I}{s s':aw}{a:fm}{bR:List bh}{kv:I}(af:e1 H r T aj bq s)(m:cB r H dU)(bb:ee dU r aj bq s')(ah:dO dU ok bR kv):rM ok H r T aj bq (.mk a bR) s' (.agg (a.cells kv)) dU:=
 ⟨m,af.mut m bb,lA.2 ⟨kv,rfl,ah⟩⟩
theorem dO.qO{H:J}{ok:Nat->Prop}{L:Nat}{e:bh}{cs:List I}{cap:Option Nat}{ro:Bool}(aX:H.get L=some (.row ro 11 [cs]))(ax:ok L)(h:ec H ok e (.agg cs)):dO H ok [e] (.aM L 0 1 11 cap):=by
 refine .inr (.inl ⟨L,0,cap,ro,[cs],rfl,ax,aX,?_⟩);simp only[List.drop_zero];rw[gm,gm];exact⟨h,trivial⟩
theorem dO.B_{H:J}{ok:Nat->Prop}{L:Nat}{e f:bh}{cs bU:List I}{cap:Option Nat}{ro:Bool}(aX:H.get L=some (.row ro 11 [cs,bU]))(ax:ok L)(h:ec H ok e (.agg cs))(bZ:ec H ok f (.agg bU)):dO H ok [e,f] (.aM L 0 2 11 cap):=by
 refine .inr (.inl ⟨L,0,cap,ro,[cs,bU],rfl,ax,aX,?_⟩);simp only[List.drop_zero];rw[gm,gm,gm];exact⟨h,bZ,trivial⟩
theorem ec.mut{H H':J}{ok ok':Nat->Prop}{r:Nat}{e:bh}{v:I}(h:ec H ok e v)(m:cB r H H')(a7: ¬ok r)(ax: ∀l,ok l->ok' l):ec H' ok' e v:=ec.bo (e_.mut m a7 ax) e v h
theorem ec.new{H H':J}{ok:Nat->Prop}{n:Nat}{e:bh}{v:I}(h:ec H (bG n) e v)(m:dE (· <n) H H')(ax: ∀l,n<=l->ok l):ec H' ok e v:=
 ec.bo (λl ro els dF g=>⟨ax l dF,m.get g (Nat.not_lt.2 dF)⟩) e v h
theorem QV{ok:Nat->Prop}{H0 H:J}{r:Nat}{T:List Tok}{aj bq:I}{s0 s:aw}{e:bh}{cs:List I}(bt:e1 H0 r T aj bq s0)(he:ec H0 ok e (.agg cs))(hlen:cs.length=11)(dL:cs.all I.one=true)(kl: ¬ok r)(zR: ∀l,H0.next<=l->ok l){b3 ez rj:Nat}{k n q pos:Int}{x:bk}(bM:cB r H0 H)(cp:ee H r aj bq s)
  (ae:H.get b3=some (.row false 11 [cs])) {gl:List I} (al:H.get ez=some (.row false 11 [gl])) (ct:gl.length=11) (aG:H.get rj=some (.row false 4 [[.int .i64 k,.str x,.int .i64 n,.int .i64 q]])) (eK:H0.next<=b3) (fV:H0.next<=ez) (qk:H0.next<=rj) (s5:b3≠ez):
  W (y7 (au P ao) (.ptr r 0 0) (.ptr b3 0 0) (.ptr ez 0 0) (.int .i64 pos) (.ptr rj 0 0) H) (rM ok H0 r T aj bq (.mk {kind:=5,name:=x,pos:=pos} [e]) (aE s)):=by
 have ax:=bt.rd.lt;have df:=bt.b9.one;have hl:=bt.bq.one;have cJ:=cp;unfold ee at cJ;have h0:=cp.lt;have gL:=J.aW ae;have hO:=J.aW al;have F6:=J.aW aG;have hle:=bM.1;have bC:List.take 11 cs=cs:=List.take_of_length_le Z;have aO: ∀l,dH P l 96 1 [(0,.agg cs)]=some (.aM l 0 1 11 (some 1),.row false 11 [cs]):=λl=>jK l cs hlen dL
 have bb:List.drop 11 gl=[]:=List.drop_of_length_le Z;simp-implicitDefEqProofs(disch:=try exact ag) only[y7,vU,reduceAdd,reduceLeDiff,reduceIte,az,cJ,df,hl,ae,al,aG,bC,aO,bb];refine a8.2 ?_;refine rM.fin (a:={kind:=5,name:=x,pos:=pos}) (kv:= .aM H.next 0 1 11 (some 1)) bt ?_ ?_ (dO.qO (ro:=false) ?_ (zR _ Z) (he.mut (r:=r) ?_ kl λ_ h=>h))
 ·(repeat (first|exact bM|refine dE.bV ?_ _|refine dE.de (S:=(· =r)) ?_ (.inl rfl) _|refine dE.de ?_ (.inr (by(first|omega|(simp only[J.b6,J.e9];omega)))) _))
 ·(unfold ee;simp-implicitDefEqProofs(disch:=try exact ag) only[dD,cJ,aE,fU])
 ·simp-implicitDefEqProofs(disch:=try exact ag) only[dD]
 ·(repeat (first|exact bM|refine dE.bV ?_ _|refine dE.de (S:=(· =r)) ?_ (.inl rfl) _|refine dE.de ?_ (.inr (by(first|omega|(simp only[J.b6,J.e9];omega)))) _))
theorem ab3{ok:Nat->Prop}{H:J}{r:Nat}{T:List Tok}{aj bq:I}{s:aw}{e:bh}{v:I}(af:e1 H r T aj bq s)(he:ec H ok e v)(kl: ¬ok r)(zR: ∀l,H.next<=l->ok l):W (au P ao 185 [.ptr r 0 0,v] H) (rM ok H r T aj bq (kF T e s).1 (kF T e s).2):=by
 refine cU (λ_=>ajx 0) ?_;obtain⟨cs,rfl,hlen,dL⟩:=he.cells;have ax:=af.rd.lt;have df:=af.b9.one;have hl:=af.bq.one;have ic: ∀l,eW l (.agg cs)=some (.ptr l 0 0,.row false 11 [cs]):=λl=>by rw[ij l cs dL,hlen]
 simp-implicitDefEqProofs(disch:=try exact ag) only[vU,reduceAdd,reduceLeDiff,reduceIte,az,ic];have aU:=(aR.push H (.row false 11 [cs])).bV (.row false 11 [[.int .i64 0,.int .i64 0,.str [],.str [],.int .i64 0,.an,.int .i64 0,.int .i64 0,.int .i64 0,.int .i64 0,.int .i64 0]]);refine aY (mD (af.rd.aK aU) (af.b9.aK aU)) ?_;rintro _ bl ⟨rfl,aJ⟩;refine⟨aJ.1,?_⟩;have jO:=aJ.1;simp only[J.b6] at jO;have bM:=(aU.trans aJ).mut (· =r);have nz:=af.rd.aK (aU.trans aJ);have cJ:=nz;unfold ee at cJ;have ae:bl.get H.next=some (.row false 11 [cs]):=by rw[aJ.2 _ (by simp only[J.b6];omega)];simp-implicitDefEqProofs(disch:=try exact ag) only[dD]
 have al:bl.get (H.next+1)=some (.row false 11 [[.int .i64 0,.int .i64 0,.str [],.str [],.int .i64 0,.an,.int .i64 0,.int .i64 0,.int .i64 0,.int .i64 0,.int .i64 0]]):=by rw[aJ.2 _ (by simp only[J.b6];omega)];simp-implicitDefEqProofs(disch:=try exact ag) only[dD]
 obtain⟨m3,lp⟩:=qD nz (aE s);simp-implicitDefEqProofs(disch:=try exact ag) only[vU,reduceAdd,reduceLeDiff,reduceIte,az,Tok.v,cJ,df,hl];have eY:=af.mut (bM.trans m3) lp;refine aY (mD eY.rd eY.b9) ?_;rintro _ cu ⟨rfl,bK⟩;refine⟨bK.1,?_⟩;have Fm:=bK.1;simp only[J.e9] at Fm;have fa:=eY.aK bK;have ye:=(bM.trans m3).trans (bK.mut _);have s5:=bK.get (m3.get ae Z);have Fb:=bK.get (m3.get al Z);have cO:=aR.push cu (.row false 4 [[.int .i64 (aq T (aE s).at_).kind,.str (aq T (aE s).at_).text,.int .i64 (aq T (aE s).at_).n,.int .i64 (aq T (aE s).at_).pos]]);have YK:=J.ca cu (.row false 4 [[.int .i64 (aq T (aE s).at_).kind,.str (aq T (aE s).at_).text,.int .i64 (aq T (aE s).at_).n,.int .i64 (aq T (aE s).at_).pos]])
 by_cases ah:(aq T (aE s).at_).kind=1
 ·have eZ:((aq T (aE s).at_).kind != 1)=false:=by simpa using ah
  rw[show kF T e s=(.mk {kind:=5,name:=(aq T (aE s).at_).text,pos:=(aq T s.at_).pos} [e],aE (aE s)) by simp only[kF,eZ,bi]];simp-implicitDefEqProofs(disch:=try exact ag) only[vU,reduceAdd,reduceLeDiff,reduceIte,az,Tok.v,eZ];exact QV af he hlen dL kl zR (ye.trans (cO.mut _)) (fa.rd.aK cO) (cO.get s5) (cO.get Fb) rfl YK Z Z Z Z
 ·have eZ:((aq T (aE s).at_).kind != 1)=true:=by simpa using ah
  rw[show kF T e s=(.mk {kind:=5,name:=(aq T (aE s).at_).text,pos:=(aq T s.at_).pos} [e],aE (cL T 2 (aE s))) by simp only[kF,eZ,bx]];simp-implicitDefEqProofs(disch:=try exact ag) only[vU,reduceAdd,reduceLeDiff,reduceIte,az,Tok.v,eZ];refine aY (wM (fa.aK cO) 2) ?_;rintro _ fX ⟨rfl,m6,hC⟩;refine⟨m6.1,?_⟩
  try simp only[vU]
  exact QV af he hlen dL kl zR ((ye.trans (cO.mut _)).trans m6) hC.rd (m6.get (cO.get s5) Z) (m6.get (cO.get Fb) Z) rfl (m6.get YK Z) Z Z Z Z
def mH(n:Nat):Prop:= ∀{H:J} {r:Nat} {T:List Tok} {aj bq:I} {s:aw},e1 H r T aj bq s->bq≠ .an-> ∀(lev:Nat),lev<=5-> ∀(e:bh) (s':aw),iY T n lev s=some (e,s')->W (au P ao 165 [.ptr r 0 0,.int .i64 lev] H) (f6 H r T aj bq e s')
def BL(n:Nat):Prop:= ∀{H:J} {r:Nat} {T:List Tok} {aj bq:I} {s:aw},e1 H r T aj bq s->bq≠ .an-> ∀(e:bh) (s':aw),pT T n s=some (e,s')->W (au P ao 170 [.ptr r 0 0] H) (f6 H r T aj bq e s')
def KX(n:Nat):Prop:= ∀{H:J} {r:Nat} {T:List Tok} {aj bq:I} {s:aw},e1 H r T aj bq s->bq≠ .an-> ∀(e:bh) (s':aw),rD T n s=some (e,s')->W (au P ao 178 [.ptr r 0 0] H) (f6 H r T aj bq e s')
def KY(n:Nat):Prop:= ∀{H:J} {r:Nat} {T:List Tok} {aj bq:I} {s:aw},e1 H r T aj bq s->bq≠ .an-> ∀(e:bh) (s':aw),oo T n s=some (e,s')->W (au P ao 181 [.ptr r 0 0] H) (f6 H r T aj bq e s')
def u2(n:Nat):Prop:= ∀{H:J} {r:Nat} {T:List Tok} {aj bq:I} {s:aw},e1 H r T aj bq s->bq≠ .an-> ∀(b c:bk) (e:bh) (s':aw),kg T n b c s=some (e,s')->W (au P ao 194 [.ptr r 0 0,.str b,.str c] H) (f6 H r T aj bq e s')
def Lo(n:Nat):Prop:= ∀{H:J} {r:Nat} {T:List Tok} {aj bq:I} {s:aw},e1 H r T aj bq s->bq≠ .an-> ∀(e:bh) (s':aw),um T n s=some (e,s')->W (au P ao 183 [.ptr r 0 0] H) (f6 H r T aj bq e s')
def KZ(n:Nat):Prop:= ∀{H:J} {r:Nat} {T:List Tok} {aj bq:I} {s:aw},e1 H r T aj bq s->bq≠ .an-> ∀(e:bh) (s':aw),sG T n s=some (e,s')->W (au P ao 190 [.ptr r 0 0] H) (f6 H r T aj bq e s')
def Ln(n:Nat):Prop:= ∀{H:J} {r:Nat} {T:List Tok} {aj bq:I} {s:aw},e1 H r T aj bq s->bq≠ .an-> ∀(l:List bh) (s':aw),rR T n s=some (l,s')->W (au P ao 187 [.ptr r 0 0,.func (.func 163) [.ptr r 0 0] []] H) λv H'=>cB r H H'/\e1 H' r T aj bq s'/\dO H' (bG H.next) l v
structure akX(n:Nat):Prop where
 row:mH n
 unary:BL n
 chain:KX n
 first:KY n
 single:u2 n
 name:Lo n
 fresh:KZ n
 list:Ln n
theorem f6.ret{H bl:J}{r:Nat}{T:List Tok}{aj bq:I}{s s':aw}{e:bh}{v:I}{b n:Nat}(af:e1 H r T aj bq s)(m:cB r H bl)(bb:ee bl r aj bq s')(ay:H.next<=b)(he:ec bl (bG n) e v)(aV:b<n)(gW:dZ):f6 H r T aj bq e s' v (bl.set b gW):=by
 have ax:=af.rd.lt;have fp:=m.de (.inr ay) gW;refine⟨fp,af.mut fp ?_,he.new (dE.de (S:=(· <n)) (dE.refl _ _) (.inl aV) _) λl h=>by unfold bG;omega⟩;unfold ee at bb ⊢;rw[J.get_set_other Z];exact bb
theorem Gr{n:Nat}(aT:mH n){H:J}{r:Nat}{T:List Tok}{aj bq:I}{s:aw}(af:e1 H r T aj bq s)(fx:bq≠ .an){e:bh}{s':aw}(h:iY T n 0 s=some (e,s')):W (au P ao 163 [.ptr r 0 0] H) (f6 H r T aj bq e s'):=by
 refine cU (λ_=>ajn 0) ?_;have ax:=af.rd.lt;simp-implicitDefEqProofs(disch:=try exact ag) only[EP,reduceAdd,reduceLeDiff,reduceIte,az];have aU:=aR.push H (.row false 11 [[.int .i64 0,.int .i64 0,.str [],.str [],.int .i64 0,.an,.int .i64 0,.int .i64 0,.int .i64 0,.int .i64 0,.int .i64 0]]);refine aY (aT (af.aK aU) fx 0 Z e s' h) ?_;rintro v bl ⟨m2,cK,fQ⟩;refine⟨m2.1,?_⟩;have cn:=m2.get (J.ca H _) Z;have io:=J.aW cn;obtain⟨cs,rfl,hlen,dL⟩:=fQ.cells;have bC:List.take 11 cs=cs:=List.take_of_length_le Z;simp-implicitDefEqProofs(disch:=try exact ag) only[EP,reduceAdd,reduceLeDiff,reduceIte,az,cn,hlen,dL,List.append_nil,bC]
 exact a8.2 (f6.ret af ((aU.mut _).trans m2) cK.rd (bL _) fQ (Nat.lt_succ_self _) _)
theorem abJ{n:Nat}(aT:mH n):u2 (n+1):=by
 intro H r T aj bq s af fx b c e s' h;refine cU (λ_=>ajG 0) ?_;have ax:=af.rd.lt;have aU:=aR.push H (.row false 11 [[.int .i64 0,.int .i64 0,.str [],.str [],.int .i64 0,.an,.int .i64 0,.int .i64 0,.int .i64 0,.int .i64 0,.int .i64 0]]);simp-implicitDefEqProofs(disch:=try exact ag) only[x3,reduceAdd,reduceLeDiff,reduceIte,az];refine aY (Gl (af.aK aU) b) ?_;rintro _ bl ⟨rfl,m2,cK⟩;refine⟨m2.1,?_⟩;have cn:=m2.get (J.ca H _) Z;have io:=J.aW cn;have bM:=(aU.mut (· =r)).trans m2;simp only[kg] at h;cases bs:(eG T b s).1 with
 |false=>
  simp only[bs,bi,bD,dz] at h;obtain⟨rfl,rfl⟩:=h;simp-implicitDefEqProofs(disch:=try exact ag) only[x3,reduceAdd,reduceLeDiff,reduceIte,az,Bool.not_false,cn];exact a8.2 (f6.ret af bM cK.rd (bL _) (ec.leaf _ (bG (H.next+1)) {kind:=0}) (Nat.lt_succ_self _) _)
 |true=>
  simp only[bs,bx,eT] at h;obtain⟨⟨aI,s1⟩,U,aa⟩:=h;simp only[bD,dz] at aa;obtain⟨rfl,rfl⟩:=aa;simp-implicitDefEqProofs(disch:=try exact ag) only[x3,reduceAdd,reduceLeDiff,reduceIte,az,Bool.not_true];refine aY (Gr aT cK fx U) ?_;rintro v cQ ⟨m3,eY,ml⟩;refine⟨m3.1,?_⟩;have eK:=m3.get cn Z;have Xh:=J.aW eK;obtain⟨cs,rfl,hlen,dL⟩:=ml.cells;have bC:List.take 11 cs=cs:=List.take_of_length_le Z;simp-implicitDefEqProofs(disch:=try exact ag) only[x3,reduceAdd,reduceLeDiff,reduceIte,az,hlen,dL,List.append_nil,bC];have bK:=aR.push cQ (.row false 11 [cs]);refine aY (JR (eY.aK bK) c) ?_;rintro _ dc ⟨rfl,m5,ff⟩
  refine⟨m5.1,?_⟩;have gu:=m5.get (bK.get eK) Z;have anJ:=J.aW gu;have jD:=m5.get (J.ca cQ (.row false 11 [cs])) Z;have hj:=m2.1;simp only[J.b6] at hj;simp-implicitDefEqProofs(disch:=try exact ag) only[x3,reduceAdd,reduceLeDiff,reduceIte,az,hlen,dL,List.append_nil,bC,gu,jD];refine a8.2 (f6.ret af (((bM.trans m3).trans (bK.mut _)).trans m5) ff.rd (bL _) (n:=bl.next) (ml.new ?_ λ_ h=>h) Z _);exact((aR.push _ _).mut _).trans ⟨m5.1,λl dF F4=>m5.2 l dF Z⟩
theorem abO{n:Nat}(aT:u2 n){H:J}{r:Nat}{T:List Tok}{aj bq:I}{s:aw}(af:e1 H r T aj bq s)(fx:bq≠ .an){e:bh}{s':aw}(h:kg T n [40] [41] s=some (e,s')):W (au P ao 193 [.ptr r 0 0] H) (f6 H r T aj bq e s'):=by
 refine cU (λ_=>ajF 0) ?_;have ax:=af.rd.lt;simp-implicitDefEqProofs(disch:=try exact ag) only[EQ,reduceAdd,reduceLeDiff,reduceIte,az];have aU:=aR.push H (.row false 11 [[.int .i64 0,.int .i64 0,.str [],.str [],.int .i64 0,.an,.int .i64 0,.int .i64 0,.int .i64 0,.int .i64 0,.int .i64 0]]);refine aY (aT (af.aK aU) fx [40] [41] e s' h) ?_;rintro v bl ⟨m2,cK,fQ⟩;refine⟨m2.1,?_⟩;have cn:=m2.get (J.ca H _) Z;have io:=J.aW cn;obtain⟨cs,rfl,hlen,dL⟩:=fQ.cells;have bC:List.take 11 cs=cs:=List.take_of_length_le Z;simp-implicitDefEqProofs(disch:=try exact ag) only[EQ,reduceAdd,reduceLeDiff,reduceIte,az,cn,hlen,dL,List.append_nil,bC]
 exact a8.2 (f6.ret af ((aU.mut _).trans m2) cK.rd (bL _) fQ (Nat.lt_succ_self _) _)
theorem abr{n:Nat}(aT:u2 n){H:J}{r:Nat}{T:List Tok}{aj bq:I}{s:aw}(af:e1 H r T aj bq s)(fx:bq≠ .an){e:bh}{s':aw}(h:kg T n [40] [41] (aE s)=some (e,s')):W (au P ao 191 [.ptr r 0 0] H) (f6 H r T aj bq (.mk {kind:=10,pos:=(aq T s.at_).pos} [e]) s'):=by
 refine cU (λ_=>ajD 0) ?_;have ax:=af.rd.lt;have df:=af.b9.one;have hl:=af.bq.one;simp-implicitDefEqProofs(disch:=try exact ag) only[CH,reduceAdd,reduceLeDiff,reduceIte,az];refine aY (mD (af.rd.aK (aR.push _ _)) (af.b9.aK (aR.push _ _))) ?_;rintro _ bl ⟨rfl,aJ⟩;refine⟨aJ.1,?_⟩;have jO:=aJ.1;simp only[J.b6] at jO;have bM:=((aR.push H _).trans aJ).mut (· =r);have nz:=af.rd.aK ((aR.push H _).trans aJ);have cJ:=nz;unfold ee at cJ;have cn:=aJ.get (J.ca H _);obtain⟨m3,lp⟩:=qD nz (aE s);simp-implicitDefEqProofs(disch:=try exact ag) only[CH,reduceAdd,reduceLeDiff,reduceIte,az,Tok.v,cJ,df,hl];refine aY (aT (af.mut (bM.trans m3) lp) fx [40] [41] e s' h) ?_
 rintro v cu ⟨m4,fa,i6⟩;refine⟨m4.1,?_⟩;have fV:=m4.get (m3.get cn Z) Z;have x9:=J.aW fV;have Fk:=m4.1;simp only[J.e9] at Fk i6;replace bM:=(bM.trans m3).trans m4;obtain⟨cs,rfl,hlen,dL⟩:=i6.cells;have aO: ∀l,dH P l 96 1 [(0,.agg cs)]=some (.aM l 0 1 11 (some 1),.row false 11 [cs]):=λl=>jK l cs hlen dL
 have cJ:=fa.rd;unfold ee at cJ;simp-implicitDefEqProofs(disch:=try exact ag) only[CH,reduceAdd,reduceLeDiff,reduceIte,az,fV,aO];refine a8.2 ?_;refine rM.fin (ok:=bG H.next) (a:={kind:=10,pos:=(aq T s.at_).pos}) (kv:= .aM cu.next 0 1 11 (some 1)) (s':=s') af ?_ ?_ (dO.qO (ro:=false) ?_ (by unfold bG;omega) (i6.new ?_ λl h=>by unfold bG;omega))
 ·(repeat (first|exact bM|refine dE.bV ?_ _|refine dE.de (S:=(· =r)) ?_ (.inl rfl) _|refine dE.de ?_ (.inr (by(first|omega|(simp only[J.b6,J.e9];omega)))) _))
 ·(unfold ee;simp-implicitDefEqProofs(disch:=try exact ag) only[dD,cJ,aE,fU])
 ·simp-implicitDefEqProofs(disch:=try exact ag) only[dD]
 ·exact dE.de (S:=λl=>l<_) ((dE.refl _ _).bV _) (.inl Z) _
theorem adK{n:Nat}(aT:u2 n){ok:Nat->Prop}{H:J}{r:Nat}{T:List Tok}{aj bq:I}{s:aw}{e:bh}{v:I}(af:e1 H r T aj bq s)(fx:bq≠ .an)(he:ec H ok e v)(kl: ¬ok r)(zR: ∀l,H.next<=l->ok l){bc:bh}{s':aw}(h:kg T n [91] [93] s=some (bc,s')):W (au P ao 186 [.ptr r 0 0,v] H) (rM ok H r T aj bq (.mk {kind:=6,pos:=(aq T s.at_).pos} [e,bc]) s'):=by
 refine cU (λ_=>ajy 0) ?_;obtain⟨cs,rfl,hlen,dL⟩:=he.cells;have ax:=af.rd.lt;have bC:List.take 11 cs=cs:=List.take_of_length_le Z;have ic: ∀l,eW l (.agg cs)=some (.ptr l 0 0,.row false 11 [cs]):=λl=>by rw[ij l cs dL,hlen]
 simp-implicitDefEqProofs(disch:=try exact ag) only[CE,reduceAdd,reduceLeDiff,reduceIte,az,ic];have aU:=(aR.push H (.row false 11 [cs])).bV (.row false 11 [[.int .i64 0,.int .i64 0,.str [],.str [],.int .i64 0,.an,.int .i64 0,.int .i64 0,.int .i64 0,.int .i64 0,.int .i64 0]]);refine aY (mD (af.rd.aK aU) (af.b9.aK aU)) ?_;rintro _ bl ⟨rfl,aJ⟩;refine⟨aJ.1,?_⟩;have jO:=aJ.1;simp only[J.b6] at jO;have cK:=af.aK (aU.trans aJ);have bM:=(aU.trans aJ).mut (· =r);have ae:bl.get H.next=some (.row false 11 [cs]):=by rw[aJ.2 _ (by simp only[J.b6];omega)];simp-implicitDefEqProofs(disch:=try exact ag) only[dD]
 have al:bl.get (H.next+1)=some (.row false 11 [[.int .i64 0,.int .i64 0,.str [],.str [],.int .i64 0,.an,.int .i64 0,.int .i64 0,.int .i64 0,.int .i64 0,.int .i64 0]]):=by rw[aJ.2 _ (by simp only[J.b6];omega)];simp-implicitDefEqProofs(disch:=try exact ag) only[dD]
 simp-implicitDefEqProofs(disch:=try exact ag) only[CE,reduceAdd,reduceLeDiff,reduceIte,az,Tok.v];refine aY (aT cK fx [91] [93] bc s' h) ?_;rintro v cu ⟨m4,fa,i6⟩;refine⟨m4.1,?_⟩;have s5:=m4.get ae Z;have Fb:=m4.get al Z;have x9:=J.aW Fb;have Fk:=m4.1;replace bM:=bM.trans m4;obtain⟨bU,rfl,l_,lF⟩:=i6.cells;have aO: ∀l,dH P l 96 2 [(0,.agg cs),(1,.agg bU)]=some (.aM l 0 2 11 (some 2),.row false 11 [cs,bU]):=λl=>B9 l cs bU hlen dL l_ lF
 have cJ:=fa.rd;unfold ee at cJ;have bg:=he.same;simp-implicitDefEqProofs(disch:=try exact ag) only[CE,reduceAdd,reduceLeDiff,reduceIte,az,s5,Fb,ae,aO,bC,bg,Bool.and_true];refine a8.2 ?_;refine rM.fin (a:={kind:=6,pos:=(aq T s.at_).pos}) (kv:= .aM cu.next 0 2 11 (some 2)) (s':=s') af ?_ ?_ (dO.B_ (ro:=false) ?_ (zR _ Z) (he.mut (r:=r) ?_ kl λ_ h=>h) (i6.new ?_ λl h=>zR _ Z))
 ·(repeat (first|exact bM|refine dE.bV ?_ _|refine dE.de (S:=(· =r)) ?_ (.inl rfl) _|refine dE.de ?_ (.inr (by(first|omega|(simp only[J.b6,J.e9];omega)))) _))
 ·(unfold ee;simp-implicitDefEqProofs(disch:=try exact ag) only[dD,cJ,aE,fU])
 ·simp-implicitDefEqProofs(disch:=try exact ag) only[dD]
 ·(repeat (first|exact bM|refine dE.bV ?_ _|refine dE.de (S:=(· =r)) ?_ (.inl rfl) _|refine dE.de ?_ (.inr (by(first|omega|(simp only[J.b6,J.e9];omega)))) _))
 ·exact dE.de (S:=λl=>l<_) ((dE.refl _ _).bV _) (.inl Z) _
end
section
theorem gm.append{H:J}{ok:Nat->Prop}: ∀(es:List bh) (cs:List (List I)) (e:bh) (c:List I),gm H ok es cs->cs.length=es.length->ec H ok e (.agg c)->gm H ok (es++[e]) (cs++[c])
 |[],[],e,c,_,_,h=>by
  simp only[List.nil_append];rw[gm,gm];exact⟨h,trivial⟩
 |[],_::_,e,c,_,ax,_=>by simp at ax
 |_::_,[],e,c,h,_,_=>by rw[gm] at h;exact h.elim
 |aI::es,bJ::cs,e,c,h,ax,he=>by
  rw[gm] at h;simp only[List.cons_append];rw[gm];exact⟨h.1,gm.append es cs e c h.2 (by simpa using ax) he⟩
theorem X4:P.underlying 96=some (.slice 103):=ad
theorem V9:rA P 103=some 120:=ad
theorem V3:jZ P 103=some (.agg [.int .i64 0,.int .i64 0,.str [],.str [],.int .i64 0,.an,.int .i64 0,.int .i64 0,.int .i64 0,.int .i64 0,.int .i64 0]):=ad
theorem RB{H:J}{L:Nat}{cs:List I}{cap:Option Nat}{ro:Bool}(aX:H.get L=some (.row ro 11 [cs])):fM P H [96,96] .an (.aM L 0 1 11 cap)=some (.aM H.next 0 1 11 none,H.push (.row false 11 [cs])):=by
 simp[fM,X4,HB,V9,V3,sL,p4,aX,I.cells]
theorem SJ{H:J}{L l n:Nat}{cs:List I}{els:List (List I)}{cap:Option Nat}{ro:Bool}(aX:H.get L=some (.row ro 11 [cs]))(ax:H.get l=some (.row false 11 els))(aV:els.length=n)(ay:n<=1000000000):fM P H [96,96] (.aM l 0 n 11 none) (.aM L 0 1 11 cap)=some (.aM H.next 0 (n+1) 11 none,(H.set l .dead).push (.row false 11 (els++[cs]))):=by
 have U:(n+1)*120<=140737488355328:=Z;have aa:n+1<=9223372036854775807:=Z;simp[fM,X4,HB,V9,V3,sL,p4,aX,ax,I.cells,aV,U,aa];rw[List.take_of_length_le Z]
theorem ab_{n:Nat}(aT:u2 n):KZ (n+1):=by
 intro H r T aj bq s af fx e s' h;refine cU (λ_=>ajC 0) ?_;have ax:=af.rd.lt;have df:=af.b9.one;have hl:=af.bq.one;simp-implicitDefEqProofs(disch:=try exact ag) only[xc,p_,reduceAdd,reduceLeDiff,reduceIte,az];refine aY (mD (af.rd.aK (aR.push _ _)) (af.b9.aK (aR.push _ _))) ?_;rintro _ bl ⟨rfl,aJ⟩;refine⟨aJ.1,?_⟩;have jO:=aJ.1;simp only[J.b6] at jO;have bM:=((aR.push H _).trans aJ).mut (· =r);have nz:=af.rd.aK ((aR.push H _).trans aJ);have cJ:=nz;unfold ee at cJ;have cn:=aJ.get (J.ca H _);obtain⟨m3,lp⟩:=qD nz (aE s);simp-implicitDefEqProofs(disch:=try exact ag) only[p_,reduceAdd,reduceLeDiff,reduceIte,az,Tok.v,cJ,df,hl]
 have eY:=af.mut (bM.trans m3) lp;refine aY (Kj eY 4 [91]) ?_;rintro _ cu ⟨rfl,m4,fa⟩;refine⟨m4.1,?_⟩;have fV:=m4.get (m3.get cn Z) Z;have x9:=J.aW fV;have Fk:=m4.1;simp only[J.e9] at Fk;replace bM:=(bM.trans m3).trans m4;simp only[sG] at h;cases be:b4 T (aE s) 4 [91] with
 |true=>
  simp only[fg,be,bx] at fa ⊢;simp only[be,bx,eT] at h;obtain⟨⟨aI,s1⟩,U,aa⟩:=h;simp only[bD,dz] at aa;obtain⟨rfl,rfl⟩:=aa;simp-implicitDefEqProofs(disch:=try exact ag) only[p_,reduceAdd,reduceLeDiff,reduceIte,az];refine aY (K8 fa) ?_;rintro _ dc ⟨rfl,m5,ff⟩;refine⟨m5.1,?_⟩;have gu:=m5.get fV Z;have CZ:=J.aW gu;simp-implicitDefEqProofs(disch:=try exact ag) only[p_,reduceAdd,reduceLeDiff,reduceIte,az];have e2:=aR.push dc (.row false 2 [[.str (eJ T (aE (aE s))).1.1,.int .i64 (eJ T (aE (aE s))).1.2]]);have tb:=J.ca dc (.row false 2 [[.str (eJ T (aE (aE s))).1.1,.int .i64 (eJ T (aE (aE s))).1.2]]);refine aY (Kk (ff.aK e2) [93]) ?_
  rintro _ jG ⟨rfl,m8,oK⟩;refine⟨m8.1,?_⟩;have uB:=m8.get (e2.get gu) Z;have sd:=m8.get tb Z;have Ns:=J.aW uB;have anN:=J.aW sd;simp-implicitDefEqProofs(disch:=try exact ag) only[p_,reduceAdd,reduceLeDiff,reduceIte,az];refine aY (aT oK fx [40] [41] aI s1 U) ?_;rintro v gK ⟨m9,qo,r9⟩;refine⟨m9.1,?_⟩;have s7:=m9.get uB Z;have td:=m9.get sd Z;have Fi:=J.aW s7;have Xj:=J.aW td;have Y5:=m9.1;obtain⟨cs,rfl,hlen,dL⟩:=r9.cells;have aO: ∀l,dH P l 96 1 [(0,.agg cs)]=some (.aM l 0 1 11 (some 1),.row false 11 [cs]):=λl=>jK l cs hlen dL
  replace bM:=(((bM.trans m5).trans (e2.mut _)).trans m8).trans m9;have cJ:=qo.rd;unfold ee at cJ;simp-implicitDefEqProofs(disch:=try exact ag) only[p_,reduceAdd,reduceLeDiff,reduceIte,az,aO,s7,td,sd];refine a8.2 ?_;refine rM.fin (ok:=bG H.next) (a:={kind:=9,eQ:=(eJ T (aE (aE s))).1.1,fS:=(eJ T (aE (aE s))).1.2,pos:=(aq T s.at_).pos}) (kv:= .aM gK.next 0 1 11 (some 1)) (s':=s1) af ?_ ?_ (dO.qO (ro:=false) ?_ (by unfold bG;omega) (r9.new ?_ λl h=>by unfold bG;omega))
  ·(repeat (first|exact bM|refine dE.bV ?_ _|refine dE.de (S:=(· =r)) ?_ (.inl rfl) _|refine dE.de ?_ (.inr (by(first|omega|(simp only[J.b6,J.e9];omega)))) _))
  ·(unfold ee;simp-implicitDefEqProofs(disch:=try exact ag) only[dD,cJ,aE,fU])
  ·simp-implicitDefEqProofs(disch:=try exact ag) only[dD]
  ·exact dE.de (S:=λl=>l<_) ((dE.refl _ _).bV _) (.inl Z) _
 |false=>
  simp only[fg,be,bi] at fa ⊢;simp only[be,bi,bD,dz] at h;obtain⟨rfl,rfl⟩:=h;simp-implicitDefEqProofs(disch:=try exact ag) only[p_,reduceAdd,reduceLeDiff,reduceIte,az];refine aY (mD fa.rd fa.b9) ?_;rintro _ dc ⟨rfl,cO⟩;refine⟨cO.1,?_⟩;have gu:=cO.get fV;have ff:=fa.aK cO;have CZ:=J.aW gu;have e2:=aR.push dc (.row false 4 [[.int .i64 (aq T (aE s).at_).kind,.str (aq T (aE s).at_).text,.int .i64 (aq T (aE s).at_).n,.int .i64 (aq T (aE s).at_).pos]]);have tb:=J.ca dc (.row false 4 [[.int .i64 (aq T (aE s).at_).kind,.str (aq T (aE s).at_).text,.int .i64 (aq T (aE s).at_).n,.int .i64 (aq T (aE s).at_).pos]])
  have fin: ∀(fY:J) (pA:aw),cB r H fY->ee fY r aj bq pA->fY.get H.next=some (.row false 11 [[.int .i64 0,.int .i64 0,.str [],.str [],.int .i64 0,.an,.int .i64 0,.int .i64 0,.int .i64 0,.int .i64 0,.int .i64 0]])->fY.get dc.next=some (.row false 4 [[.int .i64 (aq T (aE s).at_).kind,.str (aq T (aE s).at_).text,.int .i64 (aq T (aE s).at_).n,.int .i64 (aq T (aE s).at_).pos]])->
    W (xc (au P ao) (.ptr r 0 0) (.ptr H.next 0 0) (.int .i64 (aq T s.at_).pos) (.ptr dc.next 0 0) fY) (f6 H r T aj bq (.mk {kind:=8,eQ:=(aq T (aE s).at_).text,pos:=(aq T s.at_).pos} []) (aE pA)):=by
   intro fY pA bM Xo s6 tc;have cJ:=Xo;unfold ee at cJ;have h0:=Xo.lt;have Y2:=J.aW s6;have Xi:=J.aW tc;simp-implicitDefEqProofs(disch:=try exact ag) only[xc,p_,reduceAdd,reduceLeDiff,reduceIte,az,cJ,df,hl,s6,tc];refine a8.2 ?_;refine f6.box (a:={kind:=8,eQ:=(aq T (aE s).at_).text,pos:=(aq T s.at_).pos}) (kv:= .an) (s':=aE pA) (lo:=H.next+1) af ?_ ?_ (bL _) (Nat.lt_succ_self _) (dO.nil _ _) _
   ·(repeat (first|exact bM|refine dE.bV ?_ _|refine dE.de (S:=(· =r)) ?_ (.inl rfl) _|refine dE.de ?_ (.inr (by(first|omega|(simp only[J.b6,J.e9];omega)))) _))
   ·(unfold ee;simp-implicitDefEqProofs(disch:=try exact ag) only[dD,cJ,aE,fU])
  by_cases ah:(aq T (aE s).at_).kind=1
  ·have eZ:((aq T (aE s).at_).kind != 1)=false:=by simpa using ah
   simp-implicitDefEqProofs(disch:=try exact ag) only[p_,reduceAdd,reduceLeDiff,reduceIte,az,Tok.v,eZ];exact fin _ _ ((bM.trans (cO.mut _)).trans (e2.mut _)) (ff.rd.aK e2) (e2.get gu) tb
  ·have eZ:((aq T (aE s).at_).kind != 1)=true:=by simpa using ah
   simp-implicitDefEqProofs(disch:=try exact ag) only[p_,reduceAdd,reduceLeDiff,reduceIte,az,Tok.v,eZ];refine aY (wM (ff.aK e2) 2) ?_;rintro _ jG ⟨rfl,m8,oK⟩;refine⟨m8.1,?_⟩
   try simp only[p_]
   exact fin _ _ (((bM.trans (cO.mut _)).trans (e2.mut _)).trans m8) oK.rd (m8.get (e2.get gu) Z) (m8.get tb Z)
end
end Go.Proofs.YtghmbpmaafnodaaGreatDoor
