/-
  Texts of one proof, laid together: V3 Rh Ri Rj Rk Rl Rm Rn Ro ShPb Rp.
-/
import Derived.Test.YtghmbpmaafnodaaGreatDoorMT
import Derived.Test.YtghmbpmaafnodaaGreatDoorMR
import Derived.Test.YtghmbpmaafnodaaGreatDoorMD
import Derived.Test.YtghmbpmaafnodaaGreatDoorMS
set_option linter.unusedVariables false
set_option linter.unusedSimpArgs false
namespace Go.Proofs.YtghmbpmaafnodaaGreatDoor
open Go.gd
open Nat (reduceAdd reduceLeDiff)
section
section
variable {H0 H:J}{r b3 eB:Nat}{T:List Tok}{ak:I}{s0 s:aA}{t:Tok}
theorem al4{a:dH}{ev bv fw v:I}(g:H.get eB=some (.row false 9 [a.cells ev bv fw]))(o:v.one=true):aQ P H 44 (.ptr eB 0 5) v=some (H.set eB (.row false 9 [a.cells ev v fw])):=by
 rw[Lr CJ g rfl (by rw[kb o];rfl) (by rw[kb o,List.all_cons,o];rfl) cm,kb o];rfl
theorem al5{a:dH}{ev bv fw v:I}(g:H.get eB=some (.row false 9 [a.cells ev bv fw]))(o:v.one=true):aQ P H 44 (.ptr eB 0 6) v=some (H.set eB (.row false 9 [a.cells ev bv v])):=by
 rw[Lr CJ g rfl (by rw[kb o];rfl) (by rw[kb o,List.all_cons,o];rfl) cm,kb o];rfl
theorem af8(aH:T.length<=20000000)(bs:c_ H0 r T ak s0)(b:ka H0 H r b3 eB ak t s (dH.cells {kind:=0,pos:=t.pos} .ap .ap .ap))(cf:ih H0 ak T):
  W (vA (aq P ao) (.ptr r 0 0) (.ptr H0.next 0 0) (.ptr b3 0 0) (.ptr eB 0 0) (.bool true) H) (gJ H0 r T ak ((bif t.text==[108,101,116] then Ci T (aF s) else Cc T (aF s)).1.at t.pos) (bif t.text==[108,101,116] then Ci T (aF s) else Cc T (aF s)).2):=by
 have az:=bs.rd.lt;have de:=bs.cf.one;have eH:=b.gS;have eE:=b.h7;obtain⟨m1,d1⟩:=h5 b.rd (aF s);have df:=(b.mut az m1 d1).set az (dH.cells {kind:=1,pos:=t.pos} .ap .ap .ap);have a8:=b.rd;unfold c7 at a8;have g4:=b.g4;have oJ:=b.rd.lt;have h7:=J.aX g4;simp only[dH.cells] at g4;simp-implicitDefEqProofs(disch:=try exact af) only[vA,reduceAdd,reduceLeDiff,reduceIte,aw,d_,a8,de,g4];refine a6 (wJ (bs.mut df.m df.rd)) ?_;rintro _ cT ⟨rfl,m3,e2⟩;refine⟨m3.1,?_⟩;have cU:=df.mut az m3 e2.rd;have MH:=cU.set az (dH.cells {kind:=1,name:=(dk T (aF s)).1,pos:=t.pos} .ap .ap .ap);have gf:=cU.g4;have Nx:=J.aX gf
 simp only[dH.cells] at gf;simp-implicitDefEqProofs(disch:=try exact af) only[reduceAdd,reduceLeDiff,reduceIte,aw,d_,gf];refine a6 (lA (bs.mut MH.m MH.rd) [58] (by simp)) ?_;rintro _ dp ⟨rfl,m5,fg⟩;refine⟨m5.1,?_⟩;have NQ:=MH.mut az m5 fg.rd;refine a6 (DN fg) ?_;rintro _ fW ⟨rfl,m6,hO⟩;refine⟨m6.1,?_⟩;have ra:=NQ.mut az m6 hO.rd;have XY:=ra.set az (dH.cells {kind:=1,name:=(dk T (aF s)).1,eV:=(fm T (cr T [58] (dk T (aF s)).2)).1.1,fT:=(fm T (cr T [58] (dk T (aF s)).2)).1.2,pos:=t.pos} .ap .ap .ap);have j0:=ra.g4;have dL:=ra.g3;have aqU:=J.aX j0;simp only[dH.cells] at j0;unfold Ci Cc gh;generalize fm T (cr T [58] (dk T (aF s)).2)=o at*
 generalize dk T (aF s)=nm at*;cases bz:t.text==[108,101,116] with
 |false=>
  simp-implicitDefEqProofs(disch:=try exact af) only[reduceAdd,reduceLeDiff,reduceIte,aw,d_,j0,dL,bz];exact QV bs XY (dP.nil _ _)
 |true=>
  have sk:=XY.set az (dH.cells {kind:=2,name:=nm.1,eV:=o.1.1,fT:=o.1.2,pos:=t.pos} .ap .ap .ap);rw[J.set_set] at sk;simp-implicitDefEqProofs(disch:=try exact af) only[reduceAdd,reduceLeDiff,reduceIte,aw,d_,j0,dL,bz];refine a6 (lA (bs.mut sk.m sk.rd) [61] (by simp)) ?_;rintro _ jX ⟨rfl,m8,oF⟩;refine⟨m8.1,?_⟩;have uX:=sk.mut az m8 oF.rd;refine a6 (Bs aH oF) ?_;rintro v gV ⟨m9,qd,he⟩;refine⟨m9.1,?_⟩;have iM:=uX.mut az m9 qd.rd;obtain⟨cs,rfl,bM,cR⟩:=he.cells;have aM: ∀l,dK P l 96 1 [(0,.agg cs)]=some (.aN l 0 1 11 (some 1),.row false 11 [cs]):=λl=>jP l cs bM cR
  have NZ:=iM.g4;have aqW:=J.aX NZ;have Zr:=J.aX uX.g4;obtain⟨kt,mE⟩:=ka.expr az (c':=dH.cells {kind:=2,name:=nm.1,eV:=o.1.1,fT:=o.1.2,pos:=t.pos} (.aN gV.next 0 1 11 (some 1)) .ap .ap) iM (ea.bo (e_.q4 λl h=>by unfold bI at*;first|omega|(simp only[J.e9] at*;omega)) _ _ he) rfl;simp only[dH.cells] at NZ;simp-implicitDefEqProofs(disch:=try exact af) only[reduceAdd,reduceLeDiff,reduceIte,aw,d_,aM,NZ,J.io];exact QV bs kt mE
theorem Vo{n:Nat}(aT:Gx n)(aH:T.length<=20000000)(bs:c_ H0 r T ak s0)(b:ka H0 H r b3 eB ak t s (dH.cells {kind:=0,pos:=t.pos} .ap .ap .ap)){sl:Int}{e:bp}{df:List cE}{s1 s2:aA}(ah:sl=5\/sl=6)(fR:dE T (aF s)=(e,s1))(ax:lE T n s1=some (df,s2))
  {Q:I->J->Prop} {k:I->J->O} (bi: ∀(dR:J) (ev bv:I),ka H0 dR r b3 eB ak t s2 (dH.cells {kind:=sl,pos:=t.pos} ev bv .ap)->dP dR (bI (eB+1)) [e] ev->ez dR (bI (eB+1)) df bv->W (k (.tuple []) dR) Q):
  W (ab (b5 (.ptr r 0 0)) λix=>ab (aE P 63 ix 1) λhQ=>ab (aj P H 3 hQ) λgk=>ab (aW P .add 3 true gk (.int .i64 1)) λjU=>ab (b5 (.ptr r 0 0)) λjV=>ab (aE P 63 jV 1) λj_=>
   a7 H (aQ P H 3 j_ jU) λaa=>ab (aE P 98 (.ptr eB 0 0) 0) λlr=>a7 aa (aQ P aa 3 lr (.int .i64 sl)) λae=>aO ae (aq P ao 109 [.ptr r 0 0,.int .i64 0] ae) λkR am=>dv am (dK P am.next 96 1 [(0,kR)]) λl5 aB=>
   ab (aE P 98 (.ptr eB 0 0) 3) λjW=>a7 aB (aQ P aB 96 jW l5) λaG=>aO aG (aq P ao 61 [.ptr r 0 0] aG) λiV aP=>ab (aE P 98 (.ptr eB 0 0) 4) λl6=>a7 aP (aQ P aP 44 l6 iV) λbq=>k (.tuple []) bq) Q:=by
 have az:=bs.rd.lt;have de:=bs.cf.one;have eH:=b.gS;have eE:=b.h7;obtain⟨m1,d1⟩:=h5 b.rd (aF s);have H7:=(b.mut az m1 d1).set az (dH.cells {kind:=sl,pos:=t.pos} .ap .ap .ap);have a8:=b.rd;unfold c7 at a8;have g4:=b.g4;have oJ:=b.rd.lt;have h7:=J.aX g4;simp only[dH.cells] at g4;simp-implicitDefEqProofs(disch:=try exact af) only[reduceAdd,reduceLeDiff,reduceIte,aw,d_,a8,de,g4];refine a6 (Bs aH (bs.mut H7.m H7.rd)) ?_;rintro v ct ⟨m4,fa,he⟩;refine⟨m4.1,?_⟩;rw[fR] at fa he;have XX:=H7.mut az m4 fa.rd;obtain⟨cs,rfl,bM,cR⟩:=he.cells;have aM: ∀l,dK P l 96 1 [(0,.agg cs)]=some (.aN l 0 1 11 (some 1),.row false 11 [cs]):=λl=>jP l cs bM cR
 have gf:=XX.g4;have Nx:=J.aX gf;have yB:=J.aX H7.g4;obtain⟨kt,mE⟩:=ka.expr az (c':=dH.cells {kind:=sl,pos:=t.pos} (.aN ct.next 0 1 11 (some 1)) .ap .ap) XX (ea.bo (e_.q4 λl h=>by unfold bI at*;first|omega|(simp only[J.e9] at*;omega)) _ _ he) rfl;have apm:eB<((ct.set eB (.row false 9 [dH.cells {kind:=sl,pos:=t.pos} (.aN ct.next 0 1 11 (some 1)) .ap .ap])).push (.row false 11 [cs])).next:=J.aX kt.g4
 simp only[dH.cells] at gf apm;simp-implicitDefEqProofs(disch:=try exact af) only[reduceAdd,reduceLeDiff,reduceIte,aw,d_,aM,gf,J.io];refine a6 (aT aH (bs.mut kt.m kt.rd) df s2 ax) ?_;rintro bv fX ⟨m7,oE,uE⟩;refine⟨m7.1,?_⟩;have sk:=kt.mut az m7 oE.rd;have aoP:=mE.bo (e_.mut m7 (ok':=bI (eB+1)) (by unfold bI;omega) λ_ h=>h);have anx:ez fX (bI (eB+1)) df bv:=uE.bo (fG.q4 λl h=>by unfold bI at*;simp only[dH.cells] at h;omega);have nU:=uE.gi;have st:=al4 sk.g4 nU;have aqV:=J.aX sk.g4;simp-implicitDefEqProofs(disch:=try exact af) only[bg,bL,fH,Nat.zero_add];rw[st,lz (by simp only[J.e9];omega)];have bQ:fG fX (bI (eB+1)) (fX.set eB (.row false 9 [dH.cells {kind:=sl,pos:=t.pos} (.aN ct.next 0 1 11 (some 1)) bv .ap])) (bI (eB+1)):=fG.set _ (by unfold bI;omega) λ_ h=>h
 exact bi _ _ _ (sk.set az _) (aoP.bo bQ.ex) (anx.bo bQ)
end
theorem abS{n:Nat}(aT:Gx n):GG (n+1):=by
 intro H r T ak s aH ag e s' h;refine cP (λ_=>alP 0) ?_;have az:=ag.rd.lt;have de:=ag.cf.one;have aV:=aR.push H (.row false 9 [[.int .i64 0,.str [],.str [],.int .i64 0,.ap,.ap,.ap,.int .i64 0,.int .i64 0]]);simp-implicitDefEqProofs(disch:=try exact af) only[FF,reduceAdd,reduceLeDiff,reduceIte,aw,d_];refine a6 (nV (ag.rd.aK aV) (ag.cf.aK aV)) ?_;rintro _ bm ⟨rfl,aJ⟩;refine⟨aJ.1,?_⟩;have n2:=aJ.1;simp only[J.b2] at n2;generalize bz:ar T s.at_=t;have bB:=((aV.trans aJ).bX (.row false 4 [[.int .i64 t.kind,.str t.text,.int .i64 t.n,.int .i64 t.pos]])).bX (.row false 9 [dH.cells {kind:=0,pos:=t.pos} .ap .ap .ap])
 have q5:=(aR.push bm (.row false 4 [[.int .i64 t.kind,.str t.text,.int .i64 t.n,.int .i64 t.pos]])).bX (.row false 9 [dH.cells {kind:=0,pos:=t.pos} .ap .ap .ap]);have b:ka H ((bm.push (.row false 4 [[.int .i64 t.kind,.str t.text,.int .i64 t.n,.int .i64 t.pos]])).push (.row false 9 [dH.cells {kind:=0,pos:=t.pos} .ap .ap .ap])) r bm.next (bm.next+1) ak t s (dH.cells {kind:=0,pos:=t.pos} .ap .ap .ap):=
  ⟨bB.mut _,ag.rd.aK bB,q5.get (aJ.get (J.ca H _)),by simp-implicitDefEqProofs(disch:=try exact af) only[dB],J.ca (bm.push _) _,Z,Z⟩
 simp-implicitDefEqProofs(disch:=try exact af) only[FF,reduceAdd,reduceLeDiff,reduceIte,aw,d_,Tok.v];simp only[dH.cells] at b;generalize (bm.push (.row false 4 [[.int .i64 t.kind,.str t.text,.int .i64 t.n,.int .i64 t.pos]])).push (.row false 9 [[.int .i64 0,.str [],.str [],.int .i64 0,.ap,.ap,.ap,.int .i64 t.pos,.int .i64 0]])=cT at b ⊢;have yz:ka H cT r bm.next (bm.next+1) ak t s (dH.cells {kind:=0,pos:=t.pos} .ap .ap .ap):=b
 generalize bm.next=b3 at yz ⊢
 clear b;simp only[xG,bz,eW] at h;obtain⟨⟨aI,s1⟩,U,aa⟩:=h;simp only[bF,dw] at aa;obtain⟨rfl,rfl⟩:=aa;have e2:=ag.mut yz.m yz.rd;have Zz: ∀(H':J),aR cT H'->(cd T s [118,97,114]||cd T s [108,101,116])=true->W (vA (aq P ao) (.ptr r 0 0) (.ptr H.next 0 0) (.ptr b3 0 0) (.ptr (b3+1) 0 0) (.bool true) H') (gJ H r T ak (aI.at t.pos) s1):=by
  intro H' qn bA;rw[bA,bC,bF] at U;have:=af8 aH ag (yz.mut az (qn.mut _) (yz.rd.aK qn)) ag.cf;rw[U] at this;exact this
 refine a6 (gO e2.rd e2.cf [118,97,114] (by simp)) ?_;rintro _ ct ⟨rfl,bK⟩;refine⟨bK.1,?_⟩;cases bA:cd T s [118,97,114] with
 |true=>
  simp-implicitDefEqProofs(disch:=try exact af) only[reduceAdd,reduceLeDiff,reduceIte,aw];exact Zz ct bK (by rw[bA];rfl)
 |false=>
  simp-implicitDefEqProofs(disch:=try exact af) only[reduceAdd,reduceLeDiff,reduceIte,aw];refine a6 (gO (e2.aK bK).rd (e2.aK bK).cf [108,101,116] (by simp)) ?_;rintro _ dp ⟨rfl,c8⟩;refine⟨c8.1,?_⟩;have AI:=bK.trans c8;cases hle:cd T s [108,101,116] with
  |true=>exact Zz dp AI (by rw[hle,Bool.or_true])
  |false=>
   rw[bA,hle,Bool.or_false,bj] at U;simp-implicitDefEqProofs(disch:=try exact af) only[vA,reduceAdd,reduceLeDiff,reduceIte,aw];have fg:=e2.aK AI;refine a6 (gO fg.rd fg.cf [105,102] (by simp)) ?_;rintro _ fW ⟨rfl,fc⟩;refine⟨fc.1,?_⟩;have Y0:=AI.trans fc;have hO:=fg.aK fc;have ra:=yz.mut az (Y0.mut _) (yz.rd.aK Y0);have eE:=yz.gS;cases Yr:cd T s [105,102] with
   |true=>
    simp only[Yr,bC,eW] at U;obtain⟨⟨bM,s2⟩,dQ,ae⟩:=U;simp-implicitDefEqProofs(disch:=try exact af) only[iE,bC];refine Vo aT aH ag ra (.inl rfl) (e:=(dE T (aF s)).1) (s1:=(dE T (aF s)).2) rfl dQ (k:=λ_ bq=>aO bq (aq P ao 27 [.ptr r 0 0,.str [101,108,115,101]] bq) _) ?_;intro dR ev bv Di cG dh;have YH:=ag.mut Di.m Di.rd;refine a6 (gO YH.rd YH.cf [101,108,115,101] (by simp)) ?_;rintro _ gV ⟨rfl,qo⟩;refine⟨qo.1,?_⟩;have iM:=Di.mut az (qo.mut _) (Di.rd.aK qo);have YK:=cG.aK qo;have YL:=dh.bo (fG.aK qo λ_ h=>h);cases kN:cd T s2 [101,108,115,101] with
    |false=>
     simp only[kN,bj,bF,dw] at ae;obtain⟨rfl,rfl⟩:=ae;simp-implicitDefEqProofs(disch:=try exact af) only[reduceAdd,reduceLeDiff,reduceIte,aw];exact Bx ag iM YK YL (ez.nil _ _)
    |true=>
     simp only[kN,bC,eW] at ae;obtain⟨⟨c2,iO⟩,ck,am⟩:=ae;simp only[bF,dw] at am;obtain⟨rfl,rfl⟩:=am;obtain⟨A6,NT⟩:=h5 iM.rd (aF s2);have nh:=iM.mut az A6 NT;have m_:=iM.rd;unfold c7 at m_;have aoZ:=iM.rd.lt;simp-implicitDefEqProofs(disch:=try exact af) only[reduceAdd,reduceLeDiff,reduceIte,aw,m_,de];refine a6 (aT aH (ag.mut nh.m nh.rd) c2 iO ck) ?_;rintro fw A1 ⟨bP,Fo,hr⟩;refine⟨bP.1,?_⟩;have kt:=nh.mut az bP Fo.rd;have yB:=J.aX kt.g4;have aqQ:=J.aX nh.g4;have st:=al5 kt.g4 hr.gi;simp-implicitDefEqProofs(disch:=try exact af) only[bg,bL,fH,Nat.zero_add];rw[st,lz (by simp only[J.e9];omega)];have mE:fG gV (bI (b3+1+1)) A1 (bI (b3+1+1)):=fG.mut (A6.trans bP) (by unfold bI;omega) λ_ h=>h
     have bQ:fG A1 (bI (b3+1+1)) (A1.set (b3+1) (.row false 9 [dH.cells {kind:=5,pos:=t.pos} ev bv fw])) (bI (b3+1+1)):=fG.set _ (by unfold bI;omega) λ_ h=>h
     exact Bx ag (kt.set az _) ((YK.bo mE.ex).bo bQ.ex) ((YL.bo mE).bo bQ) ((hr.bo (fG.q4 λl h=>by unfold bI at*;omega)).bo bQ)
   |false=>
    simp only[Yr,bj] at U;simp-implicitDefEqProofs(disch:=try exact af) only[reduceAdd,reduceLeDiff,reduceIte,aw];refine a6 (gO hO.rd hO.cf [119,104,105,108,101] (by simp)) ?_;rintro _ fX ⟨rfl,iX⟩;refine⟨iX.1,?_⟩;have oE:=hO.aK iX;have sk:=ra.mut az (iX.mut _) (ra.rd.aK iX);cases YG:cd T s [119,104,105,108,101] with
    |true=>
     simp only[YG,bC,eW] at U;obtain⟨⟨bM,s2⟩,dQ,ae⟩:=U;simp only[bF,dw] at ae;obtain⟨rfl,rfl⟩:=ae;simp-implicitDefEqProofs(disch:=try exact af) only[iE,bC];refine Vo aT aH ag sk (.inr rfl) (e:=(dE T (aF s)).1) (s1:=(dE T (aF s)).2) rfl dQ (k:=λ_ bq=>lH (aq P ao) (.ptr H.next 0 0) (.ptr (b3+1) 0 0) bq) ?_;exact λdR ev bv Di cG dh=>Bx ag Di cG dh (ez.nil _ _)
    |false=>
     simp only[YG,bj] at U;simp-implicitDefEqProofs(disch:=try exact af) only[reduceAdd,reduceLeDiff,reduceIte,aw];refine a6 (gO oE.rd oE.cf [114,101,116,117,114,110] (by simp)) ?_;rintro _ jX ⟨rfl,kU⟩;refine⟨kU.1,?_⟩;have oF:=oE.aK kU;have uX:=sk.mut az (kU.mut _) (sk.rd.aK kU);cases yg:cd T s [114,101,116,117,114,110] with
     |true=>
      simp only[yg,bC,bF] at U;obtain⟨m9,d9⟩:=h5 uX.rd (aF s);have iM:=(uX.mut az m9 d9).set az (dH.cells {kind:=7,pos:=t.pos} .ap .ap .ap);have Fg:=uX.rd;unfold c7 at Fg;have g8:=uX.g4;have aq0:=uX.rd.lt;have N1:=J.aX g8;simp only[dH.cells] at g8;simp-implicitDefEqProofs(disch:=try exact af) only[reduceAdd,reduceLeDiff,reduceIte,aw,d_,Fg,de,g8];refine a6 (gO iM.rd (ag.mut iM.m iM.rd).cf [59] (by simp)) ?_;rintro _ apd ⟨rfl,hl⟩;refine⟨hl.1,?_⟩;have nh:=iM.mut az (hl.mut _) (iM.rd.aK hl);unfold Ek at U;cases Ib:cd T (aF s) [59] with
      |true=>
       simp only[Ib,bC,dw] at U;obtain⟨rfl,rfl⟩:=U;simp-implicitDefEqProofs(disch:=try exact af) only[reduceAdd,reduceLeDiff,reduceIte,aw,Bool.not_true];exact R8 ag nh (dP.nil _ _)
      |false=>
       simp only[Ib,bj,dw] at U;obtain⟨rfl,rfl⟩:=U;simp-implicitDefEqProofs(disch:=try exact af) only[reduceAdd,reduceLeDiff,reduceIte,aw,Bool.not_false];refine a6 (Bs aH (ag.mut nh.m nh.rd)) ?_;rintro v A1 ⟨bP,Fo,he⟩;refine⟨bP.1,?_⟩;have kt:=nh.mut az bP Fo.rd;obtain⟨cs,rfl,bM,cR⟩:=he.cells;have aM: ∀l,dK P l 96 1 [(0,.agg cs)]=some (.aN l 0 1 11 (some 1),.row false 11 [cs]):=λl=>jP l cs bM cR
       have tt:=kt.g4;have aoW:=J.aX tt;have aoV:=J.aX nh.g4;obtain⟨FP,ht⟩:=ka.expr az (c':=dH.cells {kind:=7,pos:=t.pos} (.aN A1.next 0 1 11 (some 1)) .ap .ap) kt (ea.bo (e_.q4 λl h=>by unfold bI at*;first|omega|(simp only[J.e9] at*;omega)) _ _ he) rfl;simp only[dH.cells] at tt;simp-implicitDefEqProofs(disch:=try exact af) only[reduceAdd,reduceLeDiff,reduceIte,aw,d_,aM,tt,J.io];exact R8 ag FP ht
     |false=>
      simp only[yg,bj] at U;simp-implicitDefEqProofs(disch:=try exact af) only[reduceAdd,reduceLeDiff,reduceIte,aw];refine a6 (gO oF.rd oF.cf [112,114,105,110,116] (by simp)) ?_;rintro _ gV ⟨rfl,qo⟩;refine⟨qo.1,?_⟩;have qd:=oF.aK qo;have iM:=uX.mut az (qo.mut _) (uX.rd.aK qo);have g9:=iM.g4;have aoZ:=iM.rd.lt;have Zt:=J.aX g9;cases YC:cd T s [112,114,105,110,116] with
      |true=>
       simp only[YC,bC,bF] at U;obtain⟨A6,NT⟩:=h5 iM.rd (aF s);have nh:=(iM.mut az A6 NT).set az (dH.cells {kind:=8,pos:=t.pos} .ap .ap .ap);have m_:=iM.rd;unfold c7 at m_;simp only[dH.cells] at g9;unfold GY at U;simp only[dw] at U;obtain⟨rfl,rfl⟩:=U;simp-implicitDefEqProofs(disch:=try exact af) only[reduceAdd,reduceLeDiff,reduceIte,aw,d_,m_,de,g9];refine a6 (Bs aH (ag.mut nh.m nh.rd)) ?_;rintro v A1 ⟨bP,Fo,he⟩;refine⟨bP.1,?_⟩;have kt:=nh.mut az bP Fo.rd;obtain⟨cs,rfl,bM,cR⟩:=he.cells;have aM: ∀l,dK P l 96 1 [(0,.agg cs)]=some (.aN l 0 1 11 (some 1),.row false 11 [cs]):=λl=>jP l cs bM cR
       have tt:=kt.g4;have aoW:=J.aX tt;have aoV:=J.aX nh.g4;obtain⟨FP,ht⟩:=ka.expr az (c':=dH.cells {kind:=8,pos:=t.pos} (.aN A1.next 0 1 11 (some 1)) .ap .ap) kt (ea.bo (e_.q4 λl h=>by unfold bI at*;first|omega|(simp only[J.e9] at*;omega)) _ _ he) rfl;simp only[dH.cells] at tt;simp-implicitDefEqProofs(disch:=try exact af) only[reduceAdd,reduceLeDiff,reduceIte,aw,d_,aM,tt,J.io];refine a6 (lA (ag.mut FP.m FP.rd) [59] (by simp)) ?_;rintro _ hK ⟨rfl,N4,pc⟩;refine⟨N4.1,?_⟩;exact Bx ag (FP.mut az N4 pc.rd) (ht.bo (e_.mut N4 (by unfold bI;omega) λ_ h=>h)) (ez.nil _ _) (ez.nil _ _)
      |false=>
       simp only[YC,bj,bF] at U;have X8:=g9;simp only[dH.cells] at X8;simp-implicitDefEqProofs(disch:=try exact af) only[reduceAdd,reduceLeDiff,reduceIte,aw,d_,X8];refine a6 (aaZ aH (ag.mut iM.m iM.rd) t.pos) ?_;rintro v apd ⟨A6,Nm,he⟩;refine⟨A6.1,?_⟩;have nh:=iM.mut az A6 Nm.rd;obtain⟨cs,rfl,bM,cR⟩:=he.cells;have tv:List.take 9 cs=cs:=List.take_of_length_le Z;have e7:=nh.g2;have FY:=J.aX e7;rw[U] at he Nm;simp-implicitDefEqProofs(disch:=try exact af) only[reduceAdd,reduceLeDiff,reduceIte,aw,d_,e7,bM,cR,tv,List.append_nil];exact a_.2 (gJ.ret ag nh.m Nm.rd (bN _) he Z _)
structure ajY(n:Nat):Prop where
 stmt:GG n
 block:Gx n
theorem aj4: ∀n,n<=900000000->ajY n:=by
 intro n
 induction n using Nat.strongRecOn with
 |_ n aT=>
  intro aU;cases n with
  |zero=>exact⟨λ_ _ _ _ h=>by simp[xG] at h,λ_ _ _ _ h=>by simp[lE] at h⟩
  |succ n=>
   have i:=aT n Z Z;exact⟨abS i.block,aaW Z λk ah=>(aT k Z Z).stmt⟩
end
section
section
variable {H H' H1:J}{r:Nat}{T:List Tok}{ak:I}{s s':aA}
variable {b c n2 esz:Nat}{z:List I}{x:I}{rest:List I}{l:List ec}{v:I}
theorem lu.NH(h:lu H1 H r b c n2 esz T ak z x rest l v s){s0:aA}(U:c_ H1 r T ak s0)(rest':List I):lu H1 (H.set c (.row false esz [x::v::rest'])) r b c n2 esz T ak z x rest' l v s:=by
 have cR:=h.cR;have dd:=h.dd;have dG:=h.dG;have eM:=h.eM;have nU:=h.nU;have lc:=J.aX h.cell;have fK:nP r H1.next H1 (H.set c (.row false esz [x::v::rest'])):=h.m.db (.inr Z) _
 exact⟨U.zU fK (by unfold c7;rw[J.get_set_other Z];exact h.dm.rd),by rw[J.get_set_other Z];exact h.two,J.get_set_same lc,h.hD.bo λk x ah g=>⟨ah,by unfold bI at ah;rw[J.get_set_other Z];exact g⟩,fK,cR,dd,nU,dG,by simp;omega⟩
theorem lu.ao9(h:lu H1 H r b c n2 esz T ak z x rest l v s)(s2:aA):lu H1 (H.set r (.row false 5 [[ak,.int .i64 s2.at_,.int .i64 s2.bR,.int .i64 s2.aC,.int .i64 s2.cv]])) r b c n2 esz T ak z x rest l v s2:=by
 obtain⟨m,bd⟩:=h5 h.dm.rd s2;exact h.mut m (h.dm.mut m bd)
theorem F6{N:Nat}{Q:I->J->Prop}{nm:bl}{s0:aA}(U:c_ H1 r T ak s0){l':List ec}
  (ek: ∀H v,lu H1 H r b c n2 7 T ak z (.str nm) rest l' v s'->W (tR (aq P ao) N (.ptr r 0 0) (.ptr b 0 0) (.ptr c 0 0) H) Q):
  ∀(n m:Nat) (H:J) (s:aA) (l:List ec) (v:I),n<m->l.length+n<=1000000000->lu H1 H r b c n2 7 T ak z (.str nm) rest l v s->qy T n l s=some (l',s')->W (tS (aq P ao) N m (.ptr r 0 0) (.ptr b 0 0) (.ptr c 0 0) H) Q
 |_,0,_,_,_,_,aU,_,_,_=>Z
 |0,m+1,_,_,_,_,_,_,_,al=>by cases al
 |n+1,m+1,H,s,l,v,aU,ax,h,al=>by
  rw[qy] at al;rw[tS];unfold G4;refine a6 (tB h.dm.rd) ?_;rintro _ bm ⟨rfl,rfl⟩;refine⟨bN _,?_⟩;by_cases aY:s.aC=0
  ·have ii:(s.aC==0)=true:=by simpa using aY
   simp-implicitDefEqProofs(disch:=try exact af) only[bg,bL,ii];refine gP (gO h.dm.rd h.dm.cf [41] (by simp)) ?_;rintro _ cT ⟨rfl,bB⟩;refine⟨bB.1,?_⟩;have ae:=h.mut (bB.mut _) (h.dm.aK bB);rw[ii,Bool.true_and] at al;cases ag:cd T s [41] with
   |true=>
    rw[ag] at al;cases al;simp-implicitDefEqProofs(disch:=try exact af) only[bg,bL,ii,Bool.not_true];exact ek _ _ ae
   |false=>
    rw[ag,Bool.not_false,bC] at al;simp-implicitDefEqProofs(disch:=try exact af) only[bg,bL,ii,Bool.not_false];refine a6 (nV ae.dm.rd ae.dm.cf) ?_;rintro _ ct ⟨rfl,bK⟩;refine⟨bK.1,?_⟩;have am:=ae.mut (bK.mut _) (ae.dm.aK bK);have je:=λH'=>am.hD.qN H'
    have cp:=am.hD.rd;have iI:=am.cell;have anb:=am.hD.one;have go:((ar T s.at_).kind==1&&l.length==6)=true->W (aO ct (aq P ao 28 [.ptr r 0 0,.int .i64 4] ct) λeC co=>tR (aq P ao) N (.ptr r 0 0) (.ptr b 0 0) (.ptr c 0 0) co) Q:=λhm=>by
     rw[hm,bC] at al;cases al;refine a6 (sw am.dm 4) ?_;rintro _ dp ⟨rfl,m5,iC⟩;exact⟨m5.1,ek _ _ (am.mut m5 iC)⟩
    have on:((ar T s.at_).kind==1&&l.length==6)=false->W (aO ct (aq P ao 30 [.ptr r 0 0] ct) λej co=>
      ab (aE P 46 (.ptr c 0 0) 1) λdy=>ab (aj P co 23 dy) λei=>dv co (dK P (co).next 23 1 [(0,ej)]) λdW ds=>aO ds (fQ P ds [23,23] ei dW) λef dV=>ab (aE P 46 (.ptr c 0 0) 1) λfo=>a7 dV (aQ P dV 23 fo ef) λeN=>
      bif ((cj (aj P ct 23 dy) ei&&(cj (aj P co 23 dy) ei&&(cj (aj P ds 23 dy) ei&&true)))&&true) then(aO eN (aq P ao 27 [.ptr r 0 0,.str [41]] eN) λfi fI=>
      ab (eY .not fi) λfU=>
      bO (some fU) (aO fI (aq P ao 31 [.ptr r 0 0,.str [44]] fI) λgM f0=>
      aO f0 (aq P ao 27 [.ptr r 0 0,.str [41]] f0) λgR hk=>
      bO (some gR) (aO hk (aq P ao 28 [.ptr r 0 0,.int .i64 2] hk) λhB iv=>
      tS (aq P ao) N m (.ptr r 0 0) (.ptr b 0 0) (.ptr c 0 0) iv) (tS (aq P ao) N m (.ptr r 0 0) (.ptr b 0 0) (.ptr c 0 0) hk)) (tS (aq P ao) N m (.ptr r 0 0) (.ptr b 0 0) (.ptr c 0 0) fI)) else none) Q:=λhm=>by
     rw[hm,bj] at al;refine a6 (JR am.dm) ?_;rintro _ fW ⟨rfl,m6,wC⟩;refine⟨m6.1,?_⟩;have aG:=am.mut m6 wC;have r_:=aG.cell;have z1:=aG.hD.rd;generalize hV T s=q at aG al;obtain⟨p,Bb⟩:=q;obtain⟨dr,fX,hg,pk,im,aI,bc,aP⟩:=aG.add U Z p;have ff:=uc vJ fW.next (cs:=p.cells) rfl rfl
     have uB:(fW.push (.row false 4 [p.cells])).next<=fX.next:=by simp only[J.b2];exact pk
     have hr:=kb im;simp only[I.cells] at hr;simp-implicitDefEqProofs(disch:=try exact af) only[bg,bL,fH,aj,dx,aQ,dx,Nat.reduceAdd,Nat.reduceLeDiff,reduceIte,I.cells,eF,fu,dB,hr,r_,ff,hg,kx,aI,bc,im,z1,iI];refine a6 (gO aP.dm.rd aP.dm.cf [41] (by simp)) ?_;rintro _ jX ⟨rfl,kU⟩;refine⟨kU.1,?_⟩;have bq:=aP.mut (kU.mut _) (aP.dm.aK kU);simp only at al;cases bd:cd T Bb [41] with
     |true=>
      rw[bd,bC] at al;simp-implicitDefEqProofs(disch:=try exact af) only[bg,bL,Bool.not_true];exact F6 U ek n m jX _ _ dr Z (by simp;omega) bq al
     |false=>
      rw[bd,bj] at al;simp-implicitDefEqProofs(disch:=try exact af) only[bg,bL,Bool.not_false];refine a6 (lA bq.dm [44] (by simp)) ?_;rintro _ gV ⟨rfl,m9,nl⟩;refine⟨m9.1,?_⟩;have bJ:=bq.mut m9 nl;refine a6 (gO bJ.dm.rd bJ.dm.cf [41] (by simp)) ?_;rintro _ ans ⟨rfl,AH⟩;refine⟨AH.1,?_⟩;have co:=bJ.mut (AH.mut _) (bJ.dm.aK AH);unfold ze at al;cases he:cd T (cr T [44] Bb) [41] with
      |true=>
       rw[he,bC] at al;simp-implicitDefEqProofs(disch:=try exact af) only[bg,bL];refine a6 (sw co.dm 2) ?_;rintro _ ant ⟨rfl,m11,ao8⟩;refine⟨m11.1,?_⟩;exact F6 U ek n m ant _ _ dr Z (by simp;omega) (co.mut m11 ao8) al
      |false=>
       rw[he,bj] at al;simp-implicitDefEqProofs(disch:=try exact af) only[bg,bL];exact F6 U ek n m ans _ _ dr Z (by simp;omega) co al
    cases ah:(ar T s.at_).kind==1 with
    |true=>
     rw[ah] at go on;cases az:l.length==6 with
     |true=>
      have dD:((l.length:Int)==6)=true:=by
       have:l.length=6:=by simpa using az
       simp;omega
      rw[az] at go;simp-implicitDefEqProofs(disch:=try exact af) only[reduceAdd,reduceLeDiff,reduceIte,aw,Tok.v,iI,je,ah,dD];exact go rfl
     |false=>
      have dD:((l.length:Int)==6)=false:=by
       have:l.length≠6:=by simpa using az
       simp;omega
      rw[az] at on;simp-implicitDefEqProofs(disch:=try exact af) only[reduceAdd,reduceLeDiff,reduceIte,aw,Tok.v,iI,je,ah,dD];exact on rfl
    |false=>
     rw[ah] at on;simp-implicitDefEqProofs(disch:=try exact af) only[reduceAdd,reduceLeDiff,reduceIte,aw,Tok.v,iI,je,ah];exact on rfl
  ·have ii:(s.aC==0)=false:=by simpa using aY
   rw[ii] at al;cases al;simp-implicitDefEqProofs(disch:=try exact af) only[bg,bL,ii];exact ek _ _ h
end
end
section
section
variable {H H' H1:J}{r:Nat}{T:List Tok}{ak:I}{s s' s0:aA}
abbrev Bd:List I:=[.str [],.ap,.bool false,.str [],.int .i64 0,.ap,.int .i64 0]
abbrev nj(has:Bool)(fL:bl)(rd ew:Int):List I:=[.bool has,.str fL,.int .i64 rd,.ap,.int .i64 ew]
def K7(H1:J)(r:Nat)(T:List Tok)(ak:I)(f:Fn)(s':aA)(w:I)(H':J):Prop:=(∃cs,w= .agg cs/\gw.V H' (bI H1.next) f cs)/\cC r H1 H'/\c_ H' r T ak s'
theorem Vn{N n:Nat}(aU:n<=900000000)(aH:T.length<=20000000)(U:c_ H1 r T ak s0){c n2:Nat}{nm fL:bl}{has:Bool}{rd ew:Int}{l:List ec}{v:I}{ji:List cE}
  (h:lu H1 H r H1.next c n2 7 T ak Bd (.str nm) (nj has fL rd ew) l v s) (al:lE T n s=some (ji,s')):
  W (zp (aq P ao) N (.ptr r 0 0) (.ptr H1.next 0 0) (.ptr c 0 0) H) (K7 H1 r T ak ⟨nm,l,has,fL,rd,ji,ew⟩ s'):=by
 unfold zp;refine a6 ((aj4 n aU).block aH h.dm ji s' al) ?_;rintro w bm ⟨m2,e0,ax⟩;refine⟨m2.1,?_⟩;have aa:=h.mut m2 e0;have cR:=aa.cR;have dd:=aa.dd;have nU:=aa.nU;have dG:=aa.dG;have eM:=aa.eM;have iN:=h.eM;have lZ:=aa.cell;have F1:=aa.hD.one;have Zu:=ax.gi;have hr:=kb F1;have Yj:=kb Zu;simp only[I.cells] at hr Yj;have ae:=aa.NH U [.bool has,.str fL,.int .i64 rd,w,.int .i64 ew];have eO:=ae.two;have mw:=ae.cell;have yB:=J.aX eO;have fK:nP r H1.next H1 ((bm.set c (.row false 7 [.str nm::v::[.bool has,.str fL,.int .i64 rd,w,.int .i64 ew]])).set H1.next (.row false 7 [.str nm::v::[.bool has,.str fL,.int .i64 rd,w,.int .i64 ew]])):=ae.m.db (.inr (bN _)) _
 have ah:eb bm (bI n2) ((bm.set c (.row false 7 [.str nm::v::[.bool has,.str fL,.int .i64 rd,w,.int .i64 ew]])).set H1.next (.row false 7 [.str nm::v::[.bool has,.str fL,.int .i64 rd,w,.int .i64 ew]])) (bI H1.next):=λk x ah g=>⟨by unfold bI at ah ⊢;omega,by unfold bI at ah;rw[J.get_set_other Z,J.get_set_other Z];exact g⟩
 have r8:=aa.hD.bo ah;have ln:ez _ (bI H1.next) ji w:=ax.bo (eb.trans (eb.le (ok':=bI n2) λk ah=>by unfold bI at ah ⊢;omega) ah).s;have bq:=U.zU fK (s':=s') (by unfold c7;rw[J.get_set_other Z];exact ae.dm.rd);simp-implicitDefEqProofs(disch:=try exact af) only[bg,bL,fH,aj,dx,aQ,dx,Nat.reduceAdd,Nat.reduceLeDiff,reduceIte,I.cells,eF,fu,dB,lZ,mw,eO,F1,Zu,Yj];exact a_.2 ⟨⟨_,rfl,v,w,rfl,r8.aN,ln⟩,fK.mt,bq⟩
theorem ahG{N n:Nat}(aU:n<=900000000)(aH:T.length<=20000000)(U:c_ H1 r T ak s0){c n2:Nat}{nm:bl}{ew:Int}{l:List ec}{v:I}{ji:List cE}
  (h:lu H1 H r H1.next c n2 7 T ak Bd (.str nm) (nj false [] 0 ew) l v s) (al:lE T n (rZ T (cr T [41] s)).2=some (ji,s')):
  W (tR (aq P ao) N (.ptr r 0 0) (.ptr H1.next 0 0) (.ptr c 0 0) H) (K7 H1 r T ak ⟨nm,l,(rZ T (cr T [41] s)).1.1,(rZ T (cr T [41] s)).1.2.1,(rZ T (cr T [41] s)).1.2.2,ji,ew⟩ s'):=by
 unfold tR;refine a6 (lA h.dm [41] (by simp)) ?_;rintro _ bm ⟨rfl,m2,e0⟩;refine⟨m2.1,?_⟩;have aa:=h.mut m2 e0;generalize cr T [41] s=s2 at aa al ⊢;refine a6 (gO aa.dm.rd aa.dm.cf [58] (by simp)) ?_;rintro _ cT ⟨rfl,bB⟩;refine⟨bB.1,?_⟩;have ae:=aa.mut (bB.mut _) (aa.dm.aK bB);unfold rZ at al ⊢;cases ag:cd T s2 [58] with
 |false=>
  rw[ag,bj] at al;simp-implicitDefEqProofs(disch:=try exact af) only[bg,bL];exact Vn aU aH U ae al
 |true=>
  rw[ag,bC] at al;have am:lu H1 (cT.set r (.row false 5 [[ak,.int .i64 (aF s2).at_,.int .i64 s2.bR,.int .i64 s2.aC,.int .i64 s2.cv]])) r H1.next c n2 7 T ak Bd (.str nm) (nj false [] 0 ew) l v (aF s2):=ae.ao9 (aF s2)
  have mZ:=ae.dm.rd;unfold c7 at mZ;have aB:=am.NH U (nj true [] 0 ew);have iI:=am.cell;have Ax:=ae.dm.cf.one;have aZ:IntKind.i64.wrap (s2.at_+1)=(aF s2).at_:=rfl;simp-implicitDefEqProofs(disch:=try exact af) only[bg,bL,fH,ee,aj,dx,aQ,dx,Nat.reduceAdd,Nat.reduceLeDiff,reduceIte,I.cells,eF,fu,mZ,Ax,aZ,iI];refine a6 (DN aB.dm) ?_;rintro _ fW ⟨rfl,m6,wC⟩;refine⟨m6.1,?_⟩;have aG:=aB.mut m6 wC;have r_:=aG.cell;generalize fm T (aF s2)=o at aG al ⊢;obtain⟨⟨y,d⟩,Bb⟩:=o;have aP:=aG.NH U (nj true y d ew);simp-implicitDefEqProofs(disch:=try exact af) only[bg,bL,fH,ee,aj,dx,aQ,dx,Nat.reduceAdd,Nat.reduceLeDiff,reduceIte,I.cells,eF,fu,r_]
  exact Vn aU aH U aP al
end
end
section
section
variable {H H' H1:J}{r:Nat}{T:List Tok}{ak:I}{s s' s0:aA}
theorem ZP{n:Nat}(aU:n<=900000000)(aH:T.length<=20000000)(h:c_ H r T ak s){f:Fn}(al:yJ T n s=some (f,s')):W (aq P ao 32 [.ptr r 0 0] H) (K7 H r T ak f s'):=by
 refine cP (λ_=>ak4 (n+1)) ?_;have az:=h.rd.lt;unfold yJ at al;obtain⟨⟨l',mG⟩,wc,we⟩:=eW.1 al;obtain⟨⟨ji,jN⟩,Ym,Yn⟩:=eW.1 we;simp only[bF,dw] at Yn;obtain⟨rfl,rfl⟩:=Yn;simp only at Ym;have en:=aR.push H (.row false 7 [Bd]);have ax:=J.ca H (.row false 7 [Bd]);simp-implicitDefEqProofs(disch:=try exact af) only[IG,bg,bL,List.length_cons,List.length_nil,Nat.zero_add,Nat.reduceAdd];refine a6 (nV (h.rd.aK en) (h.aK en).cf) ?_;rintro _ H1 ⟨rfl,aV⟩;refine⟨aV.1,?_⟩;have fB:=aV.1;simp only[J.b2] at fB;have U:=(h.aK en).aK aV;have dQ:=aV.get ax;generalize ar T s.at_=q;obtain⟨k,x,z,p⟩:=q;have aJ:=aR.push H1 (.row false 7 [.str []:: .ap::nj false [] 0 p])
 have lZ:=J.ca H1 (.row false 7 [.str []:: .ap::nj false [] 0 p]);simp-implicitDefEqProofs(disch:=try exact af) only[bg,bL,fH,aj,dx,aQ,dx,Nat.reduceAdd,Nat.reduceLeDiff,reduceIte,I.cells,eF,fu,dB,J.io,Tok.v];refine a6 (wJ (U.aK aJ)) ?_;rintro _ cT ⟨rfl,m3,ae⟩;refine⟨m3.1,?_⟩;have jC:=m3.1;simp only[J.b2] at jC;have eO:=m3.get (aJ.get dQ) Z;have mw:=m3.get lZ Z;have gS:=J.aX mw;generalize dk T s=o at ae wc ⊢;obtain⟨nm,iO⟩:=o;simp only at ae wc ⊢;have Fx:=((((en.mut (· =r)).trans (aV.mut _)).trans (aJ.mut _)).trans m3);have yj:=Fx.db (l:=H1.next) (.inr Z) (.row false 7 [.str nm:: .ap::nj false [] 0 p])
 have am:=h.mut yj (show c7 _ r ak iO by unfold c7;rw[J.get_set_other Z];exact ae.rd);have fV:(cT.set H1.next (.row false 7 [.str nm:: .ap::nj false [] 0 p])).get H.next=some (.row false 7 [Bd]):=by rw[J.get_set_other Z];exact eO
 have iI:(cT.set H1.next (.row false 7 [.str nm:: .ap::nj false [] 0 p])).get H1.next=some (.row false 7 [.str nm:: .ap::nj false [] 0 p]):=J.get_set_same gS
 simp-implicitDefEqProofs(disch:=try exact af) only[bg,bL,fH,aj,dx,aQ,dx,Nat.reduceAdd,Nat.reduceLeDiff,reduceIte,I.cells,eF,fu,dB,mw];refine a6 (lA am [40] (by simp)) ?_;rintro _ dp ⟨rfl,m5,aB⟩;refine⟨m5.1,?_⟩;have nS:=m5.1;simp only[J.e9] at nS;have gz:=m5.get fV Z;have jJ:=m5.get iI Z;have oJ:lu H dp r H.next H1.next dp.next 7 T ak Bd (.str nm) (nj false [] 0 p) [] .ap (cr T [40] iO):=⟨aB,gz,jJ,.nil,cC.A7 (yj.trans m5),az,bN _,Z,Z,bN _⟩
 refine F6 h (s':=mG) (l':=l') (λfW v aG=> ?_) n (n+1) dp _ [] .ap (Nat.lt_succ_self _) (by simp only[List.length_nil];omega) oJ wc;exact ahG aU aH h aG Ym
end
end
section
section
variable {H H' H0 H1:J}{r a c:Nat}{T:List Tok}{ak:I}{s s' s0:aA}{g g':eA}
theorem Ly{α:Type}{K:tl α}{t e:Nat}(y:v7 t e K.esz){cG:Nat->Prop}{l:List α}{v:I}{hj:dY}(ax:fJ K cG H1 l v)(m:cC r H1 H)(aZ:H.get r=some hj)(mY:r<H1.next)(aqE:r<c)(aS:c<H1.next)(a8: ∀k,cG k->c<k){x:α}{cs:List I}(he:K.V H (bI H1.next) x cs)(az:l.length<=1000000000):
  ∃dr H',fQ P (H.push (.row false K.esz [cs])) [t,t] v (.aN H.next 0 1 K.esz (some 1))=some (dr,H')/\dr.one=true/\H.next+1<=H'.next/\H'.get c=H.get c/\ ∀b,fJ K (λk=>cG k\/H1.next<=k) (H'.set c b) (l++[x]) dr/\
   (∀k z,¬cG k->k<H1.next->k≠c->k≠r->H1.get k=some z->(H'.set c b).get k=some z)/\(H'.set c b).get r=some hj/\(H'.set c b).next=H'.next/\dC (λk=>k=r\/c<=k) H1 (H'.set c b):=by
 have aU:(H1.set r hj).next=H1.next:=J.e9 _ _ _
 have pu:aR (H1.set r hj) H:=⟨by rw[aU];exact m.1,λk ah=>by
  rw[aU] at ah;by_cases e:k=r
  ·rw[e,J.get_set_same mY];exact aZ
  ·rw[J.get_set_other (Ne.symm e)];exact m.2 k ah e⟩
 have ia:fJ K cG (H1.set r hj) l v:=ax.bo λk x ah g=>⟨ah,by have:=a8 k ah;rw[J.get_set_other Z];exact g⟩
 obtain⟨dr,H',bf,a2,a3,a4,a5,fl,h0⟩:=grow (r:=c) y ia ((pu.mut λk=>k=c\/(H1.set r hj).next<=k)) a8 (by rw[aU];exact aS) (n2:=(H1.set r hj).next) (by rw[aU];exact he) (bN _) az;rw[aU] at a3 fl;refine⟨dr,H',bf,a2,a4,a5,λb=>⟨a3 b,λk z U aa ae am aB=>fl k z U aa ae (by rw[J.get_set_other (Ne.symm am)];exact aB) b,?_,J.e9 _ _ _,?_⟩⟩
 ·exact fl r hj (λh=>by have:=a8 r h;omega) mY Z (J.get_set_same mY) b
 ·have m7:=h0 b;refine⟨by have:=m7.1;rw[aU] at this;exact this,λk ah aM=> ?_⟩;have U:k≠r:=λe=>aM (.inl e)
  have aa: ¬c<=k:=λe=>aM (.inr e)
  rw[m7.2 k (by rw[aU];exact ah) aa,J.get_set_other (Ne.symm U)]
def jh(H0:J)(r c:Nat)(T:List Tok)(ak:I)(H:J)(g:eA)(s:aA):Prop:=
 ∃b9 b8 b_,∃cG dh dL:Nat->Prop,c_ H r T ak s/\(∀l i n e z,ak= .aN l i n e z->l<r)/\H.get H0.next=some (.row false 3 [[.ap,.ap,.ap]])/\H.get (H0.next+1)=some (.row false 2 [[.int .i64 0,.int .i64 0]])/\H.get c=some (.row false 3 [[b9,b8,b_]])/\
  fJ gA cG H g.el b9/\fJ fz dh H g.globals b8/\fJ gw dL H g.funcs b_/\(∀k,cG k->c<k/\ ¬dh k/\ ¬dL k)/\(∀k,dh k->c<k/\ ¬dL k)/\(∀k,dL k->c<k)/\H0.next+1<r/\r<c/\dC (λk=>H0.next<=k) H0 H
theorem jh.mt(h:jh H0 r c T ak H g s)(m:cC r H H')(dm:c_ H' r T ak s'):jh H0 r c T ak H' g s':=by
 obtain⟨b9,b8,b_,cG,dh,dL,ai,an,ay,ba,bb,df,cU,b3,bM,c2,c3,cR,dd,fK⟩:=h;refine⟨b9,b8,b_,cG,dh,dL,dm,an,m.get ay Z,m.get ba Z,m.get bb Z,df.bo (eb.mut m λk ah=>by have:=(bM k ah).1;omega),cU.bo (eb.mut m λk ah=>by have:=(c2 k ah).1;omega),b3.bo (eb.mut m λk ah=>by have:=c3 k ah;omega),bM,c2,c3,cR,dd,?_⟩;have U:=fK.1;exact⟨by have:=m.1;omega,λk ah aM=>by rw[m.2 k Z Z];exact fK.2 k ah aM⟩
theorem jh.hU(h:jh H0 r c T ak H g s):c_ H r T ak s:=by
 obtain⟨b9,b8,b_,cG,dh,dL,ai,-⟩:=h;exact ai
theorem jh.aK(h:jh H0 r c T ak H g s)(p:aR H H'):jh H0 r c T ak H' g s:=h.mt (p.mut _) (h.hU.aK p)
end
end
section
section
variable {H H' H0 H1:J}{r c:Nat}{T:List Tok}{ak:I}{s s' s0:aA}{g g':eA}
theorem K2(h:ih H ak T)(bz: ∀l i n e z,ak= .aN l i n e z->l<r)(ah: ∀k,k<r-> ∀z,H.get k=some z->H'.get k=some z):ih H' ak T:=by
 rcases h with b0|⟨l,i,cap,rfl,b0⟩
 ·exact .inl b0
 ·exact .inr ⟨l,i,cap,rfl,b0.imp id λ⟨ro,els,cD,cu⟩=>⟨ro,els,ah l (bz _ _ _ _ _ rfl) _ cD,cu⟩⟩
theorem adm(h:c_ H r T ak s){x:ec}(al:hV T s=(x,s')):W (aq P ao 30 [.ptr r 0 0] H) λv H'=>(∃cs,v= .agg cs/\fz.V H' (bI H.next) x cs)/\cC r H H'/\c_ H' r T ak s':=by
 refine(JR h).mono ?_;rintro v H' ⟨U,aa,ae⟩;rw[al] at U ae;exact⟨⟨_,U,rfl⟩,aa,ae⟩
theorem adp{M:Nat}(jA:M<=900000000)(aH:T.length<=20000000)(h:jh H0 r c T ak H g s)(az:g.el.length<=900000000){x:jY}(al:yT T M (aF s)=some (x,s')){L:J->O}{Q:I->J->Prop}(gH: ∀H',jh H0 r c T ak H' {g with el:=g.el++[x]} s'->W (L H') Q):
  W (ab (b5 (.ptr r 0 0)) λiV=>ab (aE P 63 iV 1) λl6=>ab (aj P H 3 l6) λnM=>ab (aW P .add 3 true nM (.int .i64 1)) λkS=>ab (b5 (.ptr r 0 0)) λl7=>ab (aE P 63 l7 1) λnb=>a7 H (aQ P H 3 nb kS) λaa=>
   aO aa (aq P ao 29 [.ptr r 0 0] aa) λnN ae=>ab (aE P 26 (.ptr c 0 0) 0) λfD=>ab (aj P ae 22 fD) λkq=>dv ae (dK P (ae).next 22 1 [(0,nN)]) λph am=>aO am (fQ P am [22,22] kq ph) λnc aB=>
   ab (aE P 26 (.ptr c 0 0) 0) λnO=>a7 aB (aQ P aB 22 nO nc) λaG=>bif ((cj (aj P aa 22 fD) kq&&(cj (aj P ae 22 fD) kq&&(cj (aj P am 22 fD) kq&&true)))&&true) then L aG else none) Q:=by
 have a8:=h.hU.rd;have Ax:=h.hU.cf.one;unfold c7 at a8;have Av:IntKind.i64.wrap (s.at_+1)=(aF s).at_:=rfl;obtain⟨m,bd⟩:=h5 h.hU.rd (aF s);have aa:jh H0 r c T ak (H.set r (.row false 5 [[ak,.int .i64 (aF s).at_,.int .i64 s.bR,.int .i64 s.aC,.int .i64 s.cv]])) g (aF s):=h.mt m (h.hU.mut m bd);simp-implicitDefEqProofs(disch:=try exact af) only[bg,bL,fH,ee,aj,dx,aQ,dx,Nat.reduceAdd,Nat.reduceLeDiff,reduceIte,I.cells,eF,fu,a8,Ax,Av];generalize H.set r (.row false 5 [[ak,.int .i64 (aF s).at_,.int .i64 s.bR,.int .i64 s.aC,.int .i64 s.cv]])=bm at aa ⊢;refine a6 (aal Z aa.hU al) ?_;rintro _ cT ⟨⟨cs,rfl,he⟩,m3,gC⟩
 refine⟨m3.1,?_⟩;obtain⟨b9,b8,b_,cG,dh,dL,ai,an,ay,ba,bb,df,cU,b3,bM,c2,c3,cR,dd,fK⟩:=aa;have oJ:=ai.rd.lt;have lc:=J.aX bb;have jC:=m3.1;have F2:=m3.get ay Z;have ZB:=m3.get ba Z;have tw:=m3.get bb Z;obtain⟨dr,dp,hg,im,pk,aI,A3⟩:=Ly (c:=c) Ho df m3 gC.rd oJ dd lc (λk ah=>(bM k ah).1) he Z;have f7:=gA.len he;have ff:=uc Ho cT.next (cs:=cs) f7.1 f7.2
 have ht:gA.esz=3:=rfl;rw[ht] at hg;have cp:=df.rd;have hr:=kb im;simp only[I.cells] at hr;rw[tw] at aI;have z5:=(aR.push cT (.row false 3 [cs])).get tw;have uB:(cT.push (.row false 3 [cs])).next<=dp.next:=by simp only[J.b2];exact pk
 have eo:=df.one;have eX:=cU.one;have lx:=b3.one;simp-implicitDefEqProofs(disch:=try exact af) only[bg,bL,fH,aj,dx,aQ,dx,Nat.reduceAdd,Nat.reduceLeDiff,reduceIte,I.cells,eF,fu,tw,bb,z5,aI,ff,hg,kx,cp,hr,im];obtain⟨cD,cu,eH,eE,eR⟩:=A3 (.row false 3 [[dr,b8,b_]]);have Fu:=J.aX aI;have nT: ∀k,k<bm.next->k≠c->k≠r-> ¬cG k-> ∀z,bm.get k=some z->(dp.set c (.row false 3 [[dr,b8,b_]])).get k=some z:=λk U aa ae am z aB=>cu k z am U aa ae aB
 have kc: ∀k,cG k->c<k:=λk ah=>(bM k ah).1
 refine gH _ ⟨dr,b8,b_,_,(λk=>dh k/\k<bm.next),(λk=>dL k/\k<bm.next),⟨eH,K2 ai.cf an λk ah z e=>nT k (J.aX e) Z Z (λh=>by have:=kc k h;omega) z e⟩,an,?_,?_,J.get_set_same Fu,cD,(cU.bo λk b ah g=>⟨⟨ah,J.aX g⟩,nT k (J.aX g) (by have:=(c2 k ah).1;omega) (by have:=(c2 k ah).1;omega) (λh=>(bM k h).2.1 ah) b g⟩),(b3.bo λk b ah g=>⟨⟨ah,J.aX g⟩,nT k (J.aX g) (by have:=c3 k ah;omega) (by have:=c3 k ah;omega) (λh=>(bM k h).2.2 ah) b g⟩),?_,?_,?_,cR,dd,?_⟩
 ·exact nT _ Z Z Z (λah=>by have:=kc _ ah;omega) _ ay
 ·exact nT _ Z Z Z (λah=>by have:=kc _ ah;omega) _ ba
 ·rintro k (ah|ah)
  ·exact⟨(bM k ah).1,λh=>(bM k ah).2.1 h.1,λh=>(bM k ah).2.2 h.1⟩
  ·exact⟨Z,λh=>by have:=h.2;omega,λh=>by have:=h.2;omega⟩
 ·exact λk ah=>⟨(c2 k ah.1).1,λh=>(c2 k ah.1).2 h.1⟩
 ·exact λk ah=>c3 k ah.1
 ·have U:=fK.1;have aB:=eR.1;refine⟨Z,λk ah aM=> ?_⟩;have uH:k<H0.next:=by simpa using aM
  rw[eR.2 k Z Z];exact fK.2 k ah aM
theorem ado{M:Nat}(jA:M<=900000000)(aH:T.length<=20000000)(h:jh H0 r c T ak H g s)(az:g.globals.length<=900000000){x:ec}(al:hV T (aF s)=(x,s')){L:J->O}{Q:I->J->Prop}(gH: ∀H',jh H0 r c T ak H' {g with globals:=g.globals++[x]} s'->W (L H') Q):
  W (ab (b5 (.ptr r 0 0)) λiV=>ab (aE P 63 iV 1) λl6=>ab (aj P H 3 l6) λnM=>ab (aW P .add 3 true nM (.int .i64 1)) λkS=>ab (b5 (.ptr r 0 0)) λl7=>ab (aE P 63 l7 1) λnb=>a7 H (aQ P H 3 nb kS) λaa=>
   aO aa (aq P ao 30 [.ptr r 0 0] aa) λnN ae=>ab (aE P 26 (.ptr c 0 0) 1) λfD=>ab (aj P ae 23 fD) λkq=>dv ae (dK P (ae).next 23 1 [(0,nN)]) λph am=>aO am (fQ P am [23,23] kq ph) λnc aB=>
   ab (aE P 26 (.ptr c 0 0) 1) λnO=>a7 aB (aQ P aB 23 nO nc) λaG=>bif ((cj (aj P aa 23 fD) kq&&(cj (aj P ae 23 fD) kq&&(cj (aj P am 23 fD) kq&&true)))&&true) then L aG else none) Q:=by
 have a8:=h.hU.rd;have Ax:=h.hU.cf.one;unfold c7 at a8;have Av:IntKind.i64.wrap (s.at_+1)=(aF s).at_:=rfl;obtain⟨m,bd⟩:=h5 h.hU.rd (aF s);have aa:jh H0 r c T ak (H.set r (.row false 5 [[ak,.int .i64 (aF s).at_,.int .i64 s.bR,.int .i64 s.aC,.int .i64 s.cv]])) g (aF s):=h.mt m (h.hU.mut m bd);simp-implicitDefEqProofs(disch:=try exact af) only[bg,bL,fH,ee,aj,dx,aQ,dx,Nat.reduceAdd,Nat.reduceLeDiff,reduceIte,I.cells,eF,fu,a8,Ax,Av];generalize H.set r (.row false 5 [[ak,.int .i64 (aF s).at_,.int .i64 s.bR,.int .i64 s.aC,.int .i64 s.cv]])=bm at aa ⊢;refine a6 (adm aa.hU al) ?_;rintro _ cT ⟨⟨cs,rfl,he⟩,m3,gC⟩
 refine⟨m3.1,?_⟩;obtain⟨b9,b8,b_,cG,dh,dL,ai,an,ay,ba,bb,df,cU,b3,bM,c2,c3,cR,dd,fK⟩:=aa;have oJ:=ai.rd.lt;have lc:=J.aX bb;have jC:=m3.1;have F2:=m3.get ay Z;have ZB:=m3.get ba Z;have tw:=m3.get bb Z;obtain⟨dr,dp,hg,im,pk,aI,A3⟩:=Ly (c:=c) vJ cU m3 gC.rd oJ dd lc (λk ah=>(c2 k ah).1) he Z;have f7:=fz.len he;have ff:=uc vJ cT.next (cs:=cs) f7.1 f7.2
 have ht:fz.esz=4:=rfl;rw[ht] at hg;have cp:=cU.rd;have hr:=kb im;simp only[I.cells] at hr;rw[tw] at aI;have z5:=(aR.push cT (.row false 4 [cs])).get tw;have uB:(cT.push (.row false 4 [cs])).next<=dp.next:=by simp only[J.b2];exact pk
 have eo:=df.one;have eX:=cU.one;have lx:=b3.one;simp-implicitDefEqProofs(disch:=try exact af) only[bg,bL,fH,aj,dx,aQ,dx,Nat.reduceAdd,Nat.reduceLeDiff,reduceIte,I.cells,eF,fu,tw,bb,z5,aI,ff,hg,kx,cp,hr,im];obtain⟨cD,cu,eH,eE,eR⟩:=A3 (.row false 3 [[b9,dr,b_]]);have Fu:=J.aX aI;have nT: ∀k,k<bm.next->k≠c->k≠r-> ¬dh k-> ∀z,bm.get k=some z->(dp.set c (.row false 3 [[b9,dr,b_]])).get k=some z:=λk U aa ae am z aB=>cu k z am U aa ae aB
 have kc: ∀k,dh k->c<k:=λk ah=>(c2 k ah).1
 refine gH _ ⟨b9,dr,b_,(λk=>cG k/\k<bm.next),_,(λk=>dL k/\k<bm.next),⟨eH,K2 ai.cf an λk ah z e=>nT k (J.aX e) Z Z (λh=>by have:=kc k h;omega) z e⟩,an,?_,?_,J.get_set_same Fu,(df.bo λk b ah g=>⟨⟨ah,J.aX g⟩,nT k (J.aX g) (by have:=(bM k ah).1;omega) (by have:=(bM k ah).1;omega) (λh=>(bM k ah).2.1 h) b g⟩),cD,(b3.bo λk b ah g=>⟨⟨ah,J.aX g⟩,nT k (J.aX g) (by have:=c3 k ah;omega) (by have:=c3 k ah;omega) (λh=>(c2 k h).2 ah) b g⟩),?_,?_,?_,cR,dd,?_⟩
 ·exact nT _ Z Z Z (λah=>by have:=kc _ ah;omega) _ ay
 ·exact nT _ Z Z Z (λah=>by have:=kc _ ah;omega) _ ba
 ·refine λk ah=>⟨(bM k ah.1).1,λh=> ?_,λh=>(bM k ah.1).2.2 h.1⟩
  rcases h with h|h
  ·exact(bM k ah.1).2.1 h
  ·have:=ah.2;omega
 ·rintro k (ah|ah)
  ·exact⟨(c2 k ah).1,λh=>(c2 k ah).2 h.1⟩
  ·exact⟨Z,λh=>by have:=h.2;omega⟩
 ·exact λk ah=>c3 k ah.1
 ·have U:=fK.1;have aB:=eR.1;refine⟨Z,λk ah aM=> ?_⟩;have uH:k<H0.next:=by simpa using aM
  rw[eR.2 k Z Z];exact fK.2 k ah aM
theorem aa0{M:Nat}(jA:M<=900000000)(aH:T.length<=20000000)(h:jh H0 r c T ak H g s)(az:g.funcs.length<=900000000){x:Fn}(al:yJ T M (aF s)=some (x,s')){L:J->O}{Q:I->J->Prop}(gH: ∀H',jh H0 r c T ak H' {g with funcs:=g.funcs++[x]} s'->W (L H') Q):
  W (ab (b5 (.ptr r 0 0)) λiV=>ab (aE P 63 iV 1) λl6=>ab (aj P H 3 l6) λnM=>ab (aW P .add 3 true nM (.int .i64 1)) λkS=>ab (b5 (.ptr r 0 0)) λl7=>ab (aE P 63 l7 1) λnb=>a7 H (aQ P H 3 nb kS) λaa=>
   aO aa (aq P ao 32 [.ptr r 0 0] aa) λnN ae=>ab (aE P 26 (.ptr c 0 0) 2) λfD=>ab (aj P ae 24 fD) λkq=>dv ae (dK P (ae).next 24 1 [(0,nN)]) λph am=>aO am (fQ P am [24,24] kq ph) λnc aB=>
   ab (aE P 26 (.ptr c 0 0) 2) λnO=>a7 aB (aQ P aB 24 nO nc) λaG=>bif ((cj (aj P aa 24 fD) kq&&(cj (aj P ae 24 fD) kq&&(cj (aj P am 24 fD) kq&&true)))&&true) then L aG else none) Q:=by
 have a8:=h.hU.rd;have Ax:=h.hU.cf.one;unfold c7 at a8;have Av:IntKind.i64.wrap (s.at_+1)=(aF s).at_:=rfl;obtain⟨m,bd⟩:=h5 h.hU.rd (aF s);have aa:jh H0 r c T ak (H.set r (.row false 5 [[ak,.int .i64 (aF s).at_,.int .i64 s.bR,.int .i64 s.aC,.int .i64 s.cv]])) g (aF s):=h.mt m (h.hU.mut m bd);simp-implicitDefEqProofs(disch:=try exact af) only[bg,bL,fH,ee,aj,dx,aQ,dx,Nat.reduceAdd,Nat.reduceLeDiff,reduceIte,I.cells,eF,fu,a8,Ax,Av];generalize H.set r (.row false 5 [[ak,.int .i64 (aF s).at_,.int .i64 s.bR,.int .i64 s.aC,.int .i64 s.cv]])=bm at aa ⊢;refine a6 (ZP jA aH aa.hU al) ?_;rintro _ cT ⟨⟨cs,rfl,he⟩,m3,gC⟩
 refine⟨m3.1,?_⟩;obtain⟨b9,b8,b_,cG,dh,dL,ai,an,ay,ba,bb,df,cU,b3,bM,c2,c3,cR,dd,fK⟩:=aa;have oJ:=ai.rd.lt;have lc:=J.aX bb;have jC:=m3.1;have F2:=m3.get ay Z;have ZB:=m3.get ba Z;have tw:=m3.get bb Z;obtain⟨dr,dp,hg,im,pk,aI,A3⟩:=Ly (c:=c) Hn b3 m3 gC.rd oJ dd lc (λk ah=>c3 k ah) he Z;have f7:=gw.len he;have ff:=uc Hn cT.next (cs:=cs) f7.1 f7.2
 have ht:gw.esz=7:=rfl;rw[ht] at hg;have cp:=b3.rd;have hr:=kb im;simp only[I.cells] at hr;rw[tw] at aI;have z5:=(aR.push cT (.row false 7 [cs])).get tw;have uB:(cT.push (.row false 7 [cs])).next<=dp.next:=by simp only[J.b2];exact pk
 have eo:=df.one;have eX:=cU.one;have lx:=b3.one;simp-implicitDefEqProofs(disch:=try exact af) only[bg,bL,fH,aj,dx,aQ,dx,Nat.reduceAdd,Nat.reduceLeDiff,reduceIte,I.cells,eF,fu,tw,bb,z5,aI,ff,hg,kx,cp,hr,im];obtain⟨cD,cu,eH,eE,eR⟩:=A3 (.row false 3 [[b9,b8,dr]]);have Fu:=J.aX aI;have nT: ∀k,k<bm.next->k≠c->k≠r-> ¬dL k-> ∀z,bm.get k=some z->(dp.set c (.row false 3 [[b9,b8,dr]])).get k=some z:=λk U aa ae am z aB=>cu k z am U aa ae aB
 have kc: ∀k,dL k->c<k:=λk ah=>c3 k ah
 refine gH _ ⟨b9,b8,dr,(λk=>cG k/\k<bm.next),(λk=>dh k/\k<bm.next),_,⟨eH,K2 ai.cf an λk ah z e=>nT k (J.aX e) Z Z (λh=>by have:=kc k h;omega) z e⟩,an,?_,?_,J.get_set_same Fu,(df.bo λk b ah g=>⟨⟨ah,J.aX g⟩,nT k (J.aX g) (by have:=(bM k ah).1;omega) (by have:=(bM k ah).1;omega) (λh=>(bM k ah).2.2 h) b g⟩),(cU.bo λk b ah g=>⟨⟨ah,J.aX g⟩,nT k (J.aX g) (by have:=(c2 k ah).1;omega) (by have:=(c2 k ah).1;omega) (λh=>(c2 k ah).2 h) b g⟩),cD,?_,?_,?_,cR,dd,?_⟩
 ·exact nT _ Z Z Z (λah=>by have:=kc _ ah;omega) _ ay
 ·exact nT _ Z Z Z (λah=>by have:=kc _ ah;omega) _ ba
 ·refine λk ah=>⟨(bM k ah.1).1,λh=>(bM k ah.1).2.1 h.1,λh=> ?_⟩
  rcases h with h|h
  ·exact(bM k ah.1).2.2 h
  ·have:=ah.2;omega
 ·refine λk ah=>⟨(c2 k ah.1).1,λh=> ?_⟩
  rcases h with h|h
  ·exact(c2 k ah.1).2 h
  ·have:=ah.2;omega
 ·rintro k (ah|ah)
  ·exact c3 k ah
  ·omega
 ·have U:=fK.1;have aB:=eR.1;refine⟨Z,λk ah aM=> ?_⟩;have uH:k<H0.next:=by simpa using aM
  rw[eR.2 k Z Z];exact fK.2 k ah aM
end
end
section
section
variable {H H' H0 H1:J}{r c:Nat}{T:List Tok}{ak:I}{s s' s0:aA}{g g':eA}
theorem afm{N:Nat}{bD:I->I->I->I->J->O}{an ay:I}{Q:I->J->Prop}(h:jh H0 r c T ak H g s)(tq: ∀H',jh H0 r c T ak H' g (cS T 4 s)->W (bD an ay (.ptr r 0 0) (.ptr c 0 0) H') Q):W (rR (aq P ao) N bD an ay (.ptr r 0 0) (.ptr c 0 0) (.bool true) H) Q:=by
 unfold rR;simp only[iE,bC,bj];refine a6 (sw h.hU 4) ?_;rintro _ dp ⟨rfl,m5,iC⟩;exact⟨m5.1,tq _ (h.mt m5 iC)⟩
theorem afl{N M n:Nat}(jA:M<=900000000)(aH:T.length<=20000000){bD:I->I->I->I->J->O}{an ay:I}{Q:I->J->Prop}(h:jh H0 r c T ak H g s)(eG:g.el.length<=900000000)(fA:g.globals.length<=900000000)(gS:g.funcs.length<=900000000)
  (al:(bif isRec T s then(yT T M (aF s)).bind λp=>mo T M n {g with el:=g.el++[p.1]} p.2
   else bif ui T s then mo T M n {g with globals:=g.globals++[(hV T (aF s)).1]} (cr T [59] (hV T (aF s)).2)
   else bif isFun T s then(yJ T M (aF s)).bind λp=>mo T M n {g with funcs:=g.funcs++[p.1]} p.2
   else mo T M n g (cS T 2 s))=some (g',s'))
  (tq: ∀H' g1 s1,jh H0 r c T ak H' g1 s1->g1.el.length<=g.el.length+1->g1.globals.length<=g.globals.length+1->g1.funcs.length<=g.funcs.length+1->mo T M n g1 s1=some (g',s')->W (bD an ay (.ptr r 0 0) (.ptr c 0 0) H') Q):W (rR (aq P ao) N bD an ay (.ptr r 0 0) (.ptr c 0 0) (.bool false) H) Q:=by
 unfold isRec ui isFun at al;unfold rR;simp only[iE,bC,bj];refine a6 (gO h.hU.rd h.hU.cf [114,101,99,111,114,100] (by simp)) ?_;rintro _ bm ⟨rfl,aJ⟩;refine⟨aJ.1,?_⟩;have aa:=h.aK aJ;cases aI:cd T s [114,101,99,111,114,100] with
 |true=>
  rw[aI,bC] at al;obtain⟨⟨x,s1⟩,f1,f2⟩:=eW.1 al;simp only[iE,bC,bj];exact adp jA aH aa eG f1 (L:=λH'=>bD an ay (.ptr r 0 0) (.ptr c 0 0) H') λH' bZ=>tq H' _ _ bZ (by simp) (by simp) (by simp) f2
 |false=>
  rw[aI,bj] at al;simp only[iE,bC,bj];refine a6 (gO aa.hU.rd aa.hU.cf [103,108,111,98,97,108] (by simp)) ?_;rintro _ cT ⟨rfl,bB⟩;refine⟨bB.1,?_⟩;have ae:=aa.aK bB;cases bc:cd T s [103,108,111,98,97,108] with
  |true=>
   rw[bc,bC] at al;simp only[iE,bC,bj];refine ado jA aH ae fA (x:=(hV T (aF s)).1) (s':=(hV T (aF s)).2) rfl (L:=λH'=>aO H' (aq P ao 31 [.ptr r 0 0,.str [59]] H') λFK bq=>bD an ay (.ptr r 0 0) (.ptr c 0 0) bq) λH' bZ=> ?_
   refine a6 (lA bZ.hU [59] (by simp)) ?_;rintro _ dp ⟨rfl,m5,iC⟩;exact⟨m5.1,tq _ _ _ (bZ.mt m5 iC) (by simp) (by simp) (by simp) al⟩
  |false=>
   rw[bc,bj] at al;simp only[iE,bC,bj];refine a6 (gO ae.hU.rd ae.hU.cf [102,117,110,99] (by simp)) ?_;rintro _ ct ⟨rfl,bK⟩;refine⟨bK.1,?_⟩;have am:=ae.aK bK;cases dq:cd T s [102,117,110,99] with
   |true=>
    rw[dq,bC] at al;obtain⟨⟨x,s1⟩,f1,f2⟩:=eW.1 al;simp only[iE,bC,bj];exact aa0 jA aH am gS f1 (L:=λH'=>bD an ay (.ptr r 0 0) (.ptr c 0 0) H') λH' bZ=>tq H' _ _ bZ (by simp) (by simp) (by simp) f2
   |false=>
    rw[dq,bj] at al;simp only[iE,bC,bj];refine a6 (sw am.hU 2) ?_;rintro _ dp ⟨rfl,m5,iC⟩;exact⟨m5.1,tq _ _ _ (am.mt m5 iC) (by simp) (by simp) (by simp) al⟩
end
end
section
section
variable {H H' H0 H1:J}{r c:Nat}{T:List Tok}{ak b9 b8 b_:I}{s s' s0:aA}{g g':eA}
theorem Lf{n:Nat}(aS:H.get c=some (.row false 3 [[b9,b8,b_]]))(je: ∀H',dF P H' .len [22] [b9]=some (.int .i64 n))(bt:b9.one=true)(b:Bool)(F:I->J->O):
  (aD (.bool b) true H (bh (aE P 26 (.ptr c 0 0) 0)) λej aP=>aD (.bool b) true aP (qr (aj P aP 22 ej)) λdW bq=>aD (.bool b) true bq (λq=>iu (dF P .empty .len [22] [dW]) (dF P bq .len [22] [dW]) q) λef bJ=>aD (.bool b) true bJ (bh (aW P .eql 3 true ef (.int .i64 12))) λfo co=>ab (cX (.bool b) (some fo) (some (.bool false))) λfv=>F fv co)=F (.bool (b&&((n:Int)==12))) H:=by
 cases b
 ·simp-implicitDefEqProofs(disch:=try exact af) only[reduceAdd,reduceLeDiff,reduceIte,aw,Bool.false_and]
 ·simp-implicitDefEqProofs(disch:=try exact af) only[reduceAdd,reduceLeDiff,reduceIte,aw,aS,je,Bool.true_and]
theorem Lg{n:Nat}(aS:H.get c=some (.row false 3 [[b9,b8,b_]]))(je: ∀H',dF P H' .len [23] [b8]=some (.int .i64 n))(bt:b8.one=true)(b:Bool)(F:I->J->O):
  (aD (.bool b) true H (bh (aE P 26 (.ptr c 0 0) 1)) λej aP=>aD (.bool b) true aP (qr (aj P aP 23 ej)) λdW bq=>aD (.bool b) true bq (λq=>iu (dF P .empty .len [23] [dW]) (dF P bq .len [23] [dW]) q) λef bJ=>aD (.bool b) true bJ (bh (aW P .eql 3 true ef (.int .i64 8))) λfo co=>ab (cX (.bool b) (some fo) (some (.bool false))) λfv=>F fv co)=F (.bool (b&&((n:Int)==8))) H:=by
 cases b
 ·simp-implicitDefEqProofs(disch:=try exact af) only[reduceAdd,reduceLeDiff,reduceIte,aw,Bool.false_and]
 ·simp-implicitDefEqProofs(disch:=try exact af) only[reduceAdd,reduceLeDiff,reduceIte,aw,aS,je,Bool.true_and]
theorem ahr{n:Nat}(aS:H.get c=some (.row false 3 [[b9,b8,b_]]))(je: ∀H',dF P H' .len [24] [b_]=some (.int .i64 n))(bt:b_.one=true)(b:Bool)(F:I->J->O):
  (aD (.bool b) true H (bh (aE P 26 (.ptr c 0 0) 2)) λej aP=>aD (.bool b) true aP (qr (aj P aP 24 ej)) λdW bq=>aD (.bool b) true bq (λq=>iu (dF P .empty .len [24] [dW]) (dF P bq .len [24] [dW]) q) λef bJ=>aD (.bool b) true bJ (bh (aW P .eql 3 true ef (.int .i64 16))) λfo co=>ab (cX (.bool b) (some fo) (some (.bool false))) λfv=>F fv co)=F (.bool (b&&((n:Int)==16))) H:=by
 cases b
 ·simp-implicitDefEqProofs(disch:=try exact af) only[reduceAdd,reduceLeDiff,reduceIte,aw,Bool.false_and]
 ·simp-implicitDefEqProofs(disch:=try exact af) only[reduceAdd,reduceLeDiff,reduceIte,aw,aS,je,Bool.true_and]
theorem jh.cells(h:jh H0 r c T ak H g s): ∃b9 b8 b_,H.get c=some (.row false 3 [[b9,b8,b_]])/\(∀H',dF P H' .len [22] [b9]=some (.int .i64 g.el.length))/\(∀H',dF P H' .len [23] [b8]=some (.int .i64 g.globals.length))/\(∀H',dF P H' .len [24] [b_]=some (.int .i64 g.funcs.length))/\b9.one=true/\b8.one=true/\b_.one=true:=by
 obtain⟨b9,b8,b_,cG,dh,dL,ai,an,ay,ba,bb,df,cU,b3,-⟩:=h;exact⟨b9,b8,b_,bb,df.uj,cU.qN,b3.uk,df.one,cU.one,b3.one⟩
theorem Kv(n m:Nat):((n:Int)==(m:Int))=(n==m):=by
 by_cases h:n=m
 ·subst h;simp
 ·have:(n:Int)≠(m:Int):=Z;rw[show(n==m)=false by simpa using h];exact beq_eq_false_iff_ne.2 this
theorem J_{N M:Nat}(jA:M<=900000000)(aH:T.length<=20000000){an ay:I}{Q:I->J->Prop}
  (ek: ∀H,jh H0 r c T ak H g' s'->W (xD (aq P ao) N an ay (.ptr r 0 0) (.ptr c 0 0) H) Q):
  ∀(n m:Nat) (H:J) (s:aA) (g:eA),n<m->g.el.length+n<=900000000->g.globals.length+n<=900000000->g.funcs.length+n<=900000000->jh H0 r c T ak H g s->mo T M n g s=some (g',s')->W (vK (aq P ao) N m an ay (.ptr r 0 0) (.ptr c 0 0) H) Q
 |_,0,_,_,_,aU,_,_,_,_,_=>Z
 |0,m+1,_,_,_,_,_,_,_,_,al=>by cases al
 |n+1,m+1,H,s,g,aU,eG,fA,gS,h,al=>by
  rw[mo] at al;rw[vK];unfold Hs;refine a6 (tB h.hU.rd) ?_;rintro _ bm ⟨rfl,rfl⟩;refine⟨bN _,?_⟩;by_cases aY:s.aC=0
  ·have ii:(s.aC==0)=true:=by simpa using aY
   rw[ii,Bool.true_and] at al;simp-implicitDefEqProofs(disch:=try exact af) only[bg,bL,ii];refine gP (nV h.hU.rd h.hU.cf) ?_;rintro _ cT ⟨rfl,bB⟩;refine⟨bB.1,?_⟩;have ae:=h.aK bB;cases ah:((ar T s.at_).kind != 0) with
   |false=>
    rw[ah,bj] at al;cases al;simp-implicitDefEqProofs(disch:=try exact af) only[bg,bL,ee,fH,Tok.v,ah,ii];exact ek _ ae
   |true=>
    rw[ah,bC] at al;simp-implicitDefEqProofs(disch:=try exact af) only[bg,bL,ee,fH,Tok.v,ah,ii];have full: ∀dp,jh H0 r c T ak dp g s->((isRec T s&&g.el.length==12)||((ui T s&&g.globals.length==8)||(isFun T s&&g.funcs.length==16)))=true->W (rR (aq P ao) N (vK (aq P ao) N m) an ay (.ptr r 0 0) (.ptr c 0 0) (.bool true) dp) Q:=λdp aB b0=>by
     rw[b0,bC] at al;exact afm aB λfW aG=>J_ jA aH ek n m fW _ _ Z Z Z Z aG al
    have free: ∀dp,jh H0 r c T ak dp g s->((isRec T s&&g.el.length==12)||((ui T s&&g.globals.length==8)||(isFun T s&&g.funcs.length==16)))=false->W (rR (aq P ao) N (vK (aq P ao) N m) an ay (.ptr r 0 0) (.ptr c 0 0) (.bool false) dp) Q:=λdp aB b0=>by
     rw[b0,bj] at al;exact afl jA aH aB Z Z Z al λfW g1 s1 aG cD cu eH e1=>J_ jA aH ek n m fW _ _ Z Z Z Z aG e1
    refine a6 (gO ae.hU.rd ae.hU.cf [114,101,99,111,114,100] (by simp)) ?_;rintro _ ct ⟨rfl,bK⟩;refine⟨bK.1,?_⟩;have am:=ae.aK bK;obtain⟨b9,b8,b_,aS,fB,n2,jC,eo,eX,lx⟩:=am.cells;rw[Lf aS fB eo,show(12:Int)=((12:Nat):Int) from rfl,Kv];cases cD:cd T s [114,101,99,111,114,100]&&g.el.length==12 with
    |true=>
     simp only[iE,bC];exact full _ am (by rw[show(isRec T s&&g.el.length==12)=true from cD];rfl)
    |false=>
     simp only[iE,bj];refine a6 (gO am.hU.rd am.hU.cf [103,108,111,98,97,108] (by simp)) ?_;rintro _ dp ⟨rfl,c8⟩;refine⟨c8.1,?_⟩;have aB:=am.aK c8;obtain⟨b9,b8,b_,aS,fB,n2,jC,eo,eX,lx⟩:=aB.cells;rw[Lg aS n2 eX,show(8:Int)=((8:Nat):Int) from rfl,Kv];cases cu:cd T s [103,108,111,98,97,108]&&g.globals.length==8 with
     |true=>
      simp only[iE,bC];exact full _ aB (by rw[show(isRec T s&&g.el.length==12)=false from cD,show(ui T s&&g.globals.length==8)=true from cu];rfl)
     |false=>
      simp only[iE,bj];refine a6 (gO aB.hU.rd aB.hU.cf [102,117,110,99] (by simp)) ?_;rintro _ fW ⟨rfl,fc⟩;refine⟨fc.1,?_⟩;have aG:=aB.aK fc;obtain⟨b9,b8,b_,aS,fB,n2,jC,eo,eX,lx⟩:=aG.cells;rw[ahr aS jC lx,show(16:Int)=((16:Nat):Int) from rfl,Kv];cases eH:cd T s [102,117,110,99]&&g.funcs.length==16 with
      |true=>exact full _ aG (by rw[show(isRec T s&&g.el.length==12)=false from cD,show(ui T s&&g.globals.length==8)=false from cu,show(isFun T s&&g.funcs.length==16)=true from eH];rfl)
      |false=>exact free _ aG (by rw[show(isRec T s&&g.el.length==12)=false from cD,show(ui T s&&g.globals.length==8)=false from cu,show(isFun T s&&g.funcs.length==16)=false from eH];rfl)
  ·have ii:(s.aC==0)=false:=by simpa using aY
   rw[ii,Bool.false_and,bj] at al;cases al;simp-implicitDefEqProofs(disch:=try exact af) only[bg,bL,ii];exact ek _ h
end
end
section
theorem afP{ak:I}{T:List Tok}{H:J}(h:ih H ak T):cO P 63 [(0,ak)]=some (.agg [ak,.int .i64 0,.int .i64 0,.int .i64 0,.int .i64 0]):=by
 rcases h with⟨rfl,_⟩|⟨l,i,cap,rfl,_⟩<;>kernel_rfl
section
variable {H:J}
theorem abO(s:bl){g':eA}{s':aA}{M n:Nat}(jA:M<=800000000)(aU:n<=800000000)(bw:(hL s).2.1=0->mo (hL s).1 M n .none ⟨0,0,0,0⟩=some (g',s')):W (aq P ao 9 [.str s] H) (Q_ H (qP s g' s')):=by
 refine cP (λ_=>anh (n+1)) ?_;have en:=(aR.push H (.row false 3 [[.ap,.ap,.ap]])).bX (.row false 2 [[.int .i64 0,.int .i64 0]]);unfold jN;simp-implicitDefEqProofs(disch:=try exact af) only[bg,bL,List.length_cons,List.length_nil,Nat.zero_add,Nat.reduceAdd];refine a6 (aaq s) ?_;rintro _ cT ⟨ak,rfl,wk,bB⟩;refine⟨bB.1,?_⟩;have e7:=bB.get ((aR.push (H.push (.row false 3 [[.ap,.ap,.ap]])) (.row false 2 [[.int .i64 0,.int .i64 0]])).get (J.ca H (.row false 3 [[.ap,.ap,.ap]])));have gG:=bB.get (J.ca (H.push (.row false 3 [[.ap,.ap,.ap]])) (.row false 2 [[.int .i64 0,.int .i64 0]]));have jC:=bB.1;simp only[J.b2] at jC gG
 have Az:= @K3 s;unfold qP;generalize hL s=cf at wk bw Az ⊢;obtain⟨T,aC,cv⟩:=cf;simp only at wk bw Az ⊢;have eE:=aR.push cT (.row false 2 [[.int .i64 aC,.int .i64 cv]]);have gc:=J.ca cT (.row false 2 [[.int .i64 aC,.int .i64 cv]]);have qY:=eE.get e7;have r6:=eE.get gG;have mF:(cT.push (.row false 2 [[.int .i64 aC,.int .i64 cv]])).next=cT.next+1:=by simp only[J.b2]
 have bK:=(en.trans bB).trans eE;have te:=wk.aK eE;by_cases al:aC=0
 ·subst al;have z0:((0:Int) != 0)=false:=rfl;simp-implicitDefEqProofs(disch:=try exact af) only[bg,bL,fH,aj,dx,aQ,dx,Nat.reduceAdd,Nat.reduceLeDiff,reduceIte,I.cells,eF,fu,dB,ee,J.io,z0];generalize cT.push (.row false 2 [[.int .i64 0,.int .i64 cv]])=ct at eE gc qY r6 mF bK te ⊢;obtain⟨aH,az⟩:=Az rfl;have o_:=afP te;have de:=te.one;have ij: ∀l,eK l (.agg [ak,.int .i64 0,.int .i64 0,.int .i64 0,.int .i64 0])=some (.ptr l 0 0,.row false 5 [[ak,.int .i64 0,.int .i64 0,.int .i64 0,.int .i64 0]]):=λl=>h8 l _ (by simp only[List.all_cons,List.all_nil,iF,de,Bool.and_self])
  have eR:=aR.push ct (.row false 5 [[ak,.int .i64 0,.int .i64 0,.int .i64 0,.int .i64 0]]);have gI:=aR.push (ct.push (.row false 5 [[ak,.int .i64 0,.int .i64 0,.int .i64 0,.int .i64 0]])) (.row false 3 [[.ap,.ap,.ap]]);have Zo:=J.ca (ct.push (.row false 5 [[ak,.int .i64 0,.int .i64 0,.int .i64 0,.int .i64 0]])) (.row false 3 [[.ap,.ap,.ap]]);have nS:(ct.push (.row false 5 [[ak,.int .i64 0,.int .i64 0,.int .i64 0,.int .i64 0]])).next=ct.next+1:=by simp only[J.b2]
  rw[nS] at Zo;have fc:=(bK.trans eR).trans gI;have rs:jh H ct.next (ct.next+1) T ak ((ct.push (.row false 5 [[ak,.int .i64 0,.int .i64 0,.int .i64 0,.int .i64 0]])).push (.row false 3 [[.ap,.ap,.ap]])) .none ⟨0,0,0,0⟩:=by
   refine⟨.ap,.ap,.ap,(λ_=>False),(λ_=>False),(λ_=>False),⟨gI.get (J.ca _ _),(te.aK eR).aK gI⟩,?_,gI.get (eR.get qY),gI.get (eR.get r6),Zo,fJ.nil,fJ.nil,fJ.nil,λ_ h=>h.elim,λ_ h=>h.elim,λ_ h=>h.elim,Z,Z,fc.mut _⟩;intro l i m e c bA;rcases te with⟨rfl,_⟩|⟨l',qm,cap,rfl,b0⟩
   ·cases bA
   ·cases bA;obtain⟨ro,els,cD,-⟩:=b0.resolve_left (by rintro rfl;simp at az);exact J.aX cD
  simp-implicitDefEqProofs(disch:=try exact af) only[bg,bL,o_,ij,nS];refine J_ (M:=M) Z aH.n (λfW aG=> ?_) n (n+1) _ _ .none Z (by simp only[eA.none,List.length_nil];omega) (by simp only[eA.none,List.length_nil];omega) (by simp only[eA.none,List.length_nil];omega) rs (bw rfl);obtain⟨b9,b8,b_,cG,dh,dL,ai,an,Ao,Ap,X_,df,cU,b3,bM,c2,c3,cR,dd,fK⟩:=aG;have q2:=ai.rd;unfold c7 at q2;have dG:=df.one;have eM:=cU.one;have iN:=b3.one;have FY:=J.aX Ao;have yB:=J.aX Ap;have arc:=J.aX X_;have ni:aR H fW:=⟨fK.1,λl az=>fK.2 l az Z⟩;unfold xD;refine a6 (tB ai.rd) ?_;rintro _ fX ⟨rfl,rfl⟩;refine⟨bN _,?_⟩;unfold xB
  by_cases aY:s'.aC=0
  ·have mu:(s'.aC==0)=true:=by simpa using aY
   simp-implicitDefEqProofs(disch:=try exact af) only[reduceAdd,reduceLeDiff,reduceIte,aw,mu,Bool.not_true,X_,Ao,Ap,dG,eM,iN];rw[if_pos aY];have iW: ∀ok:Nat->Prop,(∀k,ok k->ct.next+1<k)->eb fX ok ((fX.set H.next (.row false 3 [[b9,b8,b_]])).set (H.next+1) (.row false 2 [[.int .i64 0,.int .i64 0]])) (bI H.next):=λok ah k b bt g=>by
    have:=ah k bt;exact⟨by unfold bI;omega,by rw[J.get_set_other Z,J.get_set_other Z];exact g⟩
   exact a_.2 ⟨b9,b8,b_,rfl,(df.aN).bo (iW cG λk ah=>(bM k ah).1),(cU.aN).bo (iW dh λk ah=>(c2 k ah).1),(b3.aN).bo (iW dL c3),(ni.db (bN _) _).db Z _⟩
  ·have mu:(s'.aC==0)=false:=by simpa using aY
   simp-implicitDefEqProofs(disch:=try exact af) only[reduceAdd,reduceLeDiff,reduceIte,aw,mu,Bool.not_false,q2,Ao,Ap,HM];rw[if_neg aY];exact a_.2 ⟨.ap,.ap,.ap,rfl,eJ.nil,eJ.nil,eJ.nil,(ni.db (bN _) _).db Z _⟩
 ·have z0:(aC != 0)=true:=by simpa using al
  have aoQ:=J.aX qY;have aoR:=J.aX r6;rw[if_neg al];have FY:=J.aX e7;have yB:=J.aX gG;have NB:=en.trans bB;simp-implicitDefEqProofs(disch:=try exact af) only[reduceAdd,reduceLeDiff,reduceIte,aw,J.io,z0,e7,gG,HM];refine a_.2 ⟨.ap,.ap,.ap,rfl,eJ.nil,eJ.nil,eJ.nil,?_⟩
  repeat (first|exact NB|refine aR.bX ?_ _|refine aR.db ?_ Z _)
end
end
section
set_option maxRecDepth 100000
noncomputable section
def zi(G:av)(N:Nat)(H:J):O:=
 some ((.bool true),H)
theorem adt(G:av)(N:Nat): ∀R H,cw P G N (Code.snd (Code.snd (Code.snd (Code.snd (c6 Tryz.f10))))) (bY Tryz.f10) [] (bY Tryz.f10) R H=zi G N H:=by
 refine dj (aL _) λR H=> ?_
 delta zi;kernel_rfl
def BW(G:av)(N:Nat)(hC:I->I->I->J->O)(an ay bu:I)(H:J):O:=
 ab (aE P 26 an 2) λAT=>
 ab (aj P H 24 AT) λnN=>
 bg P .len [24] [nN] H λph=>
 ab (aW P .lss 3 false bu ph) λnc=>
 bO (some nc) (ab (aE P 26 an 2) λqf=>
 ab (aj P H 24 qf) λuR=>
 ab (dS P 24 uR bu) λuS=>
 ab (aj P H 46 uS) λqg=>
 cy H [(.str []),I.ap,(.bool false),(.str []),(.int .i64 0),I.ap,(.int .i64 0)] λbx U=>
 cy U [(.str []),I.ap,(.bool false),(.str []),(.int .i64 0),I.ap,(.int .i64 0)] λbS aa=>
 a7 aa (aQ P aa 46 bx qg) λae=>
 ab (aE P 26 ay 2) λq8=>
 ab (aj P ae 24 q8) λq9=>
 ab (dS P 24 q9 bu) λiy=>
 ab (aj P ae 46 iy) λqh=>
 a7 ae (aQ P ae 46 bS qh) λam=>
 bif ((cj (aj P H 24 qf) uR&&(cj (aj P U 24 qf) uR&&(cj (aj P aa 24 qf) uR&&true)))&&((cj (aj P H 46 uS) qg&&(cj (aj P U 46 uS) qg&&(cj (aj P aa 46 uS) qg&&true)))&&((cj (aj P H 24 q8) q9&&(cj (aj P U 24 q8) q9&&(cj (aj P aa 24 q8) q9&&(cj (aj P ae 24 q8) q9&&true))))&&((cj (aj P H 46 iy) qh&&(cj (aj P U 46 iy) qh&&(cj (aj P aa 46 iy) qh&&(cj (aj P ae 46 iy) qh&&true))))&&true)))) then(ab (aE P 46 bx 0) λyu=>
 ab (aj P am 9 yu) λNJ=>
 ab (aE P 46 bS 0) λwx=>
 ab (aj P am 9 wx) λuT=>
 ab (aW P .neq 9 false NJ uT) λoI=>
 aD oI false am (bh (aE P 46 bx 1)) λAW aB=>
 aD oI false aB (qr (aj P aB 23 AW)) λFK aG=>
 aD oI false aG (bh (aE P 46 bS 1)) λFL aP=>
 aD oI false aP (qr (aj P aP 23 FL)) λapb bq=>
 aD oI false bq (λq=>fk bq (G 33 [FK,apb] bq) q) λAX bJ=>
 aD oI false bJ (bh (eY .not AX)) λNL co=>
 ab (cX oI (some (.bool true)) (some NL)) λqi=>
 aD qi false co (bh (aE P 46 bx 2)) λr4 ds=>
 aD qi false ds (qr (aj P ds 4 r4)) λAh dV=>
 aD qi false dV (bh (aE P 46 bS 2)) λEP eN=>
 aD qi false eN (qr (aj P eN 4 EP)) λCL fI=>
 aD qi false fI (bh (aW P .neq 4 false Ah CL)) λx9 f0=>
 ab (cX qi (some (.bool true)) (some x9)) λr5=>
 aD r5 false f0 (bh (aE P 46 bx 3)) λAi hk=>
 aD r5 false hk (qr (aj P hk 43 Ai)) λEQ iv=>
 aD r5 false iv (bh (aE P 46 bS 3)) λER hZ=>
 aD r5 false hZ (qr (aj P hZ 43 ER)) λES mv=>
 aD r5 false mv (bh (aW P .neq 43 false EQ ES)) λET jq=>
 ab (cX r5 (some (.bool true)) (some ET)) λvX=>
 aD vX false jq (bh (aE P 46 bx 4)) λanm ja=>
 aD vX false ja (qr (aj P ja 44 anm)) λH4 oB=>
 aD vX false oB (bh (aE P 46 bS 4)) λEU jI=>
 aD vX false jI (qr (aj P jI 44 EU)) λAj o8=>
 aD vX false o8 (λq=>fk o8 (G 34 [H4,Aj] o8) q) λvY lX=>
 aD vX false lX (bh (eY .not vY)) λEV mT=>
 ab (cX vX (some (.bool true)) (some EV)) λEW=>
 bO (some EW) (some ((.bool false),mT)) (ab (aW P .add 3 true bu (.int .i64 1)) λww=>
 hC an ay ww mT)) else none) (zi G N H)
def vg(G:av)(N:Nat):Nat->I->I->I->J->O
 |0,_,_,_,_=>none
 |n+1,an,ay,bu,H=>BW G N (vg G N n) an ay bu H
theorem adq(G:av)(N:Nat)(hC:I->I->I->J->O): ∀R H,cw P G N (Code.fst (Code.fst (Code.snd (Code.fst (Code.snd (Code.snd (Code.snd (c6 Tryz.f10)))))))) (λR H=>hC (R 2) (R 3) (R 6) H) [(2,(λR H=>zi G N H))] (bY Tryz.f10) R H=BW G N hC (R 2) (R 3) (R 6) H:=by
 refine dj (aL _) λR H=> ?_
 delta BW;generalize zi G N=a1;revert a1;refine id ?_;intro a1;kernel_rfl
def vf(G:av)(N:Nat)(an ay:I)(H:J):O:=
 vg G N N an ay (.int .i64 0) H
theorem ads(G:av)(N:Nat): ∀R H,cw P G N (Code.snd (Code.snd (Code.snd (c6 Tryz.f10)))) (bY Tryz.f10) [] (bY Tryz.f10) R H=vf G N (R 2) (R 3) H:=by
 refine dj ((bk ad (adt G N) ((bk ad ((fy ad ((gg (k:=λm R H=>vg G N m (R 2) (R 3) (R 6) H) ad (λR H=>ad) (λm=>adq G N (vg G N m)))))) (aL _))))) λR H=> ?_
 delta vf;generalize vg G N N=a1;revert a1;refine id ?_;intro a1;kernel_rfl
def BX(G:av)(N:Nat)(jM:I->I->I->J->O)(an ay bb:I)(H:J):O:=
 ab (aE P 26 an 0) λfh=>
 ab (aj P H 22 fh) λej=>
 bg P .len [22] [ej] H λdW=>
 ab (aW P .lss 3 false bb dW) λef=>
 bO (some ef) (ab (aE P 26 an 0) λfi=>
 ab (aj P H 22 fi) λfU=>
 ab (dS P 22 fU bb) λgM=>
 ab (aE P 41 gM 0) λe4=>
 ab (aj P H 9 e4) λgR=>
 ab (aE P 26 ay 0) λgB=>
 ab (aj P H 22 gB) λhB=>
 ab (dS P 22 hB bb) λh6=>
 ab (aE P 41 h6 0) λix=>
 ab (aj P H 9 ix) λhQ=>
 ab (aW P .neq 9 false gR hQ) λgk=>
 dZ gk false (bh (aE P 26 an 0)) λeQ=>
 dZ gk false (qr (aj P (eQ.heap H) 22 eQ.val)) λfN=>
 dZ gk false (di bb) λgu=>
 dZ gk false (bh (dS P 22 fN.val gu.val)) λgj=>
 dZ gk false (bh (aE P 41 gj.val 1)) λf_=>
 dZ gk false (qr (aj P (f_.heap (gj.heap (gu.heap (fN.heap (eQ.heap H))))) 23 f_.val)) λgQ=>
 dZ gk false (bh (aE P 26 ay 0)) λgx=>
 dZ gk false (qr (aj P (gx.heap (gQ.heap (f_.heap (gj.heap (gu.heap (fN.heap (eQ.heap H))))))) 22 gx.val)) λhb=>
 dZ gk false (di bb) λgZ=>
 dZ gk false (bh (dS P 22 hb.val gZ.val)) λhi=>
 dZ gk false (bh (aE P 41 hi.val 1)) λg_=>
 dZ gk false (qr (aj P (g_.heap (hi.heap (gZ.heap (hb.heap (gx.heap (gQ.heap (f_.heap (gj.heap (gu.heap (fN.heap (eQ.heap H))))))))))) 23 g_.val)) λhY=>
 dZ gk false (λq=>fk (hY.heap (g_.heap (hi.heap (gZ.heap (hb.heap (gx.heap (gQ.heap (f_.heap (gj.heap (gu.heap (fN.heap (eQ.heap H)))))))))))) (G 33 [gQ.val,hY.val] (hY.heap (g_.heap (hi.heap (gZ.heap (hb.heap (gx.heap (gQ.heap (f_.heap (gj.heap (gu.heap (fN.heap (eQ.heap H))))))))))))) q) λiR=>
 dZ gk false (bh (eY .not iR.val)) λiS=>
 ab (cX gk (some (.bool true)) (some iS.val)) λfD=>
 bif oW [0,1,0,7,15,31,0,64,0,448,960,1984,4095,8191,16383,32767,16383,131071,262143,524287,16383,1064959,16383,7356415,15745023,32522239,67108863,134217727,268435455] [0,1,2,3,4,5,6,7,8,9,10,11,12,13,14,15,16,17,18,19,20,21,22,23,24,25,26,27,28] [⟨0,(.pure fi),λH=>none⟩,⟨1,(.read fU),λH=>aj P H 22 fi⟩,⟨2,(.pure bb),λH=>none⟩,⟨3,(.pure gM),λH=>none⟩,⟨4,(.pure e4),λH=>none⟩,⟨5,(.read gR),λH=>aj P H 9 e4⟩,⟨6,(.pure gB),λH=>none⟩,⟨7,(.read hB),λH=>aj P H 22 gB⟩,⟨8,(.pure bb),λH=>none⟩,⟨9,(.pure h6),λH=>none⟩,⟨10,(.pure ix),λH=>none⟩,⟨11,(.read hQ),λH=>aj P H 9 ix⟩,⟨12,(.pure gk),λH=>none⟩,⟨13,(.pure gk),λH=>none⟩,⟨14,eQ,λH=>none⟩,⟨15,fN,λH=>aj P H 22 eQ.val⟩,⟨16,gu,λH=>none⟩,⟨17,gj,λH=>none⟩,⟨18,f_,λH=>none⟩,⟨19,gQ,λH=>aj P H 23 f_.val⟩,⟨20,gx,λH=>none⟩,⟨21,hb,λH=>aj P H 22 gx.val⟩,⟨22,gZ,λH=>none⟩,⟨23,hi,λH=>none⟩,⟨24,g_,λH=>none⟩,⟨25,hY,λH=>aj P H 23 g_.val⟩,⟨26,iR,λH=>none⟩,⟨27,iS,λH=>none⟩,⟨28,(.pure fD),λH=>none⟩] H then(bO (some fD) (some ((.bool false),(iS.heap (iR.heap (hY.heap (g_.heap (hi.heap (gZ.heap (hb.heap (gx.heap (gQ.heap (f_.heap (gj.heap (gu.heap (fN.heap (eQ.heap H)))))))))))))))) (ab (aW P .add 3 true bb (.int .i64 1)) λfv=>
 jM an ay fv (iS.heap (iR.heap (hY.heap (g_.heap (hi.heap (gZ.heap (hb.heap (gx.heap (gQ.heap (f_.heap (gj.heap (gu.heap (fN.heap (eQ.heap H)))))))))))))))) else none) (vf G N an ay H)
def sI(G:av)(N:Nat):Nat->I->I->I->J->O
 |0,_,_,_,_=>none
 |n+1,an,ay,bb,H=>BX G N (sI G N n) an ay bb H
theorem adr(G:av)(N:Nat)(jM:I->I->I->J->O): ∀R H,cw P G N (Code.fst (Code.fst (Code.snd (Code.fst (Code.snd (Code.snd (c6 Tryz.f10))))))) (λR H=>jM (R 2) (R 3) (R 5) H) [(0,(λR H=>vf G N (R 2) (R 3) H))] (bY Tryz.f10) R H=BX G N jM (R 2) (R 3) (R 5) H:=by
 refine dj (aL _) λR H=> ?_
 delta BX;generalize vf G N=a1;revert a1;refine id ?_;intro a1;kernel_rfl
def It(G:av)(N:Nat)(Y ai:I)(H:J):O:=
 dv H (eK (H).next Y) λan U=>
 dv U (eK (U).next ai) λay aa=>
 ab (aE P 26 an 0) λbE=>
 ab (aj P aa 22 bE) λcq=>
 bg P .len [22] [cq] aa λb1=>
 ab (aE P 26 ay 0) λcb=>
 ab (aj P aa 22 cb) λb6=>
 bg P .len [22] [b6] aa λbT=>
 ab (aW P .neq 3 false b1 bT) λbW=>
 aD bW false aa (bh (aE P 26 an 2)) λcc ae=>
 aD bW false ae (qr (aj P ae 24 cc)) λcK am=>
 aD bW false am (λq=>iu (dF P .empty .len [24] [cK]) (dF P am .len [24] [cK]) q) λcM aB=>
 aD bW false aB (bh (aE P 26 ay 2)) λcA aG=>
 aD bW false aG (qr (aj P aG 24 cA)) λcx aP=>
 aD bW false aP (λq=>iu (dF P .empty .len [24] [cx]) (dF P aP .len [24] [cx]) q) λcz bq=>
 aD bW false bq (bh (aW P .neq 3 false cM cz)) λcH bJ=>
 ab (cX bW (some (.bool true)) (some cH)) λc1=>
 aD c1 false bJ (bh (aE P 26 an 1)) λdt co=>
 aD c1 false co (qr (aj P co 23 dt)) λdc ds=>
 aD c1 false ds (bh (aE P 26 ay 1)) λdT dV=>
 aD c1 false dV (qr (aj P dV 23 dT)) λdJ eN=>
 aD c1 false eN (λq=>fk eN (G 33 [dc,dJ] eN) q) λcF fI=>
 aD c1 false fI (bh (eY .not cF)) λeC f0=>
 ab (cX c1 (some (.bool true)) (some eC)) λdy=>
 bO (some dy) (some ((.bool false),f0)) (sI G N N an ay (.int .i64 0) f0)
theorem aiH(G:av)(N:Nat)(Y:I)(ai:I)(H:J):bn Tryz.f10 G N (cB [Y,ai]) H=It G N Y ai H:=by
 refine cL (A:=bn Tryz.f10 G N) ((bk ad ((bk ad ((bk ad (ads G N) ((bk ad ((fy ad ((gg (k:=λm R H=>sI G N m (R 2) (R 3) (R 5) H) ad (λR H=>ad) (λm=>adr G N (sI G N m)))))) (aL _))))) (aL _))) (aL _))) ?_;delta It;generalize sI G N N=a1;revert a1;refine id ?_;intro a1;kernel_rfl
theorem akK(N:Nat){Y ai:I}{H:J}{r:I×J}(h:It (aq P ao) N Y ai H=some r):aq P ao 10 [Y,ai] H=some r:=
 cQ ad Tryz.func10 ad ad ad ((aiH (aq P ao) N Y ai H).trans h)
def vn(G:av)(N:Nat)(H:J):O:=
 some ((.bool true),H)
theorem adO(G:av)(N:Nat): ∀R H,cw P G N (Code.snd (Code.snd (Code.snd (c6 Tryz.f33)))) (bY Tryz.f33) [] (bY Tryz.f33) R H=vn G N H:=by
 refine dj (aL _) λR H=> ?_
 delta vn;kernel_rfl
def zq(G:av)(N:Nat)(bD:I->I->I->J->O)(Y ai bb:I)(H:J):O:=
 bg P .len [23] [Y] H λb6=>
 ab (aW P .lss 3 false bb b6) λbT=>
 bO (some bT) (ab (dS P 23 Y bb) λcM=>
 ab (aE P 66 cM 0) λcA=>
 ab (aj P H 9 cA) λcx=>
 ab (dS P 23 ai bb) λc1=>
 ab (aE P 66 c1 0) λdn=>
 ab (aj P H 9 dn) λdt=>
 ab (aW P .neq 9 false cx dt) λdc=>
 aD dc false H (di Y) λdJ U=>
 aD dc false U (di bb) λcF aa=>
 aD dc false aa (bh (dS P 23 dJ cF)) λeC ae=>
 aD dc false ae (bh (aE P 66 eC 1)) λdy am=>
 aD dc false am (qr (aj P am 43 dy)) λei aB=>
 aD dc false aB (di ai) λfh aG=>
 aD dc false aG (di bb) λej aP=>
 aD dc false aP (bh (dS P 23 fh ej)) λdW bq=>
 aD dc false bq (bh (aE P 66 dW 1)) λef bJ=>
 aD dc false bJ (qr (aj P bJ 43 ef)) λfo co=>
 aD dc false co (bh (aW P .neq 43 false ei fo)) λfv ds=>
 ab (cX dc (some (.bool true)) (some fv)) λfi=>
 bO (some fi) (some ((.bool false),ds)) (ab (aW P .add 3 true bb (.int .i64 1)) λbG=>
 bD Y ai bG ds)) (vn G N H)
def tT(G:av)(N:Nat):Nat->I->I->I->J->O
 |0,_,_,_,_=>none
 |n+1,Y,ai,bb,H=>zq G N (tT G N n) Y ai bb H
theorem adN(G:av)(N:Nat)(bD:I->I->I->J->O): ∀R H,cw P G N (Code.fst (Code.fst (Code.snd (Code.fst (Code.snd (Code.snd (c6 Tryz.f33))))))) (λR H=>bD (R 0) (R 1) (R 5) H) [(0,(λR H=>vn G N H))] (bY Tryz.f33) R H=zq G N bD (R 0) (R 1) (R 5) H:=by
 refine dj (aL _) λR H=> ?_
 delta zq;generalize vn G N=a1;revert a1;refine id ?_;intro a1;kernel_rfl
def AO(G:av)(N:Nat)(Y ai:I)(H:J):O:=
 bg P .len [23] [Y] H λbx=>
 bg P .len [23] [ai] H λbE=>
 ab (aW P .neq 3 false bx bE) λcq=>
 bO (some cq) (some ((.bool false),H)) (tT G N N Y ai (.int .i64 0) H)
theorem ai2(G:av)(N:Nat)(Y:I)(ai:I)(H:J):bn Tryz.f33 G N (cB [Y,ai]) H=AO G N Y ai H:=by
 refine cL (A:=bn Tryz.f33 G N) ((bk ad ((bk ad ((bk ad (adO G N) ((bk ad ((fy ad ((gg (k:=λm R H=>tT G N m (R 0) (R 1) (R 5) H) ad (λR H=>ad) (λm=>adN G N (tT G N m)))))) (aL _))))) (aL _))) (aL _))) ?_;delta AO;generalize tT G N N=a1;revert a1;refine id ?_;intro a1;kernel_rfl
theorem ak5(N:Nat){Y ai:I}{H:J}{r:I×J}(h:AO (aq P ao) N Y ai H=some r):aq P ao 33 [Y,ai] H=some r:=
 cQ ad Tryz.func33 ad ad ad ((ai2 (aq P ao) N Y ai H).trans h)
end
end
section
theorem ac8(x y:Bool):Option.map (λb=>I.bool (!b)) (bif x then(bif y then some true else some false) else some false)=some (.bool (!(x&&y))):=by cases x<;>cases y<;>rfl
theorem Hp(a b:bl)(c d:Int):aW P .neq 43 false (.agg [.str a,.int .i64 c]) (.agg [.str b,.int .i64 d])=some (.bool (!(a==b&&c==d))):=
 Eq.trans ad (ac8 (a==b) (c==d))
theorem Vv{N:Nat}{l m:List ec}(az:l.length<=1000000000)(hm:l.length=m.length){f7 g7 gW li:Nat}{kc lc:Option Nat}{ju jv:Bool}{hc hd:List (List I)}{H:J}{ok ok':Nat->Prop}(aG:H.get f7=some (.row ju 4 hc))(aP:H.get gW=some (.row jv 4 hd))(aI: ∀(j:Nat) (a:ec),l[j]? =some a-> ∃cs,hc[g7+j]? =some cs/\fz.V H ok a cs)(bc: ∀(j:Nat) (a:ec),m[j]? =some a-> ∃cs,hd[li+j]? =some cs/\fz.V H ok' a cs):
  ∀(c j n:Nat),j+c=l.length->c<n->
  W (tT (aq P ao) N n (.aN f7 g7 l.length 4 kc) (.aN gW li m.length 4 lc) (.int .i64 j) H) λr H'=>r= .bool (gL jD (l.drop j) (m.drop j))/\H'=H
 |_,_,0,_,aU=>Z
 |0,j,n+1,aS,aU=>by
  have bH: ¬((j:Int)<(l.length:Int)):=Z;have d1:l.drop j=[]:=List.drop_eq_nil_of_le Z;have d2:m.drop j=[]:=List.drop_eq_nil_of_le Z;simp-implicitDefEqProofs(disch:=try exact af) only[tT,vn,zq,AO,reduceAdd,reduceLeDiff,reduceIte,aw,bH,decide_false];exact a_.2 ⟨by rw[d1,d2];rfl,rfl⟩
 |c+1,j,n+1,aS,aU=>by
  have jK:j<l.length:=Z;have nH:j<m.length:=Z;have bH:(j:Int)<(l.length:Int):=Z;have qb:(j:Int)<(m.length:Int):=Z;have aY:(0:Int)<=(j:Int):=Z;have bz:((j:Int)).toNat=j:=Z;obtain⟨cs,g1,g2⟩:=aI j l[j] (List.getElem?_eq_getElem jK);obtain⟨bU,g4,g5⟩:=bc j m[j] (List.getElem?_eq_getElem nH);obtain rfl:cs=l[j].cells:=g2;obtain rfl:bU=m[j].cells:=g5;have hw:IntKind.i64.wrap ((j:Int)+1)=((j+1:Nat):Int):=by rw[wrap_i64 Z Z];omega
  have dl:l.drop j=l[j]::l.drop (j+1):=List.drop_eq_getElem_cons jK;have ql:m.drop j=m[j]::m.drop (j+1):=List.drop_eq_getElem_cons nH;rw[dl,ql,gL];generalize l[j]=a at g1 ⊢;generalize m[j]=b at g4 ⊢;simp only[ec.cells] at g1 g4;have go:jD a b=true->W (tT (aq P ao) N n (.aN f7 g7 l.length 4 kc) (.aN gW li m.length 4 lc) (.int .i64 ((j+1:Nat):Int)) H) λr H'=>r= .bool (jD a b&&gL jD (l.drop (j+1)) (m.drop (j+1)))/\H'=H:=λaM=>by
   rw[aM,Bool.true_and];exact Vv az hm aG aP aI bc c (j+1) n Z Z
  have aM:jD a b=(a.name==b.name&&(a.eV==b.eV&&a.fT==b.fT)):=rfl;rw[tT];unfold zq;cases c0:a.name==b.name with
  |false=>
   rw[c0,Bool.false_and] at aM;simp-implicitDefEqProofs(disch:=try exact af) only[reduceAdd,reduceLeDiff,reduceIte,aw,bH,qb,decide_true,bz,aG,aP,g1,g4,c0,Bool.not_false];exact a_.2 ⟨by rw[aM,Bool.false_and],rfl⟩
  |true=>
   rw[c0,Bool.true_and] at aM;cases bM:(a.eV==b.eV&&a.fT==b.fT) with
   |false=>
    simp-implicitDefEqProofs(disch:=try exact af) only[reduceAdd,reduceLeDiff,reduceIte,aw,bH,qb,decide_true,bz,aG,aP,g1,g4,c0,Hp,bM,Bool.not_false,Bool.not_true];exact a_.2 ⟨by rw[aM,bM,Bool.false_and],rfl⟩
   |true=>
    simp-implicitDefEqProofs(disch:=try exact af) only[reduceAdd,reduceLeDiff,reduceIte,aw,bH,qb,decide_true,bz,aG,aP,g1,g4,c0,Hp,bM,Bool.not_true,hw];exact go (by rw[aM,bM])
theorem Jj{H:J}{l m:List ec}(az:l.length<=1000000000){v w:I}{ok ok':Nat->Prop}(U:eJ fz H ok l v)(aa:eJ fz H ok' m w):W (aq P ao 33 [v,w] H) λr H'=>r= .bool (gL jD l m)/\H'=H:=by
 refine cP (λ_=>ak5 (l.length+1)) ?_;have bM:=λH'=>U.qN H'
 have c2:=λH'=>aa.qN H'
 have z0:((0:Nat):Int)=0:=rfl;by_cases aU:l.length=m.length
 ·by_cases cn:l.length=0
  ·have lq:m.length=0:=Z;obtain rfl:=List.length_eq_zero_iff.1 cn;obtain rfl:=List.length_eq_zero_iff.1 lq;simp-implicitDefEqProofs(disch:=try exact af) only[tT,vn,zq,AO,reduceAdd,reduceLeDiff,reduceIte,aw,bM,c2,List.length_nil,z0,bne_self_eq_false,Int.lt_irrefl,decide_false];exact a_.2 ⟨rfl,rfl⟩
  ·obtain⟨eG,i1,cG,gm,o7,rfl,g1,eo⟩:=U.row cn;obtain⟨fA,i2,dh,e0,qW,rfl,g2,eX⟩:=aa.row Z;have wj:((l.length:Int) != (m.length:Int))=false:=by simp;omega
   have ht:fz.esz=4:=rfl;rw[ht] at bM c2 g1 g2 ⊢;simp-implicitDefEqProofs(disch:=try exact af) only[vn,AO,bg,bg,bL,ee,bM,c2,wj];have:=Vv (N:=l.length+1) az aU (kc:=cG) (lc:=dh) g1 g2 eo eX l.length 0 (l.length+1) Z Z;simpa using this
 ·have hz:((l.length:Int) != (m.length:Int))=true:=by simp;omega
  simp-implicitDefEqProofs(disch:=try exact af) only[vn,zq,AO,bg,bg,bL,ee,bM,c2,hz];exact a_.2 ⟨by rw[wS _ _ aU],rfl⟩
end
end Go.Proofs.YtghmbpmaafnodaaGreatDoor
