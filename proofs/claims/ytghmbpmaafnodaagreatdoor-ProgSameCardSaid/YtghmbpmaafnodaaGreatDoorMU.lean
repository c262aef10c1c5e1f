/-
  Texts of one proof, laid together: V3 Rh Ri Rj Rk Rl Rm Rn Ro ShPb Rp.
-/
import Derived.Test.YtghmbpmaafnodaaGreatDoorMT
import Derived.Test.YtghmbpmaafnodaaGreatDoorMR
import Derived.Test.YtghmbpmaafnodaaGreatDoorMD
import Derived.Test.YtghmbpmaafnodaaGreatDoorMS
set_option linter.unusedVariables false
set_option linter.unusedSimpArgs false
namespace Go.Proofs.YtghmbpmaafnodaaGreatDoor
open Go.f7
open Nat (reduceAdd reduceLeDiff)
section
section
variable {H0 H:J}{r b3 ez:Nat}{T:List Tok}{aj:I}{s0 s:aw}{t:Tok}
theorem amZ{a:dv}{ev bv fu v:I}(g:H.get ez=some (.row false 9 [a.cells ev bv fu]))(o:v.one=true):aQ P H 44 (.ptr ez 0 5) v=some (H.set ez (.row false 9 [a.cells ev v fu])):=by
 rw[LG CI g rfl (by rw[j_ o];rfl) (by rw[j_ o,List.all_cons,o];rfl) cl,j_ o];rfl
theorem am0{a:dv}{ev bv fu v:I}(g:H.get ez=some (.row false 9 [a.cells ev bv fu]))(o:v.one=true):aQ P H 44 (.ptr ez 0 6) v=some (H.set ez (.row false 9 [a.cells ev bv v])):=by
 rw[LG CI g rfl (by rw[j_ o];rfl) (by rw[j_ o,List.all_cons,o];rfl) cl,j_ o];rfl
theorem ag6(aH:T.length<=20000000)(bt:c8 H0 r T aj s0)(b:j7 H0 H r b3 ez aj t s (dv.cells {kind:=0,pos:=t.pos} .an .an .an))(b9:h9 H0 aj T):
  W (vx (au P ao) (.ptr r 0 0) (.ptr H0.next 0 0) (.ptr b3 0 0) (.ptr ez 0 0) (.bool true) H) (gE H0 r T aj ((bif t.text==[108,101,116] then ul T (aE s) else uk T (aE s)).1.at t.pos) (bif t.text==[108,101,116] then ul T (aE s) else uk T (aE s)).2):=by
 have ax:=bt.rd.lt;have df:=bt.b9.one;have eM:=b.gL;have eB:=b.hO;obtain⟨m1,d1⟩:=hT b.rd (aE s);have c_:=(b.mut ax m1 d1).set ax (dv.cells {kind:=1,pos:=t.pos} .an .an .an);have a7:=b.rd;unfold c1 at a7;have g4:=b.g4;have oP:=b.rd.lt;have hO:=J.aW g4;simp only[dv.cells] at g4;simp-implicitDefEqProofs(disch:=try exact ag) only[vx,reduceAdd,reduceLeDiff,reduceIte,az,ea,a7,df,g4];refine aY (wK (bt.mut c_.m c_.rd)) ?_;rintro _ cQ ⟨rfl,m3,eY⟩;refine⟨m3.1,?_⟩;have cD:=c_.mut ax m3 eY.rd;have MT:=cD.set ax (dv.cells {kind:=1,name:=(da T (aE s)).1,pos:=t.pos} .an .an .an);have gd:=cD.g4;have NQ:=J.aW gd
 simp only[dv.cells] at gd;simp-implicitDefEqProofs(disch:=try exact ag) only[reduceAdd,reduceLeDiff,reduceIte,az,ea,gd];refine aY (ly (bt.mut MT.m MT.rd) [58] (by simp)) ?_;rintro _ dc ⟨rfl,m5,ff⟩;refine⟨m5.1,?_⟩;have Oc:=MT.mut ax m5 ff.rd;refine aY (DS ff) ?_;rintro _ fX ⟨rfl,m6,hC⟩;refine⟨m6.1,?_⟩;have rj:=Oc.mut ax m6 hC.rd;have Yo:=rj.set ax (dv.cells {kind:=1,name:=(da T (aE s)).1,eQ:=(e5 T (cq T [58] (da T (aE s)).2)).1.1,fS:=(e5 T (cq T [58] (da T (aE s)).2)).1.2,pos:=t.pos} .an .an .an);have jT:=rj.g4;have dP:=rj.g3;have arY:=J.aW jT;simp only[dv.cells] at jT;unfold ul uk fN;generalize e5 T (cq T [58] (da T (aE s)).2)=o at*
 generalize da T (aE s)=nm at*;cases bC:t.text==[108,101,116] with
 |false=>
  simp-implicitDefEqProofs(disch:=try exact ag) only[reduceAdd,reduceLeDiff,reduceIte,az,ea,jT,dP,bC];exact Ri bt Yo (dO.nil _ _)
 |true=>
  have si:=Yo.set ax (dv.cells {kind:=2,name:=nm.1,eQ:=o.1.1,fS:=o.1.2,pos:=t.pos} .an .an .an);rw[J.set_set] at si;simp-implicitDefEqProofs(disch:=try exact ag) only[reduceAdd,reduceLeDiff,reduceIte,az,ea,jT,dP,bC];refine aY (ly (bt.mut si.m si.rd) [61] (by simp)) ?_;rintro _ jG ⟨rfl,m8,oK⟩;refine⟨m8.1,?_⟩;have uV:=si.mut ax m8 oK.rd;refine aY (Bp aH oK) ?_;rintro v gK ⟨m9,qo,he⟩;refine⟨m9.1,?_⟩;have iH:=uV.mut ax m9 qo.rd;obtain⟨cs,rfl,bJ,cZ⟩:=he.cells;have aO: ∀l,dH P l 96 1 [(0,.agg cs)]=some (.aM l 0 1 11 (some 1),.row false 11 [cs]):=λl=>jK l cs bJ cZ
  have Om:=iH.g4;have ar0:=J.aW Om;have ZY:=J.aW uV.g4;obtain⟨kq,py⟩:=j7.expr ax (c':=dv.cells {kind:=2,name:=nm.1,eQ:=o.1.1,fS:=o.1.2,pos:=t.pos} (.aM gK.next 0 1 11 (some 1)) .an .an) iH (ec.bo (e_.q9 λl h=>by unfold bG at*;first|omega|(simp only[J.e9] at*;omega)) _ _ he) rfl;simp only[dv.cells] at Om;simp-implicitDefEqProofs(disch:=try exact ag) only[reduceAdd,reduceLeDiff,reduceIte,az,ea,aO,Om,J.h8];exact Ri bt kq py
theorem VN{n:Nat}(aT:GG n)(aH:T.length<=20000000)(bt:c8 H0 r T aj s0)(b:j7 H0 H r b3 ez aj t s (dv.cells {kind:=0,pos:=t.pos} .an .an .an)){sk:Int}{e:bh}{c_:List cy}{s1 s2:aw}(ah:sk=5\/sk=6)(fQ:dx T (aE s)=(e,s1))(ay:jX T n s1=some (c_,s2))
  {Q:I->J->Prop} {k:I->J->O} (bg: ∀(dU:J) (ev bv:I),j7 H0 dU r b3 ez aj t s2 (dv.cells {kind:=sk,pos:=t.pos} ev bv .an)->dO dU (bG (ez+1)) [e] ev->eC dU (bG (ez+1)) c_ bv->W (k (.tuple []) dU) Q):
  W (ab (b7 (.ptr r 0 0)) λh1=>ab (aF P 63 h1 1) λhV=>ab (am P H 3 hV) λgx=>ab (aZ P .add 3 true gx (.int .i64 1)) λkm=>ab (b7 (.ptr r 0 0)) λjQ=>ab (aF P 63 jQ 1) λiR=>
   a1 H (aQ P H 3 iR km) λaa=>ab (aF P 98 (.ptr ez 0 0) 0) λnL=>a1 aa (aQ P aa 3 nL (.int .i64 sk)) λae=>aL ae (au P ao 109 [.ptr r 0 0,.int .i64 0] ae) λkR al=>dA al (dH P al.next 96 1 [(0,kR)]) λnM aB=>
   ab (aF P 98 (.ptr ez 0 0) 3) λjF=>a1 aB (aQ P aB 96 jF nM) λaG=>aL aG (au P ao 61 [.ptr r 0 0] aG) λjR aP=>ab (aF P 98 (.ptr ez 0 0) 4) λlq=>a1 aP (aQ P aP 44 lq jR) λbn=>k (.tuple []) bn) Q:=by
 have ax:=bt.rd.lt;have df:=bt.b9.one;have eM:=b.gL;have eB:=b.hO;obtain⟨m1,d1⟩:=hT b.rd (aE s);have Ic:=(b.mut ax m1 d1).set ax (dv.cells {kind:=sk,pos:=t.pos} .an .an .an);have a7:=b.rd;unfold c1 at a7;have g4:=b.g4;have oP:=b.rd.lt;have hO:=J.aW g4;simp only[dv.cells] at g4;simp-implicitDefEqProofs(disch:=try exact ag) only[reduceAdd,reduceLeDiff,reduceIte,az,ea,a7,df,g4];refine aY (Bp aH (bt.mut Ic.m Ic.rd)) ?_;rintro v cu ⟨m4,fa,he⟩;refine⟨m4.1,?_⟩;rw[fQ] at fa he;have Yn:=Ic.mut ax m4 fa.rd;obtain⟨cs,rfl,bJ,cZ⟩:=he.cells;have aO: ∀l,dH P l 96 1 [(0,.agg cs)]=some (.aM l 0 1 11 (some 1),.row false 11 [cs]):=λl=>jK l cs bJ cZ
 have gd:=Yn.g4;have NQ:=J.aW gd;have yy:=J.aW Ic.g4;obtain⟨kq,py⟩:=j7.expr ax (c':=dv.cells {kind:=sk,pos:=t.pos} (.aM cu.next 0 1 11 (some 1)) .an .an) Yn (ec.bo (e_.q9 λl h=>by unfold bG at*;first|omega|(simp only[J.e9] at*;omega)) _ _ he) rfl;have aqo:ez<((cu.set ez (.row false 9 [dv.cells {kind:=sk,pos:=t.pos} (.aM cu.next 0 1 11 (some 1)) .an .an])).push (.row false 11 [cs])).next:=J.aW kq.g4
 simp only[dv.cells] at gd aqo;simp-implicitDefEqProofs(disch:=try exact ag) only[reduceAdd,reduceLeDiff,reduceIte,az,ea,aO,gd,J.h8];refine aY (aT aH (bt.mut kq.m kq.rd) c_ s2 ay) ?_;rintro bv fY ⟨m7,oJ,uC⟩;refine⟨m7.1,?_⟩;have si:=kq.mut ax m7 oJ.rd;have apR:=py.bo (e_.mut m7 (ok':=bG (ez+1)) (by unfold bG;omega) λ_ h=>h);have aow:eC fY (bG (ez+1)) c_ bv:=uC.bo (fD.q9 λl h=>by unfold bG at*;simp only[dv.cells] at h;omega);have nX:=uC.gq;have st:=amZ si.g4 nX;have arZ:=J.aW si.g4;simp-implicitDefEqProofs(disch:=try exact ag) only[bj,bO,fE,Nat.zero_add];rw[st,lx (by simp only[J.e9];omega)];have bR:fD fY (bG (ez+1)) (fY.set ez (.row false 9 [dv.cells {kind:=sk,pos:=t.pos} (.aM cu.next 0 1 11 (some 1)) bv .an])) (bG (ez+1)):=fD.set _ (by unfold bG;omega) λ_ h=>h
 exact bg _ _ _ (si.set ax _) (apR.bo bR.ex) (aow.bo bR)
end
theorem acw{n:Nat}(aT:GG n):GP (n+1):=by
 intro H r T aj s aH af e s' h;refine cU (λ_=>amK 0) ?_;have ax:=af.rd.lt;have df:=af.b9.one;have aU:=aR.push H (.row false 9 [[.int .i64 0,.str [],.str [],.int .i64 0,.an,.an,.an,.int .i64 0,.int .i64 0]]);simp-implicitDefEqProofs(disch:=try exact ag) only[FN,reduceAdd,reduceLeDiff,reduceIte,az,ea];refine aY (nZ (af.rd.aK aU) (af.b9.aK aU)) ?_;rintro _ bl ⟨rfl,aJ⟩;refine⟨aJ.1,?_⟩;have n2:=aJ.1;simp only[J.b6] at n2;generalize bC:aq T s.at_=t;have bz:=((aU.trans aJ).bV (.row false 4 [[.int .i64 t.kind,.str t.text,.int .i64 t.n,.int .i64 t.pos]])).bV (.row false 9 [dv.cells {kind:=0,pos:=t.pos} .an .an .an])
 have q_:=(aR.push bl (.row false 4 [[.int .i64 t.kind,.str t.text,.int .i64 t.n,.int .i64 t.pos]])).bV (.row false 9 [dv.cells {kind:=0,pos:=t.pos} .an .an .an]);have b:j7 H ((bl.push (.row false 4 [[.int .i64 t.kind,.str t.text,.int .i64 t.n,.int .i64 t.pos]])).push (.row false 9 [dv.cells {kind:=0,pos:=t.pos} .an .an .an])) r bl.next (bl.next+1) aj t s (dv.cells {kind:=0,pos:=t.pos} .an .an .an):=
  ⟨bz.mut _,af.rd.aK bz,q_.get (aJ.get (J.ca H _)),by simp-implicitDefEqProofs(disch:=try exact ag) only[dD],J.ca (bl.push _) _,Z,Z⟩
 simp-implicitDefEqProofs(disch:=try exact ag) only[FN,reduceAdd,reduceLeDiff,reduceIte,az,ea,Tok.v];simp only[dv.cells] at b;generalize (bl.push (.row false 4 [[.int .i64 t.kind,.str t.text,.int .i64 t.n,.int .i64 t.pos]])).push (.row false 9 [[.int .i64 0,.str [],.str [],.int .i64 0,.an,.an,.an,.int .i64 t.pos,.int .i64 0]])=cQ at b ⊢;have yv:j7 H cQ r bl.next (bl.next+1) aj t s (dv.cells {kind:=0,pos:=t.pos} .an .an .an):=b
 generalize bl.next=b3 at yv ⊢
 clear b;simp only[rU,bC,eT] at h;obtain⟨⟨aI,s1⟩,U,aa⟩:=h;simp only[bD,dz] at aa;obtain⟨rfl,rfl⟩:=aa;have eY:=af.mut yv.m yv.rd;have Z_: ∀(H':J),aR cQ H'->(b2 T s [118,97,114]||b2 T s [108,101,116])=true->W (vx (au P ao) (.ptr r 0 0) (.ptr H.next 0 0) (.ptr b3 0 0) (.ptr (b3+1) 0 0) (.bool true) H') (gE H r T aj (aI.at t.pos) s1):=by
  intro H' qz bw;rw[bw,bx,bD] at U;have:=ag6 aH af (yv.mut ax (qz.mut _) (yv.rd.aK qz)) af.b9;rw[U] at this;exact this
 refine aY (gI eY.rd eY.b9 [118,97,114] (by simp)) ?_;rintro _ cu ⟨rfl,bK⟩;refine⟨bK.1,?_⟩;cases bw:b2 T s [118,97,114] with
 |true=>
  simp-implicitDefEqProofs(disch:=try exact ag) only[reduceAdd,reduceLeDiff,reduceIte,az];exact Z_ cu bK (by rw[bw];rfl)
 |false=>
  simp-implicitDefEqProofs(disch:=try exact ag) only[reduceAdd,reduceLeDiff,reduceIte,az];refine aY (gI (eY.aK bK).rd (eY.aK bK).b9 [108,101,116] (by simp)) ?_;rintro _ dc ⟨rfl,cO⟩;refine⟨cO.1,?_⟩;have NW:=bK.trans cO;cases hle:b2 T s [108,101,116] with
  |true=>exact Z_ dc NW (by rw[hle,Bool.or_true])
  |false=>
   rw[bw,hle,Bool.or_false,bi] at U;simp-implicitDefEqProofs(disch:=try exact ag) only[vx,reduceAdd,reduceLeDiff,reduceIte,az];have ff:=eY.aK NW;refine aY (gI ff.rd ff.b9 [105,102] (by simp)) ?_;rintro _ fX ⟨rfl,e2⟩;refine⟨e2.1,?_⟩;have Zv:=NW.trans e2;have hC:=ff.aK e2;have rj:=yv.mut ax (Zv.mut _) (yv.rd.aK Zv);have eB:=yv.gL;cases YY:b2 T s [105,102] with
   |true=>
    simp only[YY,bx,eT] at U;obtain⟨⟨bJ,s2⟩,dS,ae⟩:=U;simp-implicitDefEqProofs(disch:=try exact ag) only[ix,bx];refine VN aT aH af rj (.inl rfl) (e:=(dx T (aE s)).1) (s1:=(dx T (aE s)).2) rfl dS (k:=λ_ bn=>aL bn (au P ao 27 [.ptr r 0 0,.str [101,108,115,101]] bn) _) ?_;intro dU ev bv Di cS dq;have Zd:=af.mut Di.m Di.rd;refine aY (gI Zd.rd Zd.b9 [101,108,115,101] (by simp)) ?_;rintro _ gK ⟨rfl,mA⟩;refine⟨mA.1,?_⟩;have iH:=Di.mut ax (mA.mut _) (Di.rd.aK mA);have Zg:=cS.aK mA;have Zh:=dq.bo (fD.aK mA λ_ h=>h);cases kN:b2 T s2 [101,108,115,101] with
    |false=>
     simp only[kN,bi,bD,dz] at ae;obtain⟨rfl,rfl⟩:=ae;simp-implicitDefEqProofs(disch:=try exact ag) only[reduceAdd,reduceLeDiff,reduceIte,az];exact Bw af iH Zg Zh (eC.nil _ _)
    |true=>
     simp only[kN,bx,eT] at ae;obtain⟨⟨c2,jH⟩,cn,al⟩:=ae;simp only[bD,dz] at al;obtain⟨rfl,rfl⟩:=al;obtain⟨A1,Of⟩:=hT iH.rd (aE s2);have nb:=iH.mut ax A1 Of;have mW:=iH.rd;unfold c1 at mW;have ap1:=iH.rd.lt;simp-implicitDefEqProofs(disch:=try exact ag) only[reduceAdd,reduceLeDiff,reduceIte,az,mW,df];refine aY (aT aH (af.mut nb.m nb.rd) c2 jH cn) ?_;rintro fu AV ⟨bM,Fy,hc⟩;refine⟨bM.1,?_⟩;have kq:=nb.mut ax bM Fy.rd;have yy:=J.aW kq.g4;have arU:=J.aW nb.g4;have st:=am0 kq.g4 hc.gq;simp-implicitDefEqProofs(disch:=try exact ag) only[bj,bO,fE,Nat.zero_add];rw[st,lx (by simp only[J.e9];omega)];have py:fD gK (bG (b3+1+1)) AV (bG (b3+1+1)):=fD.mut (A1.trans bM) (by unfold bG;omega) λ_ h=>h
     have bR:fD AV (bG (b3+1+1)) (AV.set (b3+1) (.row false 9 [dv.cells {kind:=5,pos:=t.pos} ev bv fu])) (bG (b3+1+1)):=fD.set _ (by unfold bG;omega) λ_ h=>h
     exact Bw af (kq.set ax _) ((Zg.bo py.ex).bo bR.ex) ((Zh.bo py).bo bR) ((hc.bo (fD.q9 λl h=>by unfold bG at*;omega)).bo bR)
   |false=>
    simp only[YY,bi] at U;simp-implicitDefEqProofs(disch:=try exact ag) only[reduceAdd,reduceLeDiff,reduceIte,az];refine aY (gI hC.rd hC.b9 [119,104,105,108,101] (by simp)) ?_;rintro _ fY ⟨rfl,h7⟩;refine⟨h7.1,?_⟩;have oJ:=hC.aK h7;have si:=rj.mut ax (h7.mut _) (rj.rd.aK h7);cases Zc:b2 T s [119,104,105,108,101] with
    |true=>
     simp only[Zc,bx,eT] at U;obtain⟨⟨bJ,s2⟩,dS,ae⟩:=U;simp only[bD,dz] at ae;obtain⟨rfl,rfl⟩:=ae;simp-implicitDefEqProofs(disch:=try exact ag) only[ix,bx];refine VN aT aH af si (.inr rfl) (e:=(dx T (aE s)).1) (s1:=(dx T (aE s)).2) rfl dS (k:=λ_ bn=>lD (au P ao) (.ptr H.next 0 0) (.ptr (b3+1) 0 0) bn) ?_;exact λdU ev bv Di cS dq=>Bw af Di cS dq (eC.nil _ _)
    |false=>
     simp only[Zc,bi] at U;simp-implicitDefEqProofs(disch:=try exact ag) only[reduceAdd,reduceLeDiff,reduceIte,az];refine aY (gI oJ.rd oJ.b9 [114,101,116,117,114,110] (by simp)) ?_;rintro _ jG ⟨rfl,je⟩;refine⟨je.1,?_⟩;have oK:=oJ.aK je;have uV:=si.mut ax (je.mut _) (si.rd.aK je);cases yc:b2 T s [114,101,116,117,114,110] with
     |true=>
      simp only[yc,bx,bD] at U;obtain⟨m9,d9⟩:=hT uV.rd (aE s);have iH:=(uV.mut ax m9 d9).set ax (dv.cells {kind:=7,pos:=t.pos} .an .an .an);have Fp:=uV.rd;unfold c1 at Fp;have g8:=uV.g4;have ar4:=uV.rd.lt;have Oo:=J.aW g8;simp only[dv.cells] at g8;simp-implicitDefEqProofs(disch:=try exact ag) only[reduceAdd,reduceLeDiff,reduceIte,az,ea,Fp,df,g8];refine aY (gI iH.rd (af.mut iH.m iH.rd).b9 [59] (by simp)) ?_;rintro _ aqf ⟨rfl,gB⟩;refine⟨gB.1,?_⟩;have nb:=iH.mut ax (gB.mut _) (iH.rd.aK gB);unfold vH at U;cases Ij:b2 T (aE s) [59] with
      |true=>
       simp only[Ij,bx,dz] at U;obtain⟨rfl,rfl⟩:=U;simp-implicitDefEqProofs(disch:=try exact ag) only[reduceAdd,reduceLeDiff,reduceIte,az,Bool.not_true];exact Sv af nb (dO.nil _ _)
      |false=>
       simp only[Ij,bi,dz] at U;obtain⟨rfl,rfl⟩:=U;simp-implicitDefEqProofs(disch:=try exact ag) only[reduceAdd,reduceLeDiff,reduceIte,az,Bool.not_false];refine aY (Bp aH (af.mut nb.m nb.rd)) ?_;rintro v AV ⟨bM,Fy,he⟩;refine⟨bM.1,?_⟩;have kq:=nb.mut ax bM Fy.rd;obtain⟨cs,rfl,bJ,cZ⟩:=he.cells;have aO: ∀l,dH P l 96 1 [(0,.agg cs)]=some (.aM l 0 1 11 (some 1),.row false 11 [cs]):=λl=>jK l cs bJ cZ
       have nU:=kq.g4;have apY:=J.aW nU;have apX:=J.aW nb.g4;obtain⟨FX,h6⟩:=j7.expr ax (c':=dv.cells {kind:=7,pos:=t.pos} (.aM AV.next 0 1 11 (some 1)) .an .an) kq (ec.bo (e_.q9 λl h=>by unfold bG at*;first|omega|(simp only[J.e9] at*;omega)) _ _ he) rfl;simp only[dv.cells] at nU;simp-implicitDefEqProofs(disch:=try exact ag) only[reduceAdd,reduceLeDiff,reduceIte,az,ea,aO,nU,J.h8];exact Sv af FX h6
     |false=>
      simp only[yc,bi] at U;simp-implicitDefEqProofs(disch:=try exact ag) only[reduceAdd,reduceLeDiff,reduceIte,az];refine aY (gI oK.rd oK.b9 [112,114,105,110,116] (by simp)) ?_;rintro _ gK ⟨rfl,mA⟩;refine⟨mA.1,?_⟩;have qo:=oK.aK mA;have iH:=uV.mut ax (mA.mut _) (uV.rd.aK mA);have g9:=iH.g4;have ap1:=iH.rd.lt;have Z0:=J.aW g9;cases Y9:b2 T s [112,114,105,110,116] with
      |true=>
       simp only[Y9,bx,bD] at U;obtain⟨A1,Of⟩:=hT iH.rd (aE s);have nb:=(iH.mut ax A1 Of).set ax (dv.cells {kind:=8,pos:=t.pos} .an .an .an);have mW:=iH.rd;unfold c1 at mW;simp only[dv.cells] at g9;unfold xe at U;simp only[dz] at U;obtain⟨rfl,rfl⟩:=U;simp-implicitDefEqProofs(disch:=try exact ag) only[reduceAdd,reduceLeDiff,reduceIte,az,ea,mW,df,g9];refine aY (Bp aH (af.mut nb.m nb.rd)) ?_;rintro v AV ⟨bM,Fy,he⟩;refine⟨bM.1,?_⟩;have kq:=nb.mut ax bM Fy.rd;obtain⟨cs,rfl,bJ,cZ⟩:=he.cells;have aO: ∀l,dH P l 96 1 [(0,.agg cs)]=some (.aM l 0 1 11 (some 1),.row false 11 [cs]):=λl=>jK l cs bJ cZ
       have nU:=kq.g4;have apY:=J.aW nU;have apX:=J.aW nb.g4;obtain⟨FX,h6⟩:=j7.expr ax (c':=dv.cells {kind:=8,pos:=t.pos} (.aM AV.next 0 1 11 (some 1)) .an .an) kq (ec.bo (e_.q9 λl h=>by unfold bG at*;first|omega|(simp only[J.e9] at*;omega)) _ _ he) rfl;simp only[dv.cells] at nU;simp-implicitDefEqProofs(disch:=try exact ag) only[reduceAdd,reduceLeDiff,reduceIte,az,ea,aO,nU,J.h8];refine aY (ly (af.mut FX.m FX.rd) [59] (by simp)) ?_;rintro _ hy ⟨rfl,Ou,pi⟩;refine⟨Ou.1,?_⟩;exact Bw af (FX.mut ax Ou pi.rd) (h6.bo (e_.mut Ou (by unfold bG;omega) λ_ h=>h)) (eC.nil _ _) (eC.nil _ _)
      |false=>
       simp only[Y9,bi,bD] at U;have YA:=g9;simp only[dv.cells] at YA;simp-implicitDefEqProofs(disch:=try exact ag) only[reduceAdd,reduceLeDiff,reduceIte,az,ea,YA];refine aY (abD aH (af.mut iH.m iH.rd) t.pos) ?_;rintro v aqf ⟨A1,ND,he⟩;refine⟨A1.1,?_⟩;have nb:=iH.mut ax A1 ND.rd;obtain⟨cs,rfl,bJ,cZ⟩:=he.cells;have tt:List.take 9 cs=cs:=List.take_of_length_le Z;have fv:=nb.g2;have F7:=J.aW fv;rw[U] at he ND;simp-implicitDefEqProofs(disch:=try exact ag) only[reduceAdd,reduceLeDiff,reduceIte,az,ea,fv,bJ,cZ,tt,List.append_nil];exact a8.2 (gE.ret af nb.m ND.rd (bL _) he Z _)
structure akW(n:Nat):Prop where
 stmt:GP n
 block:GG n
theorem ak2: ∀n,n<=900000000->akW n:=by
 intro n
 induction n using Nat.strongRecOn with
 |_ n aT=>
  intro aV;cases n with
  |zero=>exact⟨λ_ _ _ _ h=>by simp[rU] at h,λ_ _ _ _ h=>by simp[jX] at h⟩
  |succ n=>
   have i:=aT n Z Z;exact⟨acw i.block,abA Z λk ah=>(aT k Z Z).stmt⟩
end
section
section
variable {H H' H1:J}{r:Nat}{T:List Tok}{aj:I}{s s':aw}
variable {b c n2 esz:Nat}{z:List I}{x:I}{rest:List I}{l:List dW}{v:I}
theorem lu.N4(h:lu H1 H r b c n2 esz T aj z x rest l v s){s0:aw}(U:c8 H1 r T aj s0)(rest':List I):lu H1 (H.set c (.row false esz [x::v::rest'])) r b c n2 esz T aj z x rest' l v s:=by
 have cZ:=h.cZ;have dk:=h.dk;have dJ:=h.dJ;have eL:=h.eL;have nX:=h.nX;have lc:=J.aW h.cell;have fG:nR r H1.next H1 (H.set c (.row false esz [x::v::rest'])):=h.m.de (.inr Z) _
 exact⟨U.zO fG (by unfold c1;rw[J.get_set_other Z];exact h.dj.rd),by rw[J.get_set_other Z];exact h.two,J.get_set_same lc,h.ho.bo λk x ah g=>⟨ah,by unfold bG at ah;rw[J.get_set_other Z];exact g⟩,fG,cZ,dk,nX,dJ,by simp;omega⟩
theorem lu.aqa(h:lu H1 H r b c n2 esz T aj z x rest l v s)(s2:aw):lu H1 (H.set r (.row false 5 [[aj,.int .i64 s2.at_,.int .i64 s2.bN,.int .i64 s2.aA,.int .i64 s2.cw]])) r b c n2 esz T aj z x rest l v s2:=by
 obtain⟨m,bb⟩:=hT h.dj.rd s2;exact h.mut m (h.dj.mut m bb)
theorem Ge{N:Nat}{Q:I->J->Prop}{nm:bk}{s0:aw}(U:c8 H1 r T aj s0){l':List dW}
  (eH: ∀H v,lu H1 H r b c n2 7 T aj z (.str nm) rest l' v s'->W (tT (au P ao) N (.ptr r 0 0) (.ptr b 0 0) (.ptr c 0 0) H) Q):
  ∀(n m:Nat) (H:J) (s:aw) (l:List dW) (v:I),n<m->l.length+n<=1000000000->lu H1 H r b c n2 7 T aj z (.str nm) rest l v s->nq T n l s=some (l',s')->W (tU (au P ao) N m (.ptr r 0 0) (.ptr b 0 0) (.ptr c 0 0) H) Q
 |_,0,_,_,_,_,aV,_,_,_=>Z
 |0,m+1,_,_,_,_,_,_,_,ak=>by cases ak
 |n+1,m+1,H,s,l,v,aV,ay,h,ak=>by
  rw[nq] at ak;rw[tU];unfold Hc;refine aY (tB h.dj.rd) ?_;rintro _ bl ⟨rfl,rfl⟩;refine⟨bL _,?_⟩;by_cases a6:s.aA=0
  ·have ib:(s.aA==0)=true:=by simpa using a6
   simp-implicitDefEqProofs(disch:=try exact ag) only[bj,bO,ib];refine hh (gI h.dj.rd h.dj.b9 [41] (by simp)) ?_;rintro _ cQ ⟨rfl,bz⟩;refine⟨bz.1,?_⟩;have ae:=h.mut (bz.mut _) (h.dj.aK bz);rw[ib,Bool.true_and] at ak;cases af:b2 T s [41] with
   |true=>
    rw[af] at ak;cases ak;simp-implicitDefEqProofs(disch:=try exact ag) only[bj,bO,ib,Bool.not_true];exact eH _ _ ae
   |false=>
    rw[af,Bool.not_false,bx] at ak;simp-implicitDefEqProofs(disch:=try exact ag) only[bj,bO,ib,Bool.not_false];refine aY (nZ ae.dj.rd ae.dj.b9) ?_;rintro _ cu ⟨rfl,bK⟩;refine⟨bK.1,?_⟩;have al:=ae.mut (bK.mut _) (ae.dj.aK bK);have i_:=λH'=>al.ho.rQ H'
    have cp:=al.ho.rd;have iD:=al.cell;have aoa:=al.ho.one;have go:((aq T s.at_).kind==1&&l.length==6)=true->W (aL cu (au P ao 28 [.ptr r 0 0,.int .i64 4] cu) λep co=>tT (au P ao) N (.ptr r 0 0) (.ptr b 0 0) (.ptr c 0 0) co) Q:=λhm=>by
     rw[hm,bx] at ak;cases ak;refine aY (sv al.dj 4) ?_;rintro _ dc ⟨rfl,m5,iv⟩;exact⟨m5.1,eH _ _ (al.mut m5 iv)⟩
    have on:((aq T s.at_).kind==1&&l.length==6)=false->W (aL cu (au P ao 30 [.ptr r 0 0] cu) λeg co=>
      ab (aF P 46 (.ptr c 0 0) 1) λdV=>ab (am P co 23 dV) λef=>dA co (dH P (co).next 23 1 [(0,eg)]) λej dp=>aL dp (fM P dp [23,23] ef ej) λed dR=>ab (aF P 46 (.ptr c 0 0) 1) λfj=>a1 dR (aQ P dR 23 fj ed) λeF=>
      bif ((cd (am P cu 23 dV) ef&&(cd (am P co 23 dV) ef&&(cd (am P dp 23 dV) ef&&true)))&&true) then(aL eF (au P ao 27 [.ptr r 0 0,.str [41]] eF) λe7 fs=>
      ab (fh .not e7) λfy=>
      bQ (some fy) (aL fs (au P ao 31 [.ptr r 0 0,.str [44]] fs) λgv fP=>
      aL fP (au P ao 27 [.ptr r 0 0,.str [41]] fP) λgw gG=>
      bQ (some gw) (aL gG (au P ao 28 [.ptr r 0 0,.int .i64 2] gG) λgS hM=>
      tU (au P ao) N m (.ptr r 0 0) (.ptr b 0 0) (.ptr c 0 0) hM) (tU (au P ao) N m (.ptr r 0 0) (.ptr b 0 0) (.ptr c 0 0) gG)) (tU (au P ao) N m (.ptr r 0 0) (.ptr b 0 0) (.ptr c 0 0) fs)) else none) Q:=λhm=>by
     rw[hm,bi] at ak;refine aY (JY al.dj) ?_;rintro _ fX ⟨rfl,m6,wC⟩;refine⟨m6.1,?_⟩;have aG:=al.mut m6 wC;have r8:=aG.cell;have zU:=aG.ho.rd;generalize gZ T s=q at aG ak;obtain⟨p,A7⟩:=q;obtain⟨dr,fY,gU,pw,ii,aI,bc,aP⟩:=aG.add U Z p;have fe:=ue vG fX.next (cs:=p.cells) rfl rfl
     have uA:(fX.push (.row false 4 [p.cells])).next<=fY.next:=by simp only[J.b6];exact pw
     have hc:=j_ ii;simp only[I.cells] at hc;simp-implicitDefEqProofs(disch:=try exact ag) only[bj,bO,fE,am,dy,aQ,dy,Nat.reduceAdd,Nat.reduceLeDiff,reduceIte,I.cells,eu,fl,dD,hc,r8,fe,gU,ks,aI,bc,ii,zU,iD];refine aY (gI aP.dj.rd aP.dj.b9 [41] (by simp)) ?_;rintro _ jG ⟨rfl,je⟩;refine⟨je.1,?_⟩;have bn:=aP.mut (je.mut _) (aP.dj.aK je);simp only at ak;cases bb:b2 T A7 [41] with
     |true=>
      rw[bb,bx] at ak;simp-implicitDefEqProofs(disch:=try exact ag) only[bj,bO,Bool.not_true];exact Ge U eH n m jG _ _ dr Z (by simp;omega) bn ak
     |false=>
      rw[bb,bi] at ak;simp-implicitDefEqProofs(disch:=try exact ag) only[bj,bO,Bool.not_false];refine aY (ly bn.dj [44] (by simp)) ?_;rintro _ gK ⟨rfl,m9,ni⟩;refine⟨m9.1,?_⟩;have bH:=bn.mut m9 ni;refine aY (gI bH.dj.rd bH.dj.b9 [41] (by simp)) ?_;rintro _ X_ ⟨rfl,sg⟩;refine⟨sg.1,?_⟩;have co:=bH.mut (sg.mut _) (bH.dj.aK sg);unfold tP at ak;cases he:b2 T (cq T [44] A7) [41] with
      |true=>
       rw[he,bx] at ak;simp-implicitDefEqProofs(disch:=try exact ag) only[bj,bO];refine aY (sv co.dj 2) ?_;rintro _ aor ⟨rfl,m11,ap_⟩;refine⟨m11.1,?_⟩;exact Ge U eH n m aor _ _ dr Z (by simp;omega) (co.mut m11 ap_) ak
      |false=>
       rw[he,bi] at ak;simp-implicitDefEqProofs(disch:=try exact ag) only[bj,bO];exact Ge U eH n m X_ _ _ dr Z (by simp;omega) co ak
    cases ah:(aq T s.at_).kind==1 with
    |true=>
     rw[ah] at go on;cases ax:l.length==6 with
     |true=>
      have dF:((l.length:Int)==6)=true:=by
       have:l.length=6:=by simpa using ax
       simp;omega
      rw[ax] at go;simp-implicitDefEqProofs(disch:=try exact ag) only[reduceAdd,reduceLeDiff,reduceIte,az,Tok.v,iD,i_,ah,dF];exact go rfl
     |false=>
      have dF:((l.length:Int)==6)=false:=by
       have:l.length≠6:=by simpa using ax
       simp;omega
      rw[ax] at on;simp-implicitDefEqProofs(disch:=try exact ag) only[reduceAdd,reduceLeDiff,reduceIte,az,Tok.v,iD,i_,ah,dF];exact on rfl
    |false=>
     rw[ah] at on;simp-implicitDefEqProofs(disch:=try exact ag) only[reduceAdd,reduceLeDiff,reduceIte,az,Tok.v,iD,i_,ah];exact on rfl
  ·have ib:(s.aA==0)=false:=by simpa using a6
   rw[ib] at ak;cases ak;simp-implicitDefEqProofs(disch:=try exact ag) only[bj,bO,ib];exact eH _ _ h
end
end
section
section
variable {H H' H1:J}{r:Nat}{T:List Tok}{aj:I}{s s' s0:aw}
abbrev A_:List I:=[.str [],.an,.bool false,.str [],.int .i64 0,.an,.int .i64 0]
abbrev ng(has:Bool)(fC:bk)(rd et:Int):List I:=[.bool has,.str fC,.int .i64 rd,.an,.int .i64 et]
def Ll(H1:J)(r:Nat)(T:List Tok)(aj:I)(f:Fn)(s':aw)(w:I)(H':J):Prop:=(∃cs,w= .agg cs/\gN.V H' (bG H1.next) f cs)/\cB r H1 H'/\c8 H' r T aj s'
theorem VM{N n:Nat}(aV:n<=900000000)(aH:T.length<=20000000)(U:c8 H1 r T aj s0){c n2:Nat}{nm fC:bk}{has:Bool}{rd et:Int}{l:List dW}{v:I}{jd:List cy}
  (h:lu H1 H r H1.next c n2 7 T aj A_ (.str nm) (ng has fC rd et) l v s) (ak:jX T n s=some (jd,s')):
  W (zl (au P ao) N (.ptr r 0 0) (.ptr H1.next 0 0) (.ptr c 0 0) H) (Ll H1 r T aj ⟨nm,l,has,fC,rd,jd,et⟩ s'):=by
 unfold zl;refine aY ((ak2 n aV).block aH h.dj jd s' ak) ?_;rintro w bl ⟨m2,e3,ay⟩;refine⟨m2.1,?_⟩;have aa:=h.mut m2 e3;have cZ:=aa.cZ;have dk:=aa.dk;have nX:=aa.nX;have dJ:=aa.dJ;have eL:=aa.eL;have iJ:=h.eL;have lT:=aa.cell;have F_:=aa.ho.one;have Z1:=ay.gq;have hc:=j_ F_;have YQ:=j_ Z1;simp only[I.cells] at hc YQ;have ae:=aa.N4 U [.bool has,.str fC,.int .i64 rd,w,.int .i64 et];have eK:=ae.two;have mj:=ae.cell;have yy:=J.aW eK;have fG:nR r H1.next H1 ((bl.set c (.row false 7 [.str nm::v::[.bool has,.str fC,.int .i64 rd,w,.int .i64 et]])).set H1.next (.row false 7 [.str nm::v::[.bool has,.str fC,.int .i64 rd,w,.int .i64 et]])):=ae.m.de (.inr (bL _)) _
 have ah:d_ bl (bG n2) ((bl.set c (.row false 7 [.str nm::v::[.bool has,.str fC,.int .i64 rd,w,.int .i64 et]])).set H1.next (.row false 7 [.str nm::v::[.bool has,.str fC,.int .i64 rd,w,.int .i64 et]])) (bG H1.next):=λk x ah g=>⟨by unfold bG at ah ⊢;omega,by unfold bG at ah;rw[J.get_set_other Z,J.get_set_other Z];exact g⟩
 have oG:=aa.ho.bo ah;have kk:eC _ (bG H1.next) jd w:=ay.bo (d_.trans (d_.le (ok':=bG n2) λk ah=>by unfold bG at ah ⊢;omega) ah).s;have bn:=U.zO fG (s':=s') (by unfold c1;rw[J.get_set_other Z];exact ae.dj.rd);simp-implicitDefEqProofs(disch:=try exact ag) only[bj,bO,fE,am,dy,aQ,dy,Nat.reduceAdd,Nat.reduceLeDiff,reduceIte,I.cells,eu,fl,dD,lT,mj,eK,F_,Z1,YQ];exact a8.2 ⟨⟨_,rfl,v,w,rfl,oG.aM,kk⟩,fG.mt,bn⟩
theorem aiH{N n:Nat}(aV:n<=900000000)(aH:T.length<=20000000)(U:c8 H1 r T aj s0){c n2:Nat}{nm:bk}{et:Int}{l:List dW}{v:I}{jd:List cy}
  (h:lu H1 H r H1.next c n2 7 T aj A_ (.str nm) (ng false [] 0 et) l v s) (ak:jX T n (oE T (cq T [41] s)).2=some (jd,s')):
  W (tT (au P ao) N (.ptr r 0 0) (.ptr H1.next 0 0) (.ptr c 0 0) H) (Ll H1 r T aj ⟨nm,l,(oE T (cq T [41] s)).1.1,(oE T (cq T [41] s)).1.2.1,(oE T (cq T [41] s)).1.2.2,jd,et⟩ s'):=by
 unfold tT;refine aY (ly h.dj [41] (by simp)) ?_;rintro _ bl ⟨rfl,m2,e3⟩;refine⟨m2.1,?_⟩;have aa:=h.mut m2 e3;generalize cq T [41] s=s2 at aa ak ⊢;refine aY (gI aa.dj.rd aa.dj.b9 [58] (by simp)) ?_;rintro _ cQ ⟨rfl,bz⟩;refine⟨bz.1,?_⟩;have ae:=aa.mut (bz.mut _) (aa.dj.aK bz);unfold oE at ak ⊢;cases af:b2 T s2 [58] with
 |false=>
  rw[af,bi] at ak;simp-implicitDefEqProofs(disch:=try exact ag) only[bj,bO];exact VM aV aH U ae ak
 |true=>
  rw[af,bx] at ak;have al:lu H1 (cQ.set r (.row false 5 [[aj,.int .i64 (aE s2).at_,.int .i64 s2.bN,.int .i64 s2.aA,.int .i64 s2.cw]])) r H1.next c n2 7 T aj A_ (.str nm) (ng false [] 0 et) l v (aE s2):=ae.aqa (aE s2)
  have mV:=ae.dj.rd;unfold c1 at mV;have aB:=al.N4 U (ng true [] 0 et);have iD:=al.cell;have Au:=ae.dj.b9.one;have aX:IntKind.i64.wrap (s2.at_+1)=(aE s2).at_:=rfl;simp-implicitDefEqProofs(disch:=try exact ag) only[bj,bO,fE,ei,am,dy,aQ,dy,Nat.reduceAdd,Nat.reduceLeDiff,reduceIte,I.cells,eu,fl,mV,Au,aX,iD];refine aY (DS aB.dj) ?_;rintro _ fX ⟨rfl,m6,wC⟩;refine⟨m6.1,?_⟩;have aG:=aB.mut m6 wC;have r8:=aG.cell;generalize e5 T (aE s2)=o at aG ak ⊢;obtain⟨⟨y,d⟩,A7⟩:=o;have aP:=aG.N4 U (ng true y d et);simp-implicitDefEqProofs(disch:=try exact ag) only[bj,bO,fE,ei,am,dy,aQ,dy,Nat.reduceAdd,Nat.reduceLeDiff,reduceIte,I.cells,eu,fl,r8]
  exact VM aV aH U aP ak
end
end
section
section
variable {H H' H1:J}{r:Nat}{T:List Tok}{aj:I}{s s' s0:aw}
theorem aap{n:Nat}(aV:n<=900000000)(aH:T.length<=20000000)(h:c8 H r T aj s){f:Fn}(ak:tz T n s=some (f,s')):W (au P ao 32 [.ptr r 0 0] H) (Ll H r T aj f s'):=by
 refine cU (λ_=>al2 (n+1)) ?_;have ax:=h.rd.lt;unfold tz at ak;obtain⟨⟨l',j9⟩,we,wg⟩:=eT.1 ak;obtain⟨⟨jd,jI⟩,YT,YU⟩:=eT.1 wg;simp only[bD,dz] at YU;obtain⟨rfl,rfl⟩:=YU;simp only at YT;have eh:=aR.push H (.row false 7 [A_]);have ay:=J.ca H (.row false 7 [A_]);simp-implicitDefEqProofs(disch:=try exact ag) only[IR,bj,bO,List.length_cons,List.length_nil,Nat.zero_add,Nat.reduceAdd];refine aY (nZ (h.rd.aK eh) (h.aK eh).b9) ?_;rintro _ H1 ⟨rfl,aU⟩;refine⟨aU.1,?_⟩;have fw:=aU.1;simp only[J.b6] at fw;have U:=(h.aK eh).aK aU;have dS:=aU.get ay;generalize aq T s.at_=q;obtain⟨k,x,z,p⟩:=q;have aJ:=aR.push H1 (.row false 7 [.str []:: .an::ng false [] 0 p])
 have lT:=J.ca H1 (.row false 7 [.str []:: .an::ng false [] 0 p]);simp-implicitDefEqProofs(disch:=try exact ag) only[bj,bO,fE,am,dy,aQ,dy,Nat.reduceAdd,Nat.reduceLeDiff,reduceIte,I.cells,eu,fl,dD,J.h8,Tok.v];refine aY (wK (U.aK aJ)) ?_;rintro _ cQ ⟨rfl,m3,ae⟩;refine⟨m3.1,?_⟩;have jy:=m3.1;simp only[J.b6] at jy;have eK:=m3.get (aJ.get dS) Z;have mj:=m3.get lT Z;have gL:=J.aW mj;generalize da T s=o at ae we ⊢;obtain⟨nm,jH⟩:=o;simp only at ae we ⊢;have FG:=((((eh.mut (· =r)).trans (aU.mut _)).trans (aJ.mut _)).trans m3);have yf:=FG.de (l:=H1.next) (.inr Z) (.row false 7 [.str nm:: .an::ng false [] 0 p])
 have al:=h.mut yf (show c1 _ r aj jH by unfold c1;rw[J.get_set_other Z];exact ae.rd);have fV:(cQ.set H1.next (.row false 7 [.str nm:: .an::ng false [] 0 p])).get H.next=some (.row false 7 [A_]):=by rw[J.get_set_other Z];exact eK
 have iD:(cQ.set H1.next (.row false 7 [.str nm:: .an::ng false [] 0 p])).get H1.next=some (.row false 7 [.str nm:: .an::ng false [] 0 p]):=J.get_set_same gL
 simp-implicitDefEqProofs(disch:=try exact ag) only[bj,bO,fE,am,dy,aQ,dy,Nat.reduceAdd,Nat.reduceLeDiff,reduceIte,I.cells,eu,fl,dD,mj];refine aY (ly al [40] (by simp)) ?_;rintro _ dc ⟨rfl,m5,aB⟩;refine⟨m5.1,?_⟩;have nV:=m5.1;simp only[J.e9] at nV;have gu:=m5.get fV Z;have jD:=m5.get iD Z;have oP:lu H dc r H.next H1.next dc.next 7 T aj A_ (.str nm) (ng false [] 0 p) [] .an (cq T [40] jH):=⟨aB,gu,jD,.nil,cB.A2 (yf.trans m5),ax,bL _,Z,Z,bL _⟩
 refine Ge h (s':=j9) (l':=l') (λfX v aG=> ?_) n (n+1) dc _ [] .an (Nat.lt_succ_self _) (by simp only[List.length_nil];omega) oP we;exact aiH aV aH h aG YT
end
end
section
section
variable {H H' H0 H1:J}{r a c:Nat}{T:List Tok}{aj:I}{s s' s0:aw}{g g':eb}
theorem LN{α:Type}{K:pt α}{t e:Nat}(y:v6 t e K.esz){cS:Nat->Prop}{l:List α}{v:I}{gW:dZ}(ay:fF K cS H1 l v)(m:cB r H1 H)(aX:H.get r=some gW)(mU:r<H1.next)(arI:r<c)(aS:c<H1.next)(a7: ∀k,cS k->c<k){x:α}{cs:List I}(he:K.V H (bG H1.next) x cs)(ax:l.length<=1000000000):
  ∃dr H',fM P (H.push (.row false K.esz [cs])) [t,t] v (.aM H.next 0 1 K.esz (some 1))=some (dr,H')/\dr.one=true/\H.next+1<=H'.next/\H'.get c=H.get c/\ ∀b,fF K (λk=>cS k\/H1.next<=k) (H'.set c b) (l++[x]) dr/\
   (∀k z,¬cS k->k<H1.next->k≠c->k≠r->H1.get k=some z->(H'.set c b).get k=some z)/\(H'.set c b).get r=some gW/\(H'.set c b).next=H'.next/\dE (λk=>k=r\/c<=k) H1 (H'.set c b):=by
 have aV:(H1.set r gW).next=H1.next:=J.e9 _ _ _
 have pu:aR (H1.set r gW) H:=⟨by rw[aV];exact m.1,λk ah=>by
  rw[aV] at ah;by_cases e:k=r
  ·rw[e,J.get_set_same mU];exact aX
  ·rw[J.get_set_other (Ne.symm e)];exact m.2 k ah e⟩
 have hZ:fF K cS (H1.set r gW) l v:=ay.bo λk x ah g=>⟨ah,by have:=a7 k ah;rw[J.get_set_other Z];exact g⟩
 obtain⟨dr,H',bd,a2,a3,a4,a5,fi,hN⟩:=grow (r:=c) y hZ ((pu.mut λk=>k=c\/(H1.set r gW).next<=k)) a7 (by rw[aV];exact aS) (n2:=(H1.set r gW).next) (by rw[aV];exact he) (bL _) ax;rw[aV] at a3 fi;refine⟨dr,H',bd,a2,a4,a5,λb=>⟨a3 b,λk z U aa ae al aB=>fi k z U aa ae (by rw[J.get_set_other (Ne.symm al)];exact aB) b,?_,J.e9 _ _ _,?_⟩⟩
 ·exact fi r gW (λh=>by have:=a7 r h;omega) mU Z (J.get_set_same mU) b
 ·have m7:=hN b;refine⟨by have:=m7.1;rw[aV] at this;exact this,λk ah aO=> ?_⟩;have U:k≠r:=λe=>aO (.inl e)
  have aa: ¬c<=k:=λe=>aO (.inr e)
  rw[m7.2 k (by rw[aV];exact ah) aa,J.get_set_other (Ne.symm U)]
def jc(H0:J)(r c:Nat)(T:List Tok)(aj:I)(H:J)(g:eb)(s:aw):Prop:=
 ∃ch cf ci,∃cS dq dP:Nat->Prop,c8 H r T aj s/\(∀l i n e z,aj= .aM l i n e z->l<r)/\H.get H0.next=some (.row false 3 [[.an,.an,.an]])/\H.get (H0.next+1)=some (.row false 2 [[.int .i64 0,.int .i64 0]])/\H.get c=some (.row false 3 [[ch,cf,ci]])/\
  fF gQ cS H g.ey ch/\fF ga dq H g.globals cf/\fF gN dP H g.funcs ci/\(∀k,cS k->c<k/\ ¬dq k/\ ¬dP k)/\(∀k,dq k->c<k/\ ¬dP k)/\(∀k,dP k->c<k)/\H0.next+1<r/\r<c/\dE (λk=>H0.next<=k) H0 H
theorem jc.mt(h:jc H0 r c T aj H g s)(m:cB r H H')(dj:c8 H' r T aj s'):jc H0 r c T aj H' g s':=by
 obtain⟨ch,cf,ci,cS,dq,dP,ai,ap,aC,a_,bf,c_,cD,b3,bJ,c2,c3,cZ,dk,fG⟩:=h;refine⟨ch,cf,ci,cS,dq,dP,dj,ap,m.get aC Z,m.get a_ Z,m.get bf Z,c_.bo (d_.mut m λk ah=>by have:=(bJ k ah).1;omega),cD.bo (d_.mut m λk ah=>by have:=(c2 k ah).1;omega),b3.bo (d_.mut m λk ah=>by have:=c3 k ah;omega),bJ,c2,c3,cZ,dk,?_⟩;have U:=fG.1;exact⟨by have:=m.1;omega,λk ah aO=>by rw[m.2 k Z Z];exact fG.2 k ah aO⟩
theorem jc.hI(h:jc H0 r c T aj H g s):c8 H r T aj s:=by
 obtain⟨ch,cf,ci,cS,dq,dP,ai,-⟩:=h;exact ai
theorem jc.aK(h:jc H0 r c T aj H g s)(p:aR H H'):jc H0 r c T aj H' g s:=h.mt (p.mut _) (h.hI.aK p)
end
end
section
section
variable {H H' H0 H1:J}{r c:Nat}{T:List Tok}{aj:I}{s s' s0:aw}{g g':eb}
theorem Lg(h:h9 H aj T)(bC: ∀l i n e z,aj= .aM l i n e z->l<r)(ah: ∀k,k<r-> ∀z,H.get k=some z->H'.get k=some z):h9 H' aj T:=by
 rcases h with bW|⟨l,i,cap,rfl,bW⟩
 ·exact .inl bW
 ·exact .inr ⟨l,i,cap,rfl,bW.imp id λ⟨ro,els,cE,cx⟩=>⟨ro,els,ah l (bC _ _ _ _ _ rfl) _ cE,cx⟩⟩
theorem ad3(h:c8 H r T aj s){x:dW}(ak:gZ T s=(x,s')):W (au P ao 30 [.ptr r 0 0] H) λv H'=>(∃cs,v= .agg cs/\ga.V H' (bG H.next) x cs)/\cB r H H'/\c8 H' r T aj s':=by
 refine(JY h).mono ?_;rintro v H' ⟨U,aa,ae⟩;rw[ak] at U ae;exact⟨⟨_,U,rfl⟩,aa,ae⟩
theorem ad6{M:Nat}(jw:M<=900000000)(aH:T.length<=20000000)(h:jc H0 r c T aj H g s)(ax:g.ey.length<=900000000){x:iG}(ak:tF T M (aE s)=some (x,s')){L:J->O}{Q:I->J->Prop}(gA: ∀H',jc H0 r c T aj H' {g with ey:=g.ey++[x]} s'->W (L H') Q):
  W (ab (b7 (.ptr r 0 0)) λjR=>ab (aF P 63 jR 1) λlq=>ab (am P H 3 lq) λnN=>ab (aZ P .add 3 true nN (.int .i64 1)) λmw=>ab (b7 (.ptr r 0 0)) λoN=>ab (aF P 63 oN 1) λpq=>a1 H (aQ P H 3 pq mw) λaa=>
   aL aa (au P ao 29 [.ptr r 0 0] aa) λnO ae=>ab (aF P 26 (.ptr c 0 0) 0) λhn=>ab (am P ae 22 hn) λkn=>dA ae (dH P (ae).next 22 1 [(0,nO)]) λpr al=>aL al (fM P al [22,22] kn pr) λmY aB=>
   ab (aF P 26 (.ptr c 0 0) 0) λnP=>a1 aB (aQ P aB 22 nP mY) λaG=>bif ((cd (am P aa 22 hn) kn&&(cd (am P ae 22 hn) kn&&(cd (am P al 22 hn) kn&&true)))&&true) then L aG else none) Q:=by
 have a7:=h.hI.rd;have Au:=h.hI.b9.one;unfold c1 at a7;have As:IntKind.i64.wrap (s.at_+1)=(aE s).at_:=rfl;obtain⟨m,bb⟩:=hT h.hI.rd (aE s);have aa:jc H0 r c T aj (H.set r (.row false 5 [[aj,.int .i64 (aE s).at_,.int .i64 s.bN,.int .i64 s.aA,.int .i64 s.cw]])) g (aE s):=h.mt m (h.hI.mut m bb);simp-implicitDefEqProofs(disch:=try exact ag) only[bj,bO,fE,ei,am,dy,aQ,dy,Nat.reduceAdd,Nat.reduceLeDiff,reduceIte,I.cells,eu,fl,a7,Au,As];generalize H.set r (.row false 5 [[aj,.int .i64 (aE s).at_,.int .i64 s.bN,.int .i64 s.aA,.int .i64 s.cw]])=bl at aa ⊢;refine aY (aaY Z aa.hI ak) ?_;rintro _ cQ ⟨⟨cs,rfl,he⟩,m3,gk⟩
 refine⟨m3.1,?_⟩;obtain⟨ch,cf,ci,cS,dq,dP,ai,ap,aC,a_,bf,c_,cD,b3,bJ,c2,c3,cZ,dk,fG⟩:=aa;have oP:=ai.rd.lt;have lc:=J.aW bf;have jy:=m3.1;have Jo:=m3.get aC Z;have aab:=m3.get a_ Z;have tu:=m3.get bf Z;obtain⟨dr,dc,gU,ii,pw,aI,AY⟩:=LN (c:=c) Hw c_ m3 gk.rd oP dk lc (λk ah=>(bJ k ah).1) he Z;have hf:=gQ.len he;have fe:=ue Hw cQ.next (cs:=cs) hf.1 hf.2
 have h6:gQ.esz=3:=rfl;rw[h6] at gU;have cp:=c_.rd;have hc:=j_ ii;simp only[I.cells] at hc;rw[tu] at aI;have z5:=(aR.push cQ (.row false 3 [cs])).get tu;have uA:(cQ.push (.row false 3 [cs])).next<=dc.next:=by simp only[J.b6];exact pw
 have e8:=c_.one;have fT:=cD.one;have nY:=b3.one;simp-implicitDefEqProofs(disch:=try exact ag) only[bj,bO,fE,am,dy,aQ,dy,Nat.reduceAdd,Nat.reduceLeDiff,reduceIte,I.cells,eu,fl,tu,bf,z5,aI,fe,gU,ks,cp,hc,ii];obtain⟨cE,cx,eM,eB,eN⟩:=AY (.row false 3 [[dr,cf,ci]]);have FD:=J.aW aI;have nW: ∀k,k<bl.next->k≠c->k≠r-> ¬cS k-> ∀z,bl.get k=some z->(dc.set c (.row false 3 [[dr,cf,ci]])).get k=some z:=λk U aa ae al z aB=>cx k z al U aa ae aB
 have kc: ∀k,cS k->c<k:=λk ah=>(bJ k ah).1
 refine gA _ ⟨dr,cf,ci,_,(λk=>dq k/\k<bl.next),(λk=>dP k/\k<bl.next),⟨eM,Lg ai.b9 ap λk ah z e=>nW k (J.aW e) Z Z (λh=>by have:=kc k h;omega) z e⟩,ap,?_,?_,J.get_set_same FD,cE,(cD.bo λk b ah g=>⟨⟨ah,J.aW g⟩,nW k (J.aW g) (by have:=(c2 k ah).1;omega) (by have:=(c2 k ah).1;omega) (λh=>(bJ k h).2.1 ah) b g⟩),(b3.bo λk b ah g=>⟨⟨ah,J.aW g⟩,nW k (J.aW g) (by have:=c3 k ah;omega) (by have:=c3 k ah;omega) (λh=>(bJ k h).2.2 ah) b g⟩),?_,?_,?_,cZ,dk,?_⟩
 ·exact nW _ Z Z Z (λah=>by have:=kc _ ah;omega) _ aC
 ·exact nW _ Z Z Z (λah=>by have:=kc _ ah;omega) _ a_
 ·rintro k (ah|ah)
  ·exact⟨(bJ k ah).1,λh=>(bJ k ah).2.1 h.1,λh=>(bJ k ah).2.2 h.1⟩
  ·exact⟨Z,λh=>by have:=h.2;omega,λh=>by have:=h.2;omega⟩
 ·exact λk ah=>⟨(c2 k ah.1).1,λh=>(c2 k ah.1).2 h.1⟩
 ·exact λk ah=>c3 k ah.1
 ·have U:=fG.1;have aB:=eN.1;refine⟨Z,λk ah aO=> ?_⟩;have uF:k<H0.next:=by simpa using aO
  rw[eN.2 k Z Z];exact fG.2 k ah aO
theorem ad5{M:Nat}(jw:M<=900000000)(aH:T.length<=20000000)(h:jc H0 r c T aj H g s)(ax:g.globals.length<=900000000){x:dW}(ak:gZ T (aE s)=(x,s')){L:J->O}{Q:I->J->Prop}(gA: ∀H',jc H0 r c T aj H' {g with globals:=g.globals++[x]} s'->W (L H') Q):
  W (ab (b7 (.ptr r 0 0)) λjR=>ab (aF P 63 jR 1) λlq=>ab (am P H 3 lq) λnN=>ab (aZ P .add 3 true nN (.int .i64 1)) λmw=>ab (b7 (.ptr r 0 0)) λoN=>ab (aF P 63 oN 1) λpq=>a1 H (aQ P H 3 pq mw) λaa=>
   aL aa (au P ao 30 [.ptr r 0 0] aa) λnO ae=>ab (aF P 26 (.ptr c 0 0) 1) λhn=>ab (am P ae 23 hn) λkn=>dA ae (dH P (ae).next 23 1 [(0,nO)]) λpr al=>aL al (fM P al [23,23] kn pr) λmY aB=>
   ab (aF P 26 (.ptr c 0 0) 1) λnP=>a1 aB (aQ P aB 23 nP mY) λaG=>bif ((cd (am P aa 23 hn) kn&&(cd (am P ae 23 hn) kn&&(cd (am P al 23 hn) kn&&true)))&&true) then L aG else none) Q:=by
 have a7:=h.hI.rd;have Au:=h.hI.b9.one;unfold c1 at a7;have As:IntKind.i64.wrap (s.at_+1)=(aE s).at_:=rfl;obtain⟨m,bb⟩:=hT h.hI.rd (aE s);have aa:jc H0 r c T aj (H.set r (.row false 5 [[aj,.int .i64 (aE s).at_,.int .i64 s.bN,.int .i64 s.aA,.int .i64 s.cw]])) g (aE s):=h.mt m (h.hI.mut m bb);simp-implicitDefEqProofs(disch:=try exact ag) only[bj,bO,fE,ei,am,dy,aQ,dy,Nat.reduceAdd,Nat.reduceLeDiff,reduceIte,I.cells,eu,fl,a7,Au,As];generalize H.set r (.row false 5 [[aj,.int .i64 (aE s).at_,.int .i64 s.bN,.int .i64 s.aA,.int .i64 s.cw]])=bl at aa ⊢;refine aY (ad3 aa.hI ak) ?_;rintro _ cQ ⟨⟨cs,rfl,he⟩,m3,gk⟩
 refine⟨m3.1,?_⟩;obtain⟨ch,cf,ci,cS,dq,dP,ai,ap,aC,a_,bf,c_,cD,b3,bJ,c2,c3,cZ,dk,fG⟩:=aa;have oP:=ai.rd.lt;have lc:=J.aW bf;have jy:=m3.1;have Jo:=m3.get aC Z;have aab:=m3.get a_ Z;have tu:=m3.get bf Z;obtain⟨dr,dc,gU,ii,pw,aI,AY⟩:=LN (c:=c) vG cD m3 gk.rd oP dk lc (λk ah=>(c2 k ah).1) he Z;have hf:=ga.len he;have fe:=ue vG cQ.next (cs:=cs) hf.1 hf.2
 have h6:ga.esz=4:=rfl;rw[h6] at gU;have cp:=cD.rd;have hc:=j_ ii;simp only[I.cells] at hc;rw[tu] at aI;have z5:=(aR.push cQ (.row false 4 [cs])).get tu;have uA:(cQ.push (.row false 4 [cs])).next<=dc.next:=by simp only[J.b6];exact pw
 have e8:=c_.one;have fT:=cD.one;have nY:=b3.one;simp-implicitDefEqProofs(disch:=try exact ag) only[bj,bO,fE,am,dy,aQ,dy,Nat.reduceAdd,Nat.reduceLeDiff,reduceIte,I.cells,eu,fl,tu,bf,z5,aI,fe,gU,ks,cp,hc,ii];obtain⟨cE,cx,eM,eB,eN⟩:=AY (.row false 3 [[ch,dr,ci]]);have FD:=J.aW aI;have nW: ∀k,k<bl.next->k≠c->k≠r-> ¬dq k-> ∀z,bl.get k=some z->(dc.set c (.row false 3 [[ch,dr,ci]])).get k=some z:=λk U aa ae al z aB=>cx k z al U aa ae aB
 have kc: ∀k,dq k->c<k:=λk ah=>(c2 k ah).1
 refine gA _ ⟨ch,dr,ci,(λk=>cS k/\k<bl.next),_,(λk=>dP k/\k<bl.next),⟨eM,Lg ai.b9 ap λk ah z e=>nW k (J.aW e) Z Z (λh=>by have:=kc k h;omega) z e⟩,ap,?_,?_,J.get_set_same FD,(c_.bo λk b ah g=>⟨⟨ah,J.aW g⟩,nW k (J.aW g) (by have:=(bJ k ah).1;omega) (by have:=(bJ k ah).1;omega) (λh=>(bJ k ah).2.1 h) b g⟩),cE,(b3.bo λk b ah g=>⟨⟨ah,J.aW g⟩,nW k (J.aW g) (by have:=c3 k ah;omega) (by have:=c3 k ah;omega) (λh=>(c2 k h).2 ah) b g⟩),?_,?_,?_,cZ,dk,?_⟩
 ·exact nW _ Z Z Z (λah=>by have:=kc _ ah;omega) _ aC
 ·exact nW _ Z Z Z (λah=>by have:=kc _ ah;omega) _ a_
 ·refine λk ah=>⟨(bJ k ah.1).1,λh=> ?_,λh=>(bJ k ah.1).2.2 h.1⟩
  rcases h with h|h
  ·exact(bJ k ah.1).2.1 h
  ·have:=ah.2;omega
 ·rintro k (ah|ah)
  ·exact⟨(c2 k ah).1,λh=>(c2 k ah).2 h.1⟩
  ·exact⟨Z,λh=>by have:=h.2;omega⟩
 ·exact λk ah=>c3 k ah.1
 ·have U:=fG.1;have aB:=eN.1;refine⟨Z,λk ah aO=> ?_⟩;have uF:k<H0.next:=by simpa using aO
  rw[eN.2 k Z Z];exact fG.2 k ah aO
theorem abE{M:Nat}(jw:M<=900000000)(aH:T.length<=20000000)(h:jc H0 r c T aj H g s)(ax:g.funcs.length<=900000000){x:Fn}(ak:tz T M (aE s)=some (x,s')){L:J->O}{Q:I->J->Prop}(gA: ∀H',jc H0 r c T aj H' {g with funcs:=g.funcs++[x]} s'->W (L H') Q):
  W (ab (b7 (.ptr r 0 0)) λjR=>ab (aF P 63 jR 1) λlq=>ab (am P H 3 lq) λnN=>ab (aZ P .add 3 true nN (.int .i64 1)) λmw=>ab (b7 (.ptr r 0 0)) λoN=>ab (aF P 63 oN 1) λpq=>a1 H (aQ P H 3 pq mw) λaa=>
   aL aa (au P ao 32 [.ptr r 0 0] aa) λnO ae=>ab (aF P 26 (.ptr c 0 0) 2) λhn=>ab (am P ae 24 hn) λkn=>dA ae (dH P (ae).next 24 1 [(0,nO)]) λpr al=>aL al (fM P al [24,24] kn pr) λmY aB=>
   ab (aF P 26 (.ptr c 0 0) 2) λnP=>a1 aB (aQ P aB 24 nP mY) λaG=>bif ((cd (am P aa 24 hn) kn&&(cd (am P ae 24 hn) kn&&(cd (am P al 24 hn) kn&&true)))&&true) then L aG else none) Q:=by
 have a7:=h.hI.rd;have Au:=h.hI.b9.one;unfold c1 at a7;have As:IntKind.i64.wrap (s.at_+1)=(aE s).at_:=rfl;obtain⟨m,bb⟩:=hT h.hI.rd (aE s);have aa:jc H0 r c T aj (H.set r (.row false 5 [[aj,.int .i64 (aE s).at_,.int .i64 s.bN,.int .i64 s.aA,.int .i64 s.cw]])) g (aE s):=h.mt m (h.hI.mut m bb);simp-implicitDefEqProofs(disch:=try exact ag) only[bj,bO,fE,ei,am,dy,aQ,dy,Nat.reduceAdd,Nat.reduceLeDiff,reduceIte,I.cells,eu,fl,a7,Au,As];generalize H.set r (.row false 5 [[aj,.int .i64 (aE s).at_,.int .i64 s.bN,.int .i64 s.aA,.int .i64 s.cw]])=bl at aa ⊢;refine aY (aap jw aH aa.hI ak) ?_;rintro _ cQ ⟨⟨cs,rfl,he⟩,m3,gk⟩
 refine⟨m3.1,?_⟩;obtain⟨ch,cf,ci,cS,dq,dP,ai,ap,aC,a_,bf,c_,cD,b3,bJ,c2,c3,cZ,dk,fG⟩:=aa;have oP:=ai.rd.lt;have lc:=J.aW bf;have jy:=m3.1;have Jo:=m3.get aC Z;have aab:=m3.get a_ Z;have tu:=m3.get bf Z;obtain⟨dr,dc,gU,ii,pw,aI,AY⟩:=LN (c:=c) Hv b3 m3 gk.rd oP dk lc (λk ah=>c3 k ah) he Z;have hf:=gN.len he;have fe:=ue Hv cQ.next (cs:=cs) hf.1 hf.2
 have h6:gN.esz=7:=rfl;rw[h6] at gU;have cp:=b3.rd;have hc:=j_ ii;simp only[I.cells] at hc;rw[tu] at aI;have z5:=(aR.push cQ (.row false 7 [cs])).get tu;have uA:(cQ.push (.row false 7 [cs])).next<=dc.next:=by simp only[J.b6];exact pw
 have e8:=c_.one;have fT:=cD.one;have nY:=b3.one;simp-implicitDefEqProofs(disch:=try exact ag) only[bj,bO,fE,am,dy,aQ,dy,Nat.reduceAdd,Nat.reduceLeDiff,reduceIte,I.cells,eu,fl,tu,bf,z5,aI,fe,gU,ks,cp,hc,ii];obtain⟨cE,cx,eM,eB,eN⟩:=AY (.row false 3 [[ch,cf,dr]]);have FD:=J.aW aI;have nW: ∀k,k<bl.next->k≠c->k≠r-> ¬dP k-> ∀z,bl.get k=some z->(dc.set c (.row false 3 [[ch,cf,dr]])).get k=some z:=λk U aa ae al z aB=>cx k z al U aa ae aB
 have kc: ∀k,dP k->c<k:=λk ah=>c3 k ah
 refine gA _ ⟨ch,cf,dr,(λk=>cS k/\k<bl.next),(λk=>dq k/\k<bl.next),_,⟨eM,Lg ai.b9 ap λk ah z e=>nW k (J.aW e) Z Z (λh=>by have:=kc k h;omega) z e⟩,ap,?_,?_,J.get_set_same FD,(c_.bo λk b ah g=>⟨⟨ah,J.aW g⟩,nW k (J.aW g) (by have:=(bJ k ah).1;omega) (by have:=(bJ k ah).1;omega) (λh=>(bJ k ah).2.2 h) b g⟩),(cD.bo λk b ah g=>⟨⟨ah,J.aW g⟩,nW k (J.aW g) (by have:=(c2 k ah).1;omega) (by have:=(c2 k ah).1;omega) (λh=>(c2 k ah).2 h) b g⟩),cE,?_,?_,?_,cZ,dk,?_⟩
 ·exact nW _ Z Z Z (λah=>by have:=kc _ ah;omega) _ aC
 ·exact nW _ Z Z Z (λah=>by have:=kc _ ah;omega) _ a_
 ·refine λk ah=>⟨(bJ k ah.1).1,λh=>(bJ k ah.1).2.1 h.1,λh=> ?_⟩
  rcases h with h|h
  ·exact(bJ k ah.1).2.2 h
  ·have:=ah.2;omega
 ·refine λk ah=>⟨(c2 k ah.1).1,λh=> ?_⟩
  rcases h with h|h
  ·exact(c2 k ah.1).2 h
  ·have:=ah.2;omega
 ·rintro k (ah|ah)
  ·exact c3 k ah
  ·omega
 ·have U:=fG.1;have aB:=eN.1;refine⟨Z,λk ah aO=> ?_⟩;have uF:k<H0.next:=by simpa using aO
  rw[eN.2 k Z Z];exact fG.2 k ah aO
end
end
section
section
variable {H H' H0 H1:J}{r c:Nat}{T:List Tok}{aj:I}{s s' s0:aw}{g g':eb}
theorem af7{N:Nat}{bE:I->I->I->I->J->O}{ap aC:I}{Q:I->J->Prop}(h:jc H0 r c T aj H g s)(tp: ∀H',jc H0 r c T aj H' g (cL T 4 s)->W (bE ap aC (.ptr r 0 0) (.ptr c 0 0) H') Q):W (rS (au P ao) N bE ap aC (.ptr r 0 0) (.ptr c 0 0) (.bool true) H) Q:=by
 unfold rS;simp only[ix,bx,bi];refine aY (sv h.hI 4) ?_;rintro _ dc ⟨rfl,m5,iv⟩;exact⟨m5.1,tp _ (h.mt m5 iv)⟩
theorem af6{N M n:Nat}(jw:M<=900000000)(aH:T.length<=20000000){bE:I->I->I->I->J->O}{ap aC:I}{Q:I->J->Prop}(h:jc H0 r c T aj H g s)(eI:g.ey.length<=900000000)(fB:g.globals.length<=900000000)(gL:g.funcs.length<=900000000)
  (ak:(bif isRec T s then(tF T M (aE s)).bind λp=>iX T M n {g with ey:=g.ey++[p.1]} p.2
   else bif rP T s then iX T M n {g with globals:=g.globals++[(gZ T (aE s)).1]} (cq T [59] (gZ T (aE s)).2)
   else bif isFun T s then(tz T M (aE s)).bind λp=>iX T M n {g with funcs:=g.funcs++[p.1]} p.2
   else iX T M n g (cL T 2 s))=some (g',s'))
  (tp: ∀H' g1 s1,jc H0 r c T aj H' g1 s1->g1.ey.length<=g.ey.length+1->g1.globals.length<=g.globals.length+1->g1.funcs.length<=g.funcs.length+1->iX T M n g1 s1=some (g',s')->W (bE ap aC (.ptr r 0 0) (.ptr c 0 0) H') Q):W (rS (au P ao) N bE ap aC (.ptr r 0 0) (.ptr c 0 0) (.bool false) H) Q:=by
 unfold isRec rP isFun at ak;unfold rS;simp only[ix,bx,bi];refine aY (gI h.hI.rd h.hI.b9 [114,101,99,111,114,100] (by simp)) ?_;rintro _ bl ⟨rfl,aJ⟩;refine⟨aJ.1,?_⟩;have aa:=h.aK aJ;cases aI:b2 T s [114,101,99,111,114,100] with
 |true=>
  rw[aI,bx] at ak;obtain⟨⟨x,s1⟩,f1,f2⟩:=eT.1 ak;simp only[ix,bx,bi];exact ad6 jw aH aa eI f1 (L:=λH'=>bE ap aC (.ptr r 0 0) (.ptr c 0 0) H') λH' bZ=>tp H' _ _ bZ (by simp) (by simp) (by simp) f2
 |false=>
  rw[aI,bi] at ak;simp only[ix,bx,bi];refine aY (gI aa.hI.rd aa.hI.b9 [103,108,111,98,97,108] (by simp)) ?_;rintro _ cQ ⟨rfl,bz⟩;refine⟨bz.1,?_⟩;have ae:=aa.aK bz;cases bc:b2 T s [103,108,111,98,97,108] with
  |true=>
   rw[bc,bx] at ak;simp only[ix,bx,bi];refine ad5 jw aH ae fB (x:=(gZ T (aE s)).1) (s':=(gZ T (aE s)).2) rfl (L:=λH'=>aL H' (au P ao 31 [.ptr r 0 0,.str [59]] H') λFS bn=>bE ap aC (.ptr r 0 0) (.ptr c 0 0) bn) λH' bZ=> ?_
   refine aY (ly bZ.hI [59] (by simp)) ?_;rintro _ dc ⟨rfl,m5,iv⟩;exact⟨m5.1,tp _ _ _ (bZ.mt m5 iv) (by simp) (by simp) (by simp) ak⟩
  |false=>
   rw[bc,bi] at ak;simp only[ix,bx,bi];refine aY (gI ae.hI.rd ae.hI.b9 [102,117,110,99] (by simp)) ?_;rintro _ cu ⟨rfl,bK⟩;refine⟨bK.1,?_⟩;have al:=ae.aK bK;cases dm:b2 T s [102,117,110,99] with
   |true=>
    rw[dm,bx] at ak;obtain⟨⟨x,s1⟩,f1,f2⟩:=eT.1 ak;simp only[ix,bx,bi];exact abE jw aH al gL f1 (L:=λH'=>bE ap aC (.ptr r 0 0) (.ptr c 0 0) H') λH' bZ=>tp H' _ _ bZ (by simp) (by simp) (by simp) f2
   |false=>
    rw[dm,bi] at ak;simp only[ix,bx,bi];refine aY (sv al.hI 2) ?_;rintro _ dc ⟨rfl,m5,iv⟩;exact⟨m5.1,tp _ _ _ (al.mt m5 iv) (by simp) (by simp) (by simp) ak⟩
end
end
section
section
variable {H H' H0 H1:J}{r c:Nat}{T:List Tok}{aj ch cf ci:I}{s s' s0:aw}{g g':eb}
theorem Lu{n:Nat}(aS:H.get c=some (.row false 3 [[ch,cf,ci]]))(i_: ∀H',dC P H' .len [22] [ch]=some (.int .i64 n))(bs:ch.one=true)(b:Bool)(F:I->J->O):
  (aD (.bool b) true H (bm (aF P 26 (.ptr c 0 0) 0)) λeg aP=>aD (.bool b) true aP (qr (am P aP 22 eg)) λej bn=>aD (.bool b) true bn (λq=>ia (dC P .empty .len [22] [ej]) (dC P bn .len [22] [ej]) q) λed bH=>aD (.bool b) true bH (bm (aZ P .eql 3 true ed (.int .i64 12))) λfj co=>ab (cW (.bool b) (some fj) (some (.bool false))) λft=>F ft co)=F (.bool (b&&((n:Int)==12))) H:=by
 cases b
 ·simp-implicitDefEqProofs(disch:=try exact ag) only[reduceAdd,reduceLeDiff,reduceIte,az,Bool.false_and]
 ·simp-implicitDefEqProofs(disch:=try exact ag) only[reduceAdd,reduceLeDiff,reduceIte,az,aS,i_,Bool.true_and]
theorem Lv{n:Nat}(aS:H.get c=some (.row false 3 [[ch,cf,ci]]))(i_: ∀H',dC P H' .len [23] [cf]=some (.int .i64 n))(bs:cf.one=true)(b:Bool)(F:I->J->O):
  (aD (.bool b) true H (bm (aF P 26 (.ptr c 0 0) 1)) λeg aP=>aD (.bool b) true aP (qr (am P aP 23 eg)) λej bn=>aD (.bool b) true bn (λq=>ia (dC P .empty .len [23] [ej]) (dC P bn .len [23] [ej]) q) λed bH=>aD (.bool b) true bH (bm (aZ P .eql 3 true ed (.int .i64 8))) λfj co=>ab (cW (.bool b) (some fj) (some (.bool false))) λft=>F ft co)=F (.bool (b&&((n:Int)==8))) H:=by
 cases b
 ·simp-implicitDefEqProofs(disch:=try exact ag) only[reduceAdd,reduceLeDiff,reduceIte,az,Bool.false_and]
 ·simp-implicitDefEqProofs(disch:=try exact ag) only[reduceAdd,reduceLeDiff,reduceIte,az,aS,i_,Bool.true_and]
theorem aiq{n:Nat}(aS:H.get c=some (.row false 3 [[ch,cf,ci]]))(i_: ∀H',dC P H' .len [24] [ci]=some (.int .i64 n))(bs:ci.one=true)(b:Bool)(F:I->J->O):
  (aD (.bool b) true H (bm (aF P 26 (.ptr c 0 0) 2)) λeg aP=>aD (.bool b) true aP (qr (am P aP 24 eg)) λej bn=>aD (.bool b) true bn (λq=>ia (dC P .empty .len [24] [ej]) (dC P bn .len [24] [ej]) q) λed bH=>aD (.bool b) true bH (bm (aZ P .eql 3 true ed (.int .i64 16))) λfj co=>ab (cW (.bool b) (some fj) (some (.bool false))) λft=>F ft co)=F (.bool (b&&((n:Int)==16))) H:=by
 cases b
 ·simp-implicitDefEqProofs(disch:=try exact ag) only[reduceAdd,reduceLeDiff,reduceIte,az,Bool.false_and]
 ·simp-implicitDefEqProofs(disch:=try exact ag) only[reduceAdd,reduceLeDiff,reduceIte,az,aS,i_,Bool.true_and]
theorem jc.cells(h:jc H0 r c T aj H g s): ∃ch cf ci,H.get c=some (.row false 3 [[ch,cf,ci]])/\(∀H',dC P H' .len [22] [ch]=some (.int .i64 g.ey.length))/\(∀H',dC P H' .len [23] [cf]=some (.int .i64 g.globals.length))/\(∀H',dC P H' .len [24] [ci]=some (.int .i64 g.funcs.length))/\ch.one=true/\cf.one=true/\ci.one=true:=by
 obtain⟨ch,cf,ci,cS,dq,dP,ai,ap,aC,a_,bf,c_,cD,b3,-⟩:=h;exact⟨ch,cf,ci,bf,c_.vE,cD.rQ,b3.vF,c_.one,cD.one,b3.one⟩
theorem KG(n m:Nat):((n:Int)==(m:Int))=(n==m):=by
 by_cases h:n=m
 ·subst h;simp
 ·have:(n:Int)≠(m:Int):=Z;rw[show(n==m)=false by simpa using h];exact beq_eq_false_iff_ne.2 this
theorem Kh{N M:Nat}(jw:M<=900000000)(aH:T.length<=20000000){ap aC:I}{Q:I->J->Prop}
  (eH: ∀H,jc H0 r c T aj H g' s'->W (xA (au P ao) N ap aC (.ptr r 0 0) (.ptr c 0 0) H) Q):
  ∀(n m:Nat) (H:J) (s:aw) (g:eb),n<m->g.ey.length+n<=900000000->g.globals.length+n<=900000000->g.funcs.length+n<=900000000->jc H0 r c T aj H g s->iX T M n g s=some (g',s')->W (vI (au P ao) N m ap aC (.ptr r 0 0) (.ptr c 0 0) H) Q
 |_,0,_,_,_,aV,_,_,_,_,_=>Z
 |0,m+1,_,_,_,_,_,_,_,_,ak=>by cases ak
 |n+1,m+1,H,s,g,aV,eI,fB,gL,h,ak=>by
  rw[iX] at ak;rw[vI];unfold HA;refine aY (tB h.hI.rd) ?_;rintro _ bl ⟨rfl,rfl⟩;refine⟨bL _,?_⟩;by_cases a6:s.aA=0
  ·have ib:(s.aA==0)=true:=by simpa using a6
   rw[ib,Bool.true_and] at ak;simp-implicitDefEqProofs(disch:=try exact ag) only[bj,bO,ib];refine hh (nZ h.hI.rd h.hI.b9) ?_;rintro _ cQ ⟨rfl,bz⟩;refine⟨bz.1,?_⟩;have ae:=h.aK bz;cases ah:((aq T s.at_).kind != 0) with
   |false=>
    rw[ah,bi] at ak;cases ak;simp-implicitDefEqProofs(disch:=try exact ag) only[bj,bO,ei,fE,Tok.v,ah,ib];exact eH _ ae
   |true=>
    rw[ah,bx] at ak;simp-implicitDefEqProofs(disch:=try exact ag) only[bj,bO,ei,fE,Tok.v,ah,ib];have full: ∀dc,jc H0 r c T aj dc g s->((isRec T s&&g.ey.length==12)||((rP T s&&g.globals.length==8)||(isFun T s&&g.funcs.length==16)))=true->W (rS (au P ao) N (vI (au P ao) N m) ap aC (.ptr r 0 0) (.ptr c 0 0) (.bool true) dc) Q:=λdc aB bW=>by
     rw[bW,bx] at ak;exact af7 aB λfX aG=>Kh jw aH eH n m fX _ _ Z Z Z Z aG ak
    have free: ∀dc,jc H0 r c T aj dc g s->((isRec T s&&g.ey.length==12)||((rP T s&&g.globals.length==8)||(isFun T s&&g.funcs.length==16)))=false->W (rS (au P ao) N (vI (au P ao) N m) ap aC (.ptr r 0 0) (.ptr c 0 0) (.bool false) dc) Q:=λdc aB bW=>by
     rw[bW,bi] at ak;exact af6 jw aH aB Z Z Z ak λfX g1 s1 aG cE cx eM eX=>Kh jw aH eH n m fX _ _ Z Z Z Z aG eX
    refine aY (gI ae.hI.rd ae.hI.b9 [114,101,99,111,114,100] (by simp)) ?_;rintro _ cu ⟨rfl,bK⟩;refine⟨bK.1,?_⟩;have al:=ae.aK bK;obtain⟨ch,cf,ci,aS,fw,n2,jy,e8,fT,nY⟩:=al.cells;rw[Lu aS fw e8,show(12:Int)=((12:Nat):Int) from rfl,KG];cases cE:b2 T s [114,101,99,111,114,100]&&g.ey.length==12 with
    |true=>
     simp only[ix,bx];exact full _ al (by rw[show(isRec T s&&g.ey.length==12)=true from cE];rfl)
    |false=>
     simp only[ix,bi];refine aY (gI al.hI.rd al.hI.b9 [103,108,111,98,97,108] (by simp)) ?_;rintro _ dc ⟨rfl,cO⟩;refine⟨cO.1,?_⟩;have aB:=al.aK cO;obtain⟨ch,cf,ci,aS,fw,n2,jy,e8,fT,nY⟩:=aB.cells;rw[Lv aS n2 fT,show(8:Int)=((8:Nat):Int) from rfl,KG];cases cx:b2 T s [103,108,111,98,97,108]&&g.globals.length==8 with
     |true=>
      simp only[ix,bx];exact full _ aB (by rw[show(isRec T s&&g.ey.length==12)=false from cE,show(rP T s&&g.globals.length==8)=true from cx];rfl)
     |false=>
      simp only[ix,bi];refine aY (gI aB.hI.rd aB.hI.b9 [102,117,110,99] (by simp)) ?_;rintro _ fX ⟨rfl,e2⟩;refine⟨e2.1,?_⟩;have aG:=aB.aK e2;obtain⟨ch,cf,ci,aS,fw,n2,jy,e8,fT,nY⟩:=aG.cells;rw[aiq aS jy nY,show(16:Int)=((16:Nat):Int) from rfl,KG];cases eM:b2 T s [102,117,110,99]&&g.funcs.length==16 with
      |true=>exact full _ aG (by rw[show(isRec T s&&g.ey.length==12)=false from cE,show(rP T s&&g.globals.length==8)=false from cx,show(isFun T s&&g.funcs.length==16)=true from eM];rfl)
      |false=>exact free _ aG (by rw[show(isRec T s&&g.ey.length==12)=false from cE,show(rP T s&&g.globals.length==8)=false from cx,show(isFun T s&&g.funcs.length==16)=false from eM];rfl)
  ·have ib:(s.aA==0)=false:=by simpa using a6
   rw[ib,Bool.false_and,bi] at ak;cases ak;simp-implicitDefEqProofs(disch:=try exact ag) only[bj,bO,ib];exact eH _ h
end
end
section
theorem agF{aj:I}{T:List Tok}{H:J}(h:h9 H aj T):cM P 63 [(0,aj)]=some (.agg [aj,.int .i64 0,.int .i64 0,.int .i64 0,.int .i64 0]):=by
 rcases h with⟨rfl,_⟩|⟨l,i,cap,rfl,_⟩<;>kernel_rfl
section
variable {H:J}
theorem Qs(s:bk){g':eb}{s':aw}{M n:Nat}(jw:M<=800000000)(aV:n<=800000000)(bA:(gg s).2.1=0->iX (gg s).1 M n .none ⟨0,0,0,0⟩=some (g',s')):W (au P ao 9 [.str s] H) (Rx H (j3 s g' s')):=by
 refine cU (λ_=>aof (n+1)) ?_;have eh:=(aR.push H (.row false 3 [[.an,.an,.an]])).bV (.row false 2 [[.int .i64 0,.int .i64 0]]);unfold jI;simp-implicitDefEqProofs(disch:=try exact ag) only[bj,bO,List.length_cons,List.length_nil,Nat.zero_add,Nat.reduceAdd];refine aY (aa4 s) ?_;rintro _ cQ ⟨aj,rfl,wl,bz⟩;refine⟨bz.1,?_⟩;have fv:=bz.get ((aR.push (H.push (.row false 3 [[.an,.an,.an]])) (.row false 2 [[.int .i64 0,.int .i64 0]])).get (J.ca H (.row false 3 [[.an,.an,.an]])));have hF:=bz.get (J.ca (H.push (.row false 3 [[.an,.an,.an]])) (.row false 2 [[.int .i64 0,.int .i64 0]]));have jy:=bz.1;simp only[J.b6] at jy hF
 have Aw:= @Lh s;unfold j3;generalize gg s=b9 at wl bA Aw ⊢;obtain⟨T,aA,cw⟩:=b9;simp only at wl bA Aw ⊢;have eB:=aR.push cQ (.row false 2 [[.int .i64 aA,.int .i64 cw]]);have gc:=J.ca cQ (.row false 2 [[.int .i64 aA,.int .i64 cw]]);have pc:=eB.get fv;have qg:=eB.get hF;have mz:(cQ.push (.row false 2 [[.int .i64 aA,.int .i64 cw]])).next=cQ.next+1:=by simp only[J.b6]
 have bK:=(eh.trans bz).trans eB;have te:=wl.aK eB;by_cases ak:aA=0
 ·subst ak;have z0:((0:Int) != 0)=false:=rfl;simp-implicitDefEqProofs(disch:=try exact ag) only[bj,bO,fE,am,dy,aQ,dy,Nat.reduceAdd,Nat.reduceLeDiff,reduceIte,I.cells,eu,fl,dD,ei,J.h8,z0];generalize cQ.push (.row false 2 [[.int .i64 0,.int .i64 cw]])=cu at eB gc pc qg mz bK te ⊢;obtain⟨aH,ax⟩:=Aw rfl;have pf:=agF te;have df:=te.one;have ic: ∀l,eW l (.agg [aj,.int .i64 0,.int .i64 0,.int .i64 0,.int .i64 0])=some (.ptr l 0 0,.row false 5 [[aj,.int .i64 0,.int .i64 0,.int .i64 0,.int .i64 0]]):=λl=>ij l _ (by simp only[List.all_cons,List.all_nil,iy,df,Bool.and_self])
  have eN:=aR.push cu (.row false 5 [[aj,.int .i64 0,.int .i64 0,.int .i64 0,.int .i64 0]]);have gC:=aR.push (cu.push (.row false 5 [[aj,.int .i64 0,.int .i64 0,.int .i64 0,.int .i64 0]])) (.row false 3 [[.an,.an,.an]]);have ZV:=J.ca (cu.push (.row false 5 [[aj,.int .i64 0,.int .i64 0,.int .i64 0,.int .i64 0]])) (.row false 3 [[.an,.an,.an]]);have nV:(cu.push (.row false 5 [[aj,.int .i64 0,.int .i64 0,.int .i64 0,.int .i64 0]])).next=cu.next+1:=by simp only[J.b6]
  rw[nV] at ZV;have e2:=(bK.trans eN).trans gC;have rs:jc H cu.next (cu.next+1) T aj ((cu.push (.row false 5 [[aj,.int .i64 0,.int .i64 0,.int .i64 0,.int .i64 0]])).push (.row false 3 [[.an,.an,.an]])) .none ⟨0,0,0,0⟩:=by
   refine⟨.an,.an,.an,(λ_=>False),(λ_=>False),(λ_=>False),⟨gC.get (J.ca _ _),(te.aK eN).aK gC⟩,?_,gC.get (eN.get pc),gC.get (eN.get qg),ZV,fF.nil,fF.nil,fF.nil,λ_ h=>h.elim,λ_ h=>h.elim,λ_ h=>h.elim,Z,Z,e2.mut _⟩;intro l i m e c bw;rcases te with⟨rfl,_⟩|⟨l',qy,cap,rfl,bW⟩
   ·cases bw
   ·cases bw;obtain⟨ro,els,cE,-⟩:=bW.resolve_left (by rintro rfl;simp at ax);exact J.aW cE
  simp-implicitDefEqProofs(disch:=try exact ag) only[bj,bO,pf,ic,nV];refine Kh (M:=M) Z aH.n (λfX aG=> ?_) n (n+1) _ _ .none Z (by simp only[eb.none,List.length_nil];omega) (by simp only[eb.none,List.length_nil];omega) (by simp only[eb.none,List.length_nil];omega) rs (bA rfl);obtain⟨ch,cf,ci,cS,dq,dP,ai,ap,r5,Am,YF,c_,cD,b3,bJ,c2,c3,cZ,dk,fG⟩:=aG;have q8:=ai.rd;unfold c1 at q8;have dJ:=c_.one;have eL:=cD.one;have iJ:=b3.one;have F7:=J.aW r5;have yy:=J.aW Am;have asg:=J.aW YF;have nf:aR H fX:=⟨fG.1,λl ax=>fG.2 l ax Z⟩;unfold xA;refine aY (tB ai.rd) ?_;rintro _ fY ⟨rfl,rfl⟩;refine⟨bL _,?_⟩;unfold uo
  by_cases a6:s'.aA=0
  ·have mi:(s'.aA==0)=true:=by simpa using a6
   simp-implicitDefEqProofs(disch:=try exact ag) only[reduceAdd,reduceLeDiff,reduceIte,az,mi,Bool.not_true,YF,r5,Am,dJ,eL,iJ];rw[if_pos a6];have iS: ∀ok:Nat->Prop,(∀k,ok k->cu.next+1<k)->d_ fY ok ((fY.set H.next (.row false 3 [[ch,cf,ci]])).set (H.next+1) (.row false 2 [[.int .i64 0,.int .i64 0]])) (bG H.next):=λok ah k b bs g=>by
    have:=ah k bs;exact⟨by unfold bG;omega,by rw[J.get_set_other Z,J.get_set_other Z];exact g⟩
   exact a8.2 ⟨ch,cf,ci,rfl,(c_.aM).bo (iS cS λk ah=>(bJ k ah).1),(cD.aM).bo (iS dq λk ah=>(c2 k ah).1),(b3.aM).bo (iS dP c3),(nf.de (bL _) _).de Z _⟩
  ·have mi:(s'.aA==0)=false:=by simpa using a6
   simp-implicitDefEqProofs(disch:=try exact ag) only[reduceAdd,reduceLeDiff,reduceIte,az,mi,Bool.not_false,q8,r5,Am,HS];rw[if_neg a6];exact a8.2 ⟨.an,.an,.an,rfl,eR.nil,eR.nil,eR.nil,(nf.de (bL _) _).de Z _⟩
 ·have z0:(aA != 0)=true:=by simpa using ak
  have apS:=J.aW pc;have apT:=J.aW qg;rw[if_neg ak];have F7:=J.aW fv;have yy:=J.aW hF;have NU:=eh.trans bz;simp-implicitDefEqProofs(disch:=try exact ag) only[reduceAdd,reduceLeDiff,reduceIte,az,J.h8,z0,fv,hF,HS];refine a8.2 ⟨.an,.an,.an,rfl,eR.nil,eR.nil,eR.nil,?_⟩
  repeat (first|exact NU|refine aR.bV ?_ _|refine aR.de ?_ Z _)
end
end
section
set_option maxRecDepth 100000
noncomputable section
def zf(G:av)(N:Nat)(H:J):O:=
 some ((.bool true),H)
theorem ad_(G:av)(N:Nat): ∀R H,cA P G N (Code.snd (Code.snd (Code.snd (Code.snd (di Tryz.f10))))) (b_ Tryz.f10) [] (b_ Tryz.f10) R H=zf G N H:=by
 refine ds (aN _) λR H=> ?_
 delta zf;kernel_rfl
def B2(G:av)(N:Nat)(h2:I->I->I->J->O)(ap aC bB:I)(H:J):O:=
 ab (aF P 26 ap 2) λAN=>
 ab (am P H 24 AN) λnO=>
 bj P .len [24] [nO] H λpr=>
 ab (aZ P .lss 3 false bB pr) λmY=>
 bQ (some mY) (ab (aF P 26 ap 2) λqq=>
 ab (am P H 24 qq) λuP=>
 ab (en P 24 uP bB) λuQ=>
 ab (am P H 46 uQ) λqs=>
 cv H [(.str []),I.an,(.bool false),(.str []),(.int .i64 0),I.an,(.int .i64 0)] λbu U=>
 cv U [(.str []),I.an,(.bool false),(.str []),(.int .i64 0),I.an,(.int .i64 0)] λbS aa=>
 a1 aa (aQ P aa 46 bu qs) λae=>
 ab (aF P 26 aC 2) λre=>
 ab (am P ae 24 re) λrf=>
 ab (en P 24 rf bB) λrh=>
 ab (am P ae 46 rh) λqt=>
 a1 ae (aQ P ae 46 bS qt) λal=>
 bif ((cd (am P H 24 qq) uP&&(cd (am P U 24 qq) uP&&(cd (am P aa 24 qq) uP&&true)))&&((cd (am P H 46 uQ) qs&&(cd (am P U 46 uQ) qs&&(cd (am P aa 46 uQ) qs&&true)))&&((cd (am P H 24 re) rf&&(cd (am P U 24 re) rf&&(cd (am P aa 24 re) rf&&(cd (am P ae 24 re) rf&&true))))&&((cd (am P H 46 rh) qt&&(cd (am P U 46 rh) qt&&(cd (am P aa 46 rh) qt&&(cd (am P ae 46 rh) qt&&true))))&&true)))) then(ab (aF P 46 bu 0) λyq=>
 ab (am P al 9 yq) λN6=>
 ab (aF P 46 bS 0) λwz=>
 ab (am P al 9 wz) λuR=>
 ab (aZ P .neq 9 false N6 uR) λoO=>
 aD oO false al (bm (aF P 46 bu 1)) λAQ aB=>
 aD oO false aB (qr (am P aB 23 AQ)) λFS aG=>
 aD oO false aG (bm (aF P 46 bS 1)) λFT aP=>
 aD oO false aP (qr (am P aP 23 FT)) λaqd bn=>
 aD oO false bn (λq=>fo bn (G 33 [FS,aqd] bn) q) λAR bH=>
 aD oO false bH (bm (fh .not AR)) λN8 co=>
 ab (cW oO (some (.bool true)) (some N8)) λqu=>
 aD qu false co (bm (aF P 46 bu 2)) λvV dp=>
 aD qu false dp (qr (am P dp 4 vV)) λAf dR=>
 aD qu false dR (bm (aF P 46 bS 2)) λEW eF=>
 aD qu false eF (qr (am P eF 4 EW)) λCK fs=>
 aD qu false fs (bm (aZ P .neq 4 false Af CK)) λx5 fP=>
 ab (cW qu (some (.bool true)) (some x5)) λr4=>
 aD r4 false fP (bm (aF P 46 bu 3)) λAg gG=>
 aD r4 false gG (qr (am P gG 43 Ag)) λEX hM=>
 aD r4 false hM (bm (aF P 46 bS 3)) λEY ht=>
 aD r4 false ht (qr (am P ht 43 EY)) λEZ kL=>
 aD r4 false kL (bm (aZ P .neq 43 false EX EZ)) λE0 iC=>
 ab (cW r4 (some (.bool true)) (some E0)) λvW=>
 aD vW false iC (bm (aF P 46 bu 4)) λaoj hU=>
 aD vW false hU (qr (am P hU 44 aoj)) λH_ kM=>
 aD vW false kM (bm (aF P 46 bS 4)) λE1 hB=>
 aD vW false hB (qr (am P hB 44 E1)) λAh pd=>
 aD vW false pd (λq=>fo pd (G 34 [H_,Ah] pd) q) λvX lR=>
 aD vW false lR (bm (fh .not vX)) λE2 mP=>
 ab (cW vW (some (.bool true)) (some E2)) λE3=>
 bQ (some E3) (some ((.bool false),mP)) (ab (aZ P .add 3 true bB (.int .i64 1)) λwy=>
 h2 ap aC wy mP)) else none) (zf G N H)
def vh(G:av)(N:Nat):Nat->I->I->I->J->O
 |0,_,_,_,_=>none
 |n+1,ap,aC,bB,H=>B2 G N (vh G N n) ap aC bB H
theorem ad7(G:av)(N:Nat)(h2:I->I->I->J->O): ∀R H,cA P G N (Code.fst (Code.fst (Code.snd (Code.fst (Code.snd (Code.snd (Code.snd (di Tryz.f10)))))))) (λR H=>h2 (R 2) (R 3) (R 6) H) [(2,(λR H=>zf G N H))] (b_ Tryz.f10) R H=B2 G N h2 (R 2) (R 3) (R 6) H:=by
 refine ds (aN _) λR H=> ?_
 delta B2;generalize zf G N=ba;revert ba;refine id ?_;intro ba;kernel_rfl
def vg(G:av)(N:Nat)(ap aC:I)(H:J):O:=
 vh G N N ap aC (.int .i64 0) H
theorem ad9(G:av)(N:Nat): ∀R H,cA P G N (Code.snd (Code.snd (Code.snd (di Tryz.f10)))) (b_ Tryz.f10) [] (b_ Tryz.f10) R H=vg G N (R 2) (R 3) H:=by
 refine ds ((br ad (ad_ G N) ((br ad ((fL ad ((gD (k:=λm R H=>vh G N m (R 2) (R 3) (R 6) H) ad (λR H=>ad) (λm=>ad7 G N (vh G N m)))))) (aN _))))) λR H=> ?_
 delta vg;generalize vh G N N=ba;revert ba;refine id ?_;intro ba;kernel_rfl
def B3(G:av)(N:Nat)(lr:I->I->I->J->O)(ap aC bf:I)(H:J):O:=
 ab (aF P 26 ap 0) λe6=>
 ab (am P H 22 e6) λeg=>
 bj P .len [22] [eg] H λej=>
 ab (aZ P .lss 3 false bf ej) λed=>
 bQ (some ed) (ab (aF P 26 ap 0) λe7=>
 ab (am P H 22 e7) λfy=>
 ab (en P 22 fy bf) λgv=>
 ab (aF P 41 gv 0) λeU=>
 ab (am P H 9 eU) λgw=>
 ab (aF P 26 aC 0) λgb=>
 ab (am P H 22 gb) λgS=>
 ab (en P 22 gS bf) λhv=>
 ab (aF P 41 hv 0) λh1=>
 ab (am P H 9 h1) λhV=>
 ab (aZ P .neq 9 false gw hV) λgx=>
 il gx false (bm (aF P 26 ap 0)) λgY=>
 il gx false (qr (am P (gY.heap H) 22 gY.val)) λjL=>
 il gx false (dw bf) λmf=>
 il gx false (bm (en P 22 jL.val mf.val)) λmM=>
 il gx false (bm (aF P 41 mM.val 1)) λmN=>
 il gx false (qr (am P (mN.heap (mM.heap (mf.heap (jL.heap (gY.heap H))))) 23 mN.val)) λp8=>
 il gx false (bm (aF P 26 aC 0)) λq0=>
 il gx false (qr (am P (q0.heap (p8.heap (mN.heap (mM.heap (mf.heap (jL.heap (gY.heap H))))))) 22 q0.val)) λzV=>
 il gx false (dw bf) λzW=>
 il gx false (bm (en P 22 zV.val zW.val)) λzX=>
 il gx false (bm (aF P 41 zX.val 1)) λxw=>
 il gx false (qr (am P (xw.heap (zX.heap (zW.heap (zV.heap (q0.heap (p8.heap (mN.heap (mM.heap (mf.heap (jL.heap (gY.heap H))))))))))) 23 xw.val)) λCh=>
 il gx false (λq=>fo (Ch.heap (xw.heap (zX.heap (zW.heap (zV.heap (q0.heap (p8.heap (mN.heap (mM.heap (mf.heap (jL.heap (gY.heap H)))))))))))) (G 33 [p8.val,Ch.val] (Ch.heap (xw.heap (zX.heap (zW.heap (zV.heap (q0.heap (p8.heap (mN.heap (mM.heap (mf.heap (jL.heap (gY.heap H))))))))))))) q) λHq=>
 il gx false (bm (fh .not Hq.val)) λHr=>
 ab (cW gx (some (.bool true)) (some Hr.val)) λhn=>
 bif qY [0,1,0,7,15,31,0,64,0,448,960,1984,4095,8191,16383,32767,16383,131071,262143,524287,16383,1064959,16383,7356415,15745023,32522239,67108863,134217727,268435455] [0,1,2,3,4,5,6,7,8,9,10,11,12,13,14,15,16,17,18,19,20,21,22,23,24,25,26,27,28] [⟨0,(.pure e7),λH=>none⟩,⟨1,(.read fy),λH=>am P H 22 e7⟩,⟨2,(.pure bf),λH=>none⟩,⟨3,(.pure gv),λH=>none⟩,⟨4,(.pure eU),λH=>none⟩,⟨5,(.read gw),λH=>am P H 9 eU⟩,⟨6,(.pure gb),λH=>none⟩,⟨7,(.read gS),λH=>am P H 22 gb⟩,⟨8,(.pure bf),λH=>none⟩,⟨9,(.pure hv),λH=>none⟩,⟨10,(.pure h1),λH=>none⟩,⟨11,(.read hV),λH=>am P H 9 h1⟩,⟨12,(.pure gx),λH=>none⟩,⟨13,(.pure gx),λH=>none⟩,⟨14,gY,λH=>none⟩,⟨15,jL,λH=>am P H 22 gY.val⟩,⟨16,mf,λH=>none⟩,⟨17,mM,λH=>none⟩,⟨18,mN,λH=>none⟩,⟨19,p8,λH=>am P H 23 mN.val⟩,⟨20,q0,λH=>none⟩,⟨21,zV,λH=>am P H 22 q0.val⟩,⟨22,zW,λH=>none⟩,⟨23,zX,λH=>none⟩,⟨24,xw,λH=>none⟩,⟨25,Ch,λH=>am P H 23 xw.val⟩,⟨26,Hq,λH=>none⟩,⟨27,Hr,λH=>none⟩,⟨28,(.pure hn),λH=>none⟩] H then(bQ (some hn) (some ((.bool false),(Hr.heap (Hq.heap (Ch.heap (xw.heap (zX.heap (zW.heap (zV.heap (q0.heap (p8.heap (mN.heap (mM.heap (mf.heap (jL.heap (gY.heap H)))))))))))))))) (ab (aZ P .add 3 true bf (.int .i64 1)) λft=>
 lr ap aC ft (Hr.heap (Hq.heap (Ch.heap (xw.heap (zX.heap (zW.heap (zV.heap (q0.heap (p8.heap (mN.heap (mM.heap (mf.heap (jL.heap (gY.heap H)))))))))))))))) else none) (vg G N ap aC H)
def sH(G:av)(N:Nat):Nat->I->I->I->J->O
 |0,_,_,_,_=>none
 |n+1,ap,aC,bf,H=>B3 G N (sH G N n) ap aC bf H
theorem ad8(G:av)(N:Nat)(lr:I->I->I->J->O): ∀R H,cA P G N (Code.fst (Code.fst (Code.snd (Code.fst (Code.snd (Code.snd (di Tryz.f10))))))) (λR H=>lr (R 2) (R 3) (R 5) H) [(0,(λR H=>vg G N (R 2) (R 3) H))] (b_ Tryz.f10) R H=B3 G N lr (R 2) (R 3) (R 5) H:=by
 refine ds (aN _) λR H=> ?_
 delta B3;generalize vg G N=ba;revert ba;refine id ?_;intro ba;kernel_rfl
def IE(G:av)(N:Nat)(Y ai:I)(H:J):O:=
 dA H (eW (H).next Y) λap U=>
 dA U (eW (U).next ai) λaC aa=>
 ab (aF P 26 ap 0) λbF=>
 ab (am P aa 22 bF) λcr=>
 bj P .len [22] [cr] aa λb8=>
 ab (aF P 26 aC 0) λcb=>
 ab (am P aa 22 cb) λb0=>
 bj P .len [22] [b0] aa λbT=>
 ab (aZ P .neq 3 false b8 bT) λbX=>
 aD bX false aa (bm (aF P 26 ap 2)) λcc ae=>
 aD bX false ae (qr (am P ae 24 cc)) λcG al=>
 aD bX false al (λq=>ia (dC P .empty .len [24] [cG]) (dC P al .len [24] [cG]) q) λc6 aB=>
 aD bX false aB (bm (aF P 26 aC 2)) λcN aG=>
 aD bX false aG (qr (am P aG 24 cN)) λcz aP=>
 aD bX false aP (λq=>ia (dC P .empty .len [24] [cz]) (dC P aP .len [24] [cz]) q) λc7 bn=>
 aD bX false bn (bm (aZ P .neq 3 false c6 c7)) λcI bH=>
 ab (cW bX (some (.bool true)) (some cI)) λdb=>
 aD db false bH (bm (aF P 26 ap 1)) λdu co=>
 aD db false co (qr (am P co 23 du)) λdh dp=>
 aD db false dp (bm (aF P 26 aC 1)) λdT dR=>
 aD db false dR (qr (am P dR 23 dT)) λdI eF=>
 aD db false eF (λq=>fo eF (G 33 [dh,dI] eF) q) λcH fs=>
 aD db false fs (bm (fh .not cH)) λep fP=>
 ab (cW db (some (.bool true)) (some ep)) λdV=>
 bQ (some dV) (some ((.bool false),fP)) (sH G N N ap aC (.int .i64 0) fP)
theorem ajI(G:av)(N:Nat)(Y:I)(ai:I)(H:J):bp Tryz.f10 G N (cF [Y,ai]) H=IE G N Y ai H:=by
 refine cP (A:=bp Tryz.f10 G N) ((br ad ((br ad ((br ad (ad9 G N) ((br ad ((fL ad ((gD (k:=λm R H=>sH G N m (R 2) (R 3) (R 5) H) ad (λR H=>ad) (λm=>ad8 G N (sH G N m)))))) (aN _))))) (aN _))) (aN _))) ?_;delta IE;generalize sH G N N=ba;revert ba;refine id ?_;intro ba;kernel_rfl
theorem alJ(N:Nat){Y ai:I}{H:J}{r:I×J}(h:IE (au P ao) N Y ai H=some r):au P ao 10 [Y,ai] H=some r:=
 cV ad Tryz.func10 ad ad ad ((ajI (au P ao) N Y ai H).trans h)
def vm(G:av)(N:Nat)(H:J):O:=
 some ((.bool true),H)
theorem aeq(G:av)(N:Nat): ∀R H,cA P G N (Code.snd (Code.snd (Code.snd (di Tryz.f33)))) (b_ Tryz.f33) [] (b_ Tryz.f33) R H=vm G N H:=by
 refine ds (aN _) λR H=> ?_
 delta vm;kernel_rfl
def zm(G:av)(N:Nat)(bE:I->I->I->J->O)(Y ai bf:I)(H:J):O:=
 bj P .len [23] [Y] H λb0=>
 ab (aZ P .lss 3 false bf b0) λbT=>
 bQ (some bT) (ab (en P 23 Y bf) λc6=>
 ab (aF P 66 c6 0) λcN=>
 ab (am P H 9 cN) λcz=>
 ab (en P 23 ai bf) λdb=>
 ab (aF P 66 db 0) λdn=>
 ab (am P H 9 dn) λdu=>
 ab (aZ P .neq 9 false cz du) λdh=>
 aD dh false H (dw Y) λdI U=>
 aD dh false U (dw bf) λcH aa=>
 aD dh false aa (bm (en P 23 dI cH)) λep ae=>
 aD dh false ae (bm (aF P 66 ep 1)) λdV al=>
 aD dh false al (qr (am P al 43 dV)) λef aB=>
 aD dh false aB (dw ai) λe6 aG=>
 aD dh false aG (dw bf) λeg aP=>
 aD dh false aP (bm (en P 23 e6 eg)) λej bn=>
 aD dh false bn (bm (aF P 66 ej 1)) λed bH=>
 aD dh false bH (qr (am P bH 43 ed)) λfj co=>
 aD dh false co (bm (aZ P .neq 43 false ef fj)) λft dp=>
 ab (cW dh (some (.bool true)) (some ft)) λe7=>
 bQ (some e7) (some ((.bool false),dp)) (ab (aZ P .add 3 true bf (.int .i64 1)) λbI=>
 bE Y ai bI dp)) (vm G N H)
def tV(G:av)(N:Nat):Nat->I->I->I->J->O
 |0,_,_,_,_=>none
 |n+1,Y,ai,bf,H=>zm G N (tV G N n) Y ai bf H
theorem aep(G:av)(N:Nat)(bE:I->I->I->J->O): ∀R H,cA P G N (Code.fst (Code.fst (Code.snd (Code.fst (Code.snd (Code.snd (di Tryz.f33))))))) (λR H=>bE (R 0) (R 1) (R 5) H) [(0,(λR H=>vm G N H))] (b_ Tryz.f33) R H=zm G N bE (R 0) (R 1) (R 5) H:=by
 refine ds (aN _) λR H=> ?_
 delta zm;generalize vm G N=ba;revert ba;refine id ?_;intro ba;kernel_rfl
def AI(G:av)(N:Nat)(Y ai:I)(H:J):O:=
 bj P .len [23] [Y] H λbu=>
 bj P .len [23] [ai] H λbF=>
 ab (aZ P .neq 3 false bu bF) λcr=>
 bQ (some cr) (some ((.bool false),H)) (tV G N N Y ai (.int .i64 0) H)
theorem aj2(G:av)(N:Nat)(Y:I)(ai:I)(H:J):bp Tryz.f33 G N (cF [Y,ai]) H=AI G N Y ai H:=by
 refine cP (A:=bp Tryz.f33 G N) ((br ad ((br ad ((br ad (aeq G N) ((br ad ((fL ad ((gD (k:=λm R H=>tV G N m (R 0) (R 1) (R 5) H) ad (λR H=>ad) (λm=>aep G N (tV G N m)))))) (aN _))))) (aN _))) (aN _))) ?_;delta AI;generalize tV G N N=ba;revert ba;refine id ?_;intro ba;kernel_rfl
theorem al3(N:Nat){Y ai:I}{H:J}{r:I×J}(h:AI (au P ao) N Y ai H=some r):au P ao 33 [Y,ai] H=some r:=
 cV ad Tryz.func33 ad ad ad ((aj2 (au P ao) N Y ai H).trans h)
end
end
section
theorem adO(x y:Bool):Option.map (λb=>I.bool (!b)) (bif x then(bif y then some true else some false) else some false)=some (.bool (!(x&&y))):=by cases x<;>cases y<;>rfl
theorem Hx(a b:bk)(c d:Int):aZ P .neq 43 false (.agg [.str a,.int .i64 c]) (.agg [.str b,.int .i64 d])=some (.bool (!(a==b&&c==d))):=
 Eq.trans ad (adO (a==b) (c==d))
theorem VU{N:Nat}{l m:List dW}(ax:l.length<=1000000000)(hm:l.length=m.length){hf iI iu li:Nat}{kc lc:Option Nat}{mm mn:Bool}{iM iN:List (List I)}{H:J}{ok ok':Nat->Prop}(aG:H.get hf=some (.row mm 4 iM))(aP:H.get iu=some (.row mn 4 iN))(aI: ∀(j:Nat) (a:dW),l[j]? =some a-> ∃cs,iM[iI+j]? =some cs/\ga.V H ok a cs)(bc: ∀(j:Nat) (a:dW),m[j]? =some a-> ∃cs,iN[li+j]? =some cs/\ga.V H ok' a cs):
  ∀(c j n:Nat),j+c=l.length->c<n->
  W (tV (au P ao) N n (.aM hf iI l.length 4 kc) (.aM iu li m.length 4 lc) (.int .i64 j) H) λr H'=>r= .bool (gh iV (l.drop j) (m.drop j))/\H'=H
 |_,_,0,_,aV=>Z
 |0,j,n+1,aS,aV=>by
  have bP: ¬((j:Int)<(l.length:Int)):=Z;have d1:l.drop j=[]:=List.drop_eq_nil_of_le Z;have d2:m.drop j=[]:=List.drop_eq_nil_of_le Z;simp-implicitDefEqProofs(disch:=try exact ag) only[tV,vm,zm,AI,reduceAdd,reduceLeDiff,reduceIte,az,bP,decide_false];exact a8.2 ⟨by rw[d1,d2];rfl,rfl⟩
 |c+1,j,n+1,aS,aV=>by
  have nF:j<l.length:=Z;have nG:j<m.length:=Z;have bP:(j:Int)<(l.length:Int):=Z;have qm:(j:Int)<(m.length:Int):=Z;have a6:(0:Int)<=(j:Int):=Z;have bC:((j:Int)).toNat=j:=Z;obtain⟨cs,g1,g2⟩:=aI j l[j] (List.getElem?_eq_getElem nF);obtain⟨bU,g4,g5⟩:=bc j m[j] (List.getElem?_eq_getElem nG);obtain rfl:cs=l[j].cells:=g2;obtain rfl:bU=m[j].cells:=g5;have hw:IntKind.i64.wrap ((j:Int)+1)=((j+1:Nat):Int):=by rw[wrap_i64 Z Z];omega
  have dl:l.drop j=l[j]::l.drop (j+1):=List.drop_eq_getElem_cons nF;have qx:m.drop j=m[j]::m.drop (j+1):=List.drop_eq_getElem_cons nG;rw[dl,qx,gh];generalize l[j]=a at g1 ⊢;generalize m[j]=b at g4 ⊢;simp only[dW.cells] at g1 g4;have go:iV a b=true->W (tV (au P ao) N n (.aM hf iI l.length 4 kc) (.aM iu li m.length 4 lc) (.int .i64 ((j+1:Nat):Int)) H) λr H'=>r= .bool (iV a b&&gh iV (l.drop (j+1)) (m.drop (j+1)))/\H'=H:=λaO=>by
   rw[aO,Bool.true_and];exact VU ax hm aG aP aI bc c (j+1) n Z Z
  have aO:iV a b=(a.name==b.name&&(a.eQ==b.eQ&&a.fS==b.fS)):=rfl;rw[tV];unfold zm;cases c0:a.name==b.name with
  |false=>
   rw[c0,Bool.false_and] at aO;simp-implicitDefEqProofs(disch:=try exact ag) only[reduceAdd,reduceLeDiff,reduceIte,az,bP,qm,decide_true,bC,aG,aP,g1,g4,c0,Bool.not_false];exact a8.2 ⟨by rw[aO,Bool.false_and],rfl⟩
  |true=>
   rw[c0,Bool.true_and] at aO;cases bJ:(a.eQ==b.eQ&&a.fS==b.fS) with
   |false=>
    simp-implicitDefEqProofs(disch:=try exact ag) only[reduceAdd,reduceLeDiff,reduceIte,az,bP,qm,decide_true,bC,aG,aP,g1,g4,c0,Hx,bJ,Bool.not_false,Bool.not_true];exact a8.2 ⟨by rw[aO,bJ,Bool.false_and],rfl⟩
   |true=>
    simp-implicitDefEqProofs(disch:=try exact ag) only[reduceAdd,reduceLeDiff,reduceIte,az,bP,qm,decide_true,bC,aG,aP,g1,g4,c0,Hx,bJ,Bool.not_true,hw];exact go (by rw[aO,bJ])
theorem Jr{H:J}{l m:List dW}(ax:l.length<=1000000000){v w:I}{ok ok':Nat->Prop}(U:eR ga H ok l v)(aa:eR ga H ok' m w):W (au P ao 33 [v,w] H) λr H'=>r= .bool (gh iV l m)/\H'=H:=by
 refine cU (λ_=>al3 (l.length+1)) ?_;have bJ:=λH'=>U.rQ H'
 have c2:=λH'=>aa.rQ H'
 have z0:((0:Nat):Int)=0:=rfl;by_cases aV:l.length=m.length
 ·by_cases ct:l.length=0
  ·have jP:m.length=0:=Z;obtain rfl:=List.length_eq_zero_iff.1 ct;obtain rfl:=List.length_eq_zero_iff.1 jP;simp-implicitDefEqProofs(disch:=try exact ag) only[tV,vm,zm,AI,reduceAdd,reduceLeDiff,reduceIte,az,bJ,c2,List.length_nil,z0,bne_self_eq_false,Int.lt_irrefl,decide_false];exact a8.2 ⟨rfl,rfl⟩
  ·obtain⟨eI,i1,cS,gj,s3,rfl,g1,e8⟩:=U.row ct;obtain⟨fB,i2,dq,e3,v_,rfl,g2,fT⟩:=aa.row Z;have wk:((l.length:Int) != (m.length:Int))=false:=by simp;omega
   have h6:ga.esz=4:=rfl;rw[h6] at bJ c2 g1 g2 ⊢;simp-implicitDefEqProofs(disch:=try exact ag) only[vm,AI,bj,bj,bO,ei,bJ,c2,wk];have:=VU (N:=l.length+1) ax aV (kc:=cS) (lc:=dq) g1 g2 e8 fT l.length 0 (l.length+1) Z Z;simpa using this
 ·have hk:((l.length:Int) != (m.length:Int))=true:=by simp;omega
  simp-implicitDefEqProofs(disch:=try exact ag) only[vm,zm,AI,bj,bj,bO,ei,bJ,c2,hk];exact a8.2 ⟨by rw[wS _ _ aV],rfl⟩
end
end Go.Proofs.YtghmbpmaafnodaaGreatDoor
