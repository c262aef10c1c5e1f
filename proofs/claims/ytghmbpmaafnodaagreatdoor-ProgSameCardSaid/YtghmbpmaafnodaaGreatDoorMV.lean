/-
  Texts of one proof, laid together: Rq Rr Rv Rw ShQ Rx Sa Sb Sc Sd ShQb Se Ea Eb Ec Ed Sf ShQc.
-/
import Derived.Test.YtghmbpmaafnodaaGreatDoorMU
import Derived.Test.YtghmbpmaafnodaaGreatDoorMD
import Derived.Test.YtghmbpmaafnodaaGreatDoorMS
import Derived.Test.YtghmbpmaafnodaaGreatDoorML
import Derived.Test.YtghmbpmaafnodaaGreatDoorMP
set_option linter.unusedVariables false
set_option linter.unusedSimpArgs false
namespace Go.Proofs.YtghmbpmaafnodaaGreatDoor
open Go.f7
open Nat (reduceAdd reduceLeDiff)
section
theorem QA{N:Nat}{l m:List iG}(ax:l.length<=1000000000)(hm:l.length=m.length)(aO: ∀x∈l,x.fields.length<=1000000000){a b hf iI iu li:Nat}{kc lc:Option Nat}{mm mn:Bool}{iM iN:List (List I)}{H:J}{ok ok':Nat->Prop}{g1 f1 g2 f2:I}(b1:H.get a=some (.row false 3 [[.aM hf iI l.length 3 kc,g1,f1]]))(ay:H.get b=some (.row false 3 [[.aM iu li m.length 3 lc,g2,f2]]))(aG:H.get hf=some (.row mm 3 iM))(aP:H.get iu=some (.row mn 3 iN))(aI: ∀(j:Nat) (a:iG),l[j]? =some a-> ∃cs,iM[iI+j]? =some cs/\gQ.V H ok a cs)(bc: ∀(j:Nat) (a:iG),m[j]? =some a-> ∃cs,iN[li+j]? =some cs/\gQ.V H ok' a cs){Q:I->J->Prop}:
  ∀(c j n:Nat),j+c=l.length->c<n->(gh lf (l.drop j) (m.drop j)=true->W (vg (au P ao) N (.ptr a 0 0) (.ptr b 0 0) H) Q)->(gh lf (l.drop j) (m.drop j)=false->Q (.bool false) H)->
  W (sH (au P ao) N n (.ptr a 0 0) (.ptr b 0 0) (.int .i64 j) H) Q
 |_,_,0,_,aV,_,_=>Z
 |0,j,n+1,aS,aV,eH,uX=>by
  have bP: ¬((j:Int)<(l.length:Int)):=Z;have d1:l.drop j=[]:=List.drop_eq_nil_of_le Z;have d2:m.drop j=[]:=List.drop_eq_nil_of_le Z;rw[sH];unfold B3;simp-implicitDefEqProofs(disch:=try exact ag) only[reduceAdd,reduceLeDiff,reduceIte,az,b1,ay,bP,decide_false];exact eH (by rw[d1,d2];rfl)
 |c+1,j,n+1,aS,aV,eH,uX=>by
  have nF:j<l.length:=Z;have nG:j<m.length:=Z;have bP:(j:Int)<(l.length:Int):=Z;have qm:(j:Int)<(m.length:Int):=Z;have a6:(0:Int)<=(j:Int):=Z;have bC:((j:Int)).toNat=j:=Z;obtain⟨cs,MY,v,rfl,e8⟩:=aI j l[j] (List.getElem?_eq_getElem nF);obtain⟨bU,g4,w,rfl,fT⟩:=bc j m[j] (List.getElem?_eq_getElem nG);have hw:IntKind.i64.wrap ((j:Int)+1)=((j+1:Nat):Int):=by rw[wrap_i64 Z Z];omega
  have dl:l.drop j=l[j]::l.drop (j+1):=List.drop_eq_getElem_cons nF;have qx:m.drop j=m[j]::m.drop (j+1):=List.drop_eq_getElem_cons nG;have C2:=aO l[j] (List.getElem_mem _);rw[dl,qx,gh] at eH uX;generalize l[j]=x at MY eH uX e8 C2;generalize m[j]=y at g4 eH uX fT;have cZ:=e8.one;have dk:=fT.one;have on:lf x y=true->W (sH (au P ao) N n (.ptr a 0 0) (.ptr b 0 0) (.int .i64 ((j+1:Nat):Int)) H) Q:=λuF=>by
   rw[uF,Bool.true_and] at eH uX;exact QA ax hm aO b1 ay aG aP aI bc c (j+1) n Z Z eH uX
  have eD:lf x y=(x.name==y.name&&gh iV x.fields y.fields):=rfl;rw[sH];unfold B3;cases c0:x.name==y.name with
  |false=>
   simp-implicitDefEqProofs(disch:=try exact ag) only[reduceAdd,reduceLeDiff,reduceIte,az,b1,ay,bP,qm,decide_true,bC,aG,aP,MY,g4,c0,Bool.not_false,BB,Bx,BA,By,Bz];refine zz (Bs ad ?_) ?_
   ·simp only[uq]
    repeat (refine ar (λ_ _=> .inl rfl) ?_)
    trivial
   ·refine a8.2 (uX (by rw[eD,c0,Bool.false_and,Bool.false_and]))
  |true=>
   simp-implicitDefEqProofs(disch:=try exact ag) only[reduceAdd,reduceLeDiff,reduceIte,az,b1,ay,bP,qm,decide_true,bC,aG,aP,MY,g4,c0,Bool.not_true,BB,Bx,BA,By,Bz];refine hh (Jr C2 e8 fT) ?_;rintro _ _ ⟨rfl,rfl⟩;refine⟨bL _,?_⟩;cases bJ:gh iV x.fields y.fields with
   |true=>
    simp-implicitDefEqProofs(disch:=try exact ag) only[bj,bO,ei,hw,Bool.not_true,BB,Bx,BA,By,Bz];refine zz (Bs ad ?_) ?_
    ·simp only[uq]
     repeat (refine ar (λ_ _=> .inl rfl) ?_)
     trivial
    ·simp-implicitDefEqProofs(disch:=try exact ag) only[bj,bO,ei,hw];exact on (by rw[eD,c0,bJ];rfl)
   |false=>
    simp-implicitDefEqProofs(disch:=try exact ag) only[bj,bO,Bool.not_false,BB,Bx,BA,By,Bz];refine zz (Bs ad ?_) (a8.2 (uX (by rw[eD,c0,bJ];rfl)));simp only[uq]
    repeat (refine ar (λ_ _=> .inl rfl) ?_)
    trivial
end
section
theorem alI(a b:I):cd (some a) b=I.beq a b:=rfl
theorem Zy{v w:I}{n r:bk}{d p:Int}{h:Bool}(bw:cd (some v) v=true)(hw:cd (some w) w=true):cd (some (.agg [.str n,v,.bool h,.str r,.int .i64 d,w,.int .i64 p])) (.agg [.str n,v,.bool h,.str r,.int .i64 d,w,.int .i64 p])=true:=by
 rw[alI] at bw hw;simp[cd,I.beq,jA.beq,bw,hw]
theorem eR.rd{α:Type}{K:pt α}{H:J}{ok:Nat->Prop}{l:List α}{v:I}(h:eR K H ok l v):cd (some v) v=true:=by
 rcases h with⟨rfl,_⟩|⟨L,i,cap,ro,els,rfl,_⟩|⟨L,i,cap,rfl,_⟩
 ·rfl
 ·exact u7 _ _ _ _ _
 ·exact u7 _ _ _ _ _
theorem eC.rd{H:J}{ok:Nat->Prop}{l:List cy}{v:I}(h:eC H ok l v):cd (some v) v=true:=by
 rcases h with⟨rfl,_⟩|⟨L,i,cap,ro,els,rfl,_⟩|⟨L,i,cap,rfl,_⟩
 ·rfl
 ·exact u7 _ _ _ _ _
 ·exact u7 _ _ _ _ _
theorem Rp{N:Nat}{l m:List Fn}(ax:l.length<=1000000000)(hm:l.length=m.length)(aO: ∀x∈l,Es x){a b hf iI iu li:Nat}{kc lc:Option Nat}{mm mn:Bool}{iM iN:List (List I)}{ok ok':Nat->Prop}{g1 f1 g2 f2:I}:
  ∀(c j n:Nat) (H:J),j+c=l.length->c<n->H.get a=some (.row false 3 [[f1,g1,.aM hf iI l.length 7 kc]])->H.get b=some (.row false 3 [[f2,g2,.aM iu li m.length 7 lc]])->H.get hf=some (.row mm 7 iM)->H.get iu=some (.row mn 7 iN)->(∀(j:Nat) (a:Fn),l[j]? =some a-> ∃cs,iM[iI+j]? =some cs/\gN.V H ok a cs)->(∀(j:Nat) (a:Fn),m[j]? =some a-> ∃cs,iN[li+j]? =some cs/\gN.V H ok' a cs)->
  W (vh (au P ao) N n (.ptr a 0 0) (.ptr b 0 0) (.int .i64 j) H) λr H'=>r= .bool (gh nu (l.drop j) (m.drop j))/\aR H H'
 |_,_,0,_,_,aV,_,_,_,_,_,_=>Z
 |0,j,n+1,H,aS,aV,b1,ay,aG,aP,aI,bc=>by
  have bP: ¬((j:Int)<(l.length:Int)):=Z;have d1:l.drop j=[]:=List.drop_eq_nil_of_le Z;have d2:m.drop j=[]:=List.drop_eq_nil_of_le Z;rw[vh];unfold B2 zf;simp-implicitDefEqProofs(disch:=try exact ag) only[reduceAdd,reduceLeDiff,reduceIte,az,b1,ay,bP,decide_false];exact a8.2 ⟨by rw[d1,d2];rfl,.refl _⟩
 |c+1,j,n+1,H,aS,aV,b1,ay,aG,aP,aI,bc=>by
  have nF:j<l.length:=Z;have nG:j<m.length:=Z;have bP:(j:Int)<(l.length:Int):=Z;have qm:(j:Int)<(m.length:Int):=Z;have a6:(0:Int)<=(j:Int):=Z;have bC:((j:Int)).toNat=j:=Z;obtain⟨cs,cE,v,bv,rfl,e8,nY⟩:=aI j l[j] (List.getElem?_eq_getElem nF);obtain⟨bU,eB,w,uW,rfl,fT,u0⟩:=bc j m[j] (List.getElem?_eq_getElem nG);have hw:IntKind.i64.wrap ((j:Int)+1)=((j+1:Nat):Int):=by rw[wrap_i64 Z Z];omega
  have dl:l.drop j=l[j]::l.drop (j+1):=List.drop_eq_getElem_cons nF;have qx:m.drop j=m[j]::m.drop (j+1):=List.drop_eq_getElem_cons nG;have C2:=aO l[j] (List.getElem_mem _);rw[dl,qx,gh];generalize l[j]=x at cE e8 nY C2 ⊢;generalize m[j]=y at eB fT u0 ⊢;have cZ:=e8.one;have dk:=fT.one;have dJ:=nY.gq;have eL:=u0.gq;have F7:=J.aW b1;have yy:=J.aW ay;have F6:=J.aW aG;have asf:=J.aW aP;rw[vh];unfold B2;have rx:=Zy (n:=x.name) (r:=x.fC) (d:=x.rd) (p:=x.pos) (h:=x.has) e8.rd nY.rd;have hI:=Zy (n:=y.name) (r:=y.fC) (d:=y.rd) (p:=y.pos) (h:=y.has) fT.rd u0.rd;simp-implicitDefEqProofs(disch:=try exact ag) only[reduceAdd,reduceLeDiff,reduceIte,az,J.h8,b1,ay,bP,qm,decide_true,bC,aG,aP,cE,eB,cZ,dk,dJ,eL,rx,hI]
  have gB:=(aR.push H (.row false 7 [[.str x.name,v,.bool x.has,.str x.fC,.int .i64 x.rd,bv,.int .i64 x.pos]])).bV (.row false 7 [[.str y.name,w,.bool y.has,.str y.fC,.int .i64 y.rd,uW,.int .i64 y.pos]]);have fv:=(aR.push (H.push (.row false 7 [[.str x.name,v,.bool x.has,.str x.fC,.int .i64 x.rd,bv,.int .i64 x.pos]])) (.row false 7 [[.str y.name,w,.bool y.has,.str y.fC,.int .i64 y.rd,uW,.int .i64 y.pos]])).get (J.ca H (.row false 7 [[.str x.name,v,.bool x.has,.str x.fC,.int .i64 x.rd,bv,.int .i64 x.pos]]));have hF:=J.ca (H.push (.row false 7 [[.str x.name,v,.bool x.has,.str x.fC,.int .i64 x.rd,bv,.int .i64 x.pos]])) (.row false 7 [[.str y.name,w,.bool y.has,.str y.fC,.int .i64 y.rd,uW,.int .i64 y.pos]])
  simp only[J.b6] at hF;generalize (H.push (.row false 7 [[.str x.name,v,.bool x.has,.str x.fC,.int .i64 x.rd,bv,.int .i64 x.pos]])).push (.row false 7 [[.str y.name,w,.bool y.has,.str y.fC,.int .i64 y.rd,uW,.int .i64 y.pos]])=bl at gB fv hF ⊢;have eD:nu x y=(x.name==y.name&&(gh iV x.params y.params&&(x.has==y.has&&((x.fC==y.fC&&x.rd==y.rd)&&hK x.body y.body)))):=rfl;rw[eD];cases c0:x.name==y.name with
  |false=>
   simp-implicitDefEqProofs(disch:=try exact ag) only[reduceAdd,reduceLeDiff,reduceIte,az,Bool.not_false];exact a8.2 ⟨by simp only[Bool.false_and],gB⟩
  |true=>
   simp-implicitDefEqProofs(disch:=try exact ag) only[reduceAdd,reduceLeDiff,reduceIte,az,Bool.not_true,fv,hF];refine hh (Jr C2.1 (e8.bo (d_.aK gB)) (fT.bo (d_.aK gB))) ?_;rintro _ _ ⟨rfl,rfl⟩;refine⟨bL _,?_⟩;cases bJ:gh iV x.params y.params with
   |false=>
    simp-implicitDefEqProofs(disch:=try exact ag) only[reduceAdd,reduceLeDiff,reduceIte,az,Bool.not_false];exact a8.2 ⟨by simp only[Bool.false_and,Bool.and_false],gB⟩
   |true=>
   cases c2:x.has==y.has with
   |false=>
    simp-implicitDefEqProofs(disch:=try exact ag) only[reduceAdd,reduceLeDiff,reduceIte,az,Bool.not_true,Bool.not_false,fv,hF,c2];exact a8.2 ⟨by simp only[Bool.false_and,Bool.and_false],gB⟩
   |true=>
   cases c3:(x.fC==y.fC&&x.rd==y.rd) with
   |false=>
    simp-implicitDefEqProofs(disch:=try exact ag) only[reduceAdd,reduceLeDiff,reduceIte,az,Bool.not_true,Bool.not_false,fv,hF,c2,Hx,c3];exact a8.2 ⟨by simp only[Bool.false_and,Bool.and_false],gB⟩
   |true=>
    simp-implicitDefEqProofs(disch:=try exact ag) only[reduceAdd,reduceLeDiff,reduceIte,az,Bool.not_true,Bool.not_false,fv,hF,c2,Hx,c3];refine hh (Lz (B:=1000000000) cl (λe _=>Le cl e) C2.2 (nY.aK gB) (u0.aK gB)) ?_;rintro _ cu ⟨rfl,bK⟩;refine⟨bK.1,?_⟩;have pp:=gB.trans bK;cases c4:hK x.body y.body with
    |false=>
     simp-implicitDefEqProofs(disch:=try exact ag) only[bj,bO,Bool.not_false];exact a8.2 ⟨by simp only[Bool.false_and,Bool.and_false],pp⟩
    |true=>
     simp-implicitDefEqProofs(disch:=try exact ag) only[bj,bO,ei,Bool.not_true,hw];refine(Rp ax hm aO (ok:=ok) (ok':=ok') c (j+1) n cu Z Z (pp.get b1) (pp.get ay) (pp.get aG) (pp.get aP) (λi z be=> ?_) (λi z be=> ?_)).mono ?_
     ·obtain⟨p,q,r⟩:=aI i z be;exact⟨p,q,gN.bo (d_.aK pp) r⟩
     ·obtain⟨p,q,r⟩:=bc i z be;exact⟨p,q,gN.bo (d_.aK pp) r⟩
     ·rintro v H' ⟨rfl,q⟩;exact⟨by simp only[Bool.true_and],pp.trans q⟩
end
section
theorem ago{N:Nat}{l m:List Fn}(ax:l.length<=1000000000)(hm:l.length=m.length)(aO: ∀x∈l,Es x)(dX:l.length<N){H:J}{a b:Nat}{ok ok':Nat->Prop}{g1 f1 g2 f2 v w:I}(b1:H.get a=some (.row false 3 [[f1,g1,v]]))(ay:H.get b=some (.row false 3 [[f2,g2,w]]))(U:eR gN H ok l v)(aa:eR gN H ok' m w):
  W (vg (au P ao) N (.ptr a 0 0) (.ptr b 0 0) H) λr H'=>r= .bool (gh nu l m)/\aR H H':=by
 unfold vg;by_cases ct:l.length=0
 ·have jP:m.length=0:=Z;obtain rfl:=List.length_eq_zero_iff.1 ct;obtain rfl:=List.length_eq_zero_iff.1 jP;obtain⟨n,rfl⟩: ∃n,N=n+1:=⟨N-1,by simp only[List.length_nil] at dX;omega⟩;have bJ:=λH'=>U.vF H'
  have cZ:=U.one;have z0:((0:Nat):Int)=0:=rfl;rw[vh];unfold B2 zf;simp-implicitDefEqProofs(disch:=try exact ag) only[reduceAdd,reduceLeDiff,reduceIte,az,b1,ay,bJ,List.length_nil,z0,Int.lt_irrefl,decide_false];exact a8.2 ⟨rfl,.refl _⟩
 ·obtain⟨eI,i1,cS,gj,s3,rfl,cE,e8⟩:=U.row ct;obtain⟨fB,i2,dq,e3,v_,rfl,cx,fT⟩:=aa.row Z;have h6:gN.esz=7:=rfl;rw[h6] at b1 ay cE cx;have:=Rp (N:=N) ax hm aO l.length 0 N H Z dX b1 ay cE cx e8 fT;simpa using this
theorem afh{N:Nat}{l m:List iG}(ax:l.length<=1000000000)(hm:l.length=m.length)(aO: ∀x∈l,x.fields.length<=1000000000)(dX:l.length<N){H:J}{a b:Nat}{ok ok':Nat->Prop}{g1 f1 g2 f2 v w:I}(b1:H.get a=some (.row false 3 [[v,g1,f1]]))(ay:H.get b=some (.row false 3 [[w,g2,f2]]))(U:eR gQ H ok l v)(aa:eR gQ H ok' m w){Q:I->J->Prop}(eH:gh lf l m=true->W (vg (au P ao) N (.ptr a 0 0) (.ptr b 0 0) H) Q)(uX:gh lf l m=false->Q (.bool false) H):
  W (sH (au P ao) N N (.ptr a 0 0) (.ptr b 0 0) (.int .i64 0) H) Q:=by
 by_cases ct:l.length=0
 ·have jP:m.length=0:=Z;obtain rfl:=List.length_eq_zero_iff.1 ct;obtain rfl:=List.length_eq_zero_iff.1 jP;obtain⟨n,rfl⟩: ∃n,N=n+1:=⟨N-1,by simp only[List.length_nil] at dX;omega⟩;have bJ:=λH'=>U.vE H'
  have cZ:=U.one;have z0:((0:Nat):Int)=0:=rfl;rw[sH];unfold B3;simp-implicitDefEqProofs(disch:=try exact ag) only[reduceAdd,reduceLeDiff,reduceIte,az,b1,ay,bJ,List.length_nil,z0,Int.lt_irrefl,decide_false];exact eH rfl
 ·obtain⟨eI,i1,cS,gj,s3,rfl,cE,e8⟩:=U.row ct;obtain⟨fB,i2,dq,e3,v_,rfl,cx,fT⟩:=aa.row Z;have h6:gQ.esz=3:=rfl;rw[h6] at b1 ay cE cx;exact QA (N:=N) ax hm aO b1 ay cE cx e8 fT l.length 0 N Z dX eH uX
end
section
theorem aaq{g g':eb}(aO:Cp g){H:J}{ok ok':Nat->Prop}{ch cf ci oL j8 f_:I}(U:eR gQ H ok g.ey ch)(aa:eR ga H ok g.globals cf)(ae:eR gN H ok g.funcs ci)(cS:eR gQ H ok' g'.ey oL)(dq:eR ga H ok' g'.globals j8)(dP:eR gN H ok' g'.funcs f_):
  W (au P ao 10 [.agg [ch,cf,ci],.agg [oL,j8,f_]] H) λr H'=>r= .bool (oZ g g')/\aR H H':=by
 refine cU (λ_=>alJ 1000000001) ?_;have cZ:=U.one;have dk:=aa.one;have dJ:=ae.one;have cE:=cS.one;have cx:=dq.one;have eM:=dP.one;have dS: ∀l,eW l (.agg [ch,cf,ci])=some (.ptr l 0 0,.row false 3 [[ch,cf,ci]]):=λl=>ij l _ (by simp only[List.all_cons,List.all_nil,cZ,dk,dJ,Bool.and_self])
 have cn: ∀l,eW l (.agg [oL,j8,f_])=some (.ptr l 0 0,.row false 3 [[oL,j8,f_]]):=λl=>ij l _ (by simp only[List.all_cons,List.all_nil,cE,cx,eM,Bool.and_self])
 have aJ:=(aR.push H (.row false 3 [[ch,cf,ci]])).bV (.row false 3 [[oL,j8,f_]]);have fv:=(aR.push (H.push (.row false 3 [[ch,cf,ci]])) (.row false 3 [[oL,j8,f_]])).get (J.ca H (.row false 3 [[ch,cf,ci]]));have hF:=J.ca (H.push (.row false 3 [[ch,cf,ci]])) (.row false 3 [[oL,j8,f_]]);simp only[J.b6] at hF;have bJ:=λH'=>U.vE H'
 have c2:=λH'=>cS.vE H'
 have c3:=λH'=>ae.vF H'
 have c4:=λH'=>dP.vF H'
 have eD:oZ g g'=(gh lf g.ey g'.ey&&(gh iV g.globals g'.globals&&gh nu g.funcs g'.funcs)):=rfl;rw[eD];unfold IE;simp-implicitDefEqProofs(disch:=try exact ag) only[bj,bj,bO,dS,cn,J.b6];generalize (H.push (.row false 3 [[ch,cf,ci]])).push (.row false 3 [[oL,j8,f_]])=bl at aJ fv hF ⊢;have py:=d_.aK (ok:=ok) aJ;have NN:=d_.aK (ok:=ok') aJ;by_cases aI:g.ey.length=g'.ey.length
 ·have ha:((g.ey.length:Int) != (g'.ey.length:Int))=false:=by simp;omega
  by_cases bc:g.funcs.length=g'.funcs.length
  ·have E6:((g.funcs.length:Int) != (g'.funcs.length:Int))=false:=by simp;omega
   simp-implicitDefEqProofs(disch:=try exact ag) only[reduceAdd,reduceLeDiff,reduceIte,az,fv,hF,bJ,c2,c3,c4,ha,E6];refine hh (Jr aO.sj (aa.bo py) (dq.bo NN)) ?_;rintro _ _ ⟨rfl,rfl⟩;refine⟨bL _,?_⟩;cases dm:gh iV g.globals g'.globals with
   |false=>
    simp-implicitDefEqProofs(disch:=try exact ag) only[bj,bO,Bool.not_false];exact a8.2 ⟨by simp only[Bool.false_and,Bool.and_false],aJ⟩
   |true=>
    simp-implicitDefEqProofs(disch:=try exact ag) only[bj,bO,Bool.not_true];refine afh aO.r.1 aI aO.r.2 (by have:=aO.r.1;omega) fv hF (U.bo py) (cS.bo NN) (λeS=> ?_) (λeS=> ?_)
    ·rw[eS];refine(ago aO.f.1 bc aO.f.2 (by have:=aO.f.1;omega) fv hF (ae.bo py) (dP.bo NN)).mono ?_;rintro v H' ⟨rfl,q⟩;exact⟨by simp only[Bool.true_and],aJ.trans q⟩
    ·exact⟨by rw[eS,Bool.false_and],aJ⟩
  ·have E6:((g.funcs.length:Int) != (g'.funcs.length:Int))=true:=by simp;omega
   simp-implicitDefEqProofs(disch:=try exact ag) only[reduceAdd,reduceLeDiff,reduceIte,az,fv,hF,bJ,c2,c3,c4,ha,E6];exact a8.2 ⟨by rw[wS g.funcs g'.funcs bc,Bool.and_false,Bool.and_false],aJ⟩
 ·have ha:((g.ey.length:Int) != (g'.ey.length:Int))=true:=by simp;omega
  simp-implicitDefEqProofs(disch:=try exact ag) only[reduceAdd,reduceLeDiff,reduceIte,az,fv,hF,bJ,c2,ha];exact a8.2 ⟨by rw[wS g.ey g'.ey aI,Bool.false_and],aJ⟩
end
section
set_option maxRecDepth 100000
noncomputable section
end
end
section
end
section
end
section
end
section
end
section
end
section
set_option maxRecDepth 100000
noncomputable section
def jH(G:av)(Y:I)(H:J):O:=
 bj P .len [9] [Y] H λbS=>
 ab (aZ P .gtr 3 true bS (.int .i64 7000)) λbF=>
 bQ (some bF) (some ((.bool true),H)) (aL H (G 8 [Y] H) λcb U=>
 ab (gf cb 0) λb0=>
 ab (gf cb 1) λbT=>
 cv U [I.an,I.an,I.an] λaC aa=>
 cv aa [(.int .i64 0),(.int .i64 0)] λa_ ae=>
 a1 ae (aQ P ae 26 aC b0) λal=>
 a1 al (aQ P al 29 a_ bT) λaB=>
 aL aB (G 9 [Y] aB) λcc aG=>
 ab (gf cc 0) λcG=>
 ab (gf cc 1) λc6=>
 cv aG [I.an,I.an,I.an] λbf aP=>
 cv aP [(.int .i64 0),(.int .i64 0)] λbB bn=>
 a1 bn (aQ P bn 26 bf cG) λbH=>
 a1 bH (aQ P bH 29 bB c6) λco=>
 ab (am P co 29 a_) λcN=>
 ab (am P co 29 bB) λcz=>
 ab (aZ P .eql 29 false cN cz) λc7=>
 aD c7 true co (qr (am P co 26 aC)) λdb dp=>
 aD c7 true dp (qr (am P dp 26 bf)) λdn dR=>
 aD c7 true dR (λq=>fo dR (G 10 [db,dn] dR) q) λdu eF=>
 ab (cW c7 (some du) (some (.bool false))) λdh=>
 aD dh true eF (qr (am P eF 26 aC)) λdI fs=>
 aD dh true fs (qr (am P fs 26 bf)) λcH fP=>
 aD dh true fP (λq=>fo fP (G 11 [dI,cH] fP) q) λep gG=>
 ab (cW dh (some ep) (some (.bool false))) λdV=>
 aD dV true gG (λq=>fo gG (G 12 [] gG) q) λe6 hM=>
 ab (cW dV (some e6) (some (.bool false))) λeg=>
 some (eg,hM))
end
end
section
theorem KN(s:bk): ∃p q:eb×aw,((gg s).2.1=0->ot (gg s).1 800000000 800000000 .none ⟨0,0,0,0⟩=some p)/\((gg s).2.1=0->iX (gg s).1 800000000 800000000 .none ⟨0,0,0,0⟩=some q)/\j3 s p.1 p.2=j3 s q.1 q.2/\Cp (j3 s p.1 p.2).1:=by
 by_cases ak:(gg s).2.1=0
 ·obtain⟨aH,a6⟩:=Lh ak;obtain⟨p,q,U,aa,ae⟩:=acq aH a6;have eD:=BP Z 800000000 .none ⟨0,0,0,0⟩ p Gy (by simp[eb.none]) (by simp[eb.none]) (by simp[eb.none]) U;refine⟨p,q,λ_=>U,λ_=>aa,?_,?_⟩
  ·unfold j3;rw[if_pos ak,if_pos ak,ae]
  ·unfold j3 uo;rw[if_pos ak];split
   ·exact eD
   ·exact Gy
 ·refine⟨(.none,⟨0,0,0,0⟩),(.none,⟨0,0,0,0⟩),λh=>absurd h ak,λh=>absurd h ak,rfl,?_⟩;unfold j3;rw[if_neg ak];exact Gy
end
section
def Tok.bY(t:Tok):Tok:=⟨t.kind,t.text,t.n,0⟩
def fO(T:List Tok):List Tok:=T.map Tok.bY
def aw.bY(s:aw):aw:=⟨s.at_,s.bN,s.aA,0⟩
def fm.bY(a:fm):fm:={a with pos:=0}
mutual
def bh.bY:bh->bh
 | .mk a bR=> .mk a.bY (iB bR)
def iB:List bh->List bh
 |[]=>[]
 |e::es=>e.bY::iB es
end
def dv.bY(a:dv):dv:={a with pos:=0}
mutual
def cy.bY:cy->cy
 | .mk a es b c=> .mk a.bY (iB es) (jC b) (jC c)
def jC:List cy->List cy
 |[]=>[]
 |e::es=>e.bY::jC es
end
theorem agK(l m:List bh):iB (l++m)=iB l++iB m:=by
 induction l with
 |nil=>rfl
 |cons e l aT=>simp only[List.cons_append,iB,aT]
theorem agM(l m:List cy):jC (l++m)=jC l++jC m:=by
 induction l with
 |nil=>rfl
 |cons e l aT=>simp only[List.cons_append,jC,aT]
theorem agL(e:bh):iB [e]=[e.bY]:=rfl
theorem agN(e:cy):jC [e]=[e.bY]:=rfl
def jo{α:Type}(f:α->α)(x:R α):R α:=x.map λp=>(f p.1,p.2.bY)
section
variable {α β:Type}{f:α->α}{h:β->β}
theorem mC(p:α×aw):jo f (some p)=some (f p.1,p.2.bY):=rfl
theorem rn(c:Bool)(a b:R α):jo f (bif c then a else b)=bif c then jo f a else jo f b:=by cases c<;>rfl
theorem nl(x:R α)(g:α×aw->R β):jo h (x.bind g)=x.bind λp=>jo h (g p):=by cases x<;>rfl
theorem nk(x:R α)(g:α×aw->R β):(jo f x).bind g=x.bind λp=>g (f p.1,p.2.bY):=by cases x<;>rfl
theorem afI{Dn OC:Type}(c:Bool)(a b:Dn×OC):(bif c then a else b).1=bif c then a.1 else b.1:=by cases c<;>rfl
theorem agm{Dn OC:Type}(c:Bool)(a b:Dn×OC):(bif c then a else b).2=bif c then a.2 else b.2:=by cases c<;>rfl
theorem yQ(c:Bool)(a b:aw):(bif c then a else b).bY=bif c then a.bY else b.bY:=by cases c<;>rfl
theorem afg(c:Bool)(a b:cy):(bif c then a else b).bY=bif c then a.bY else b.bY:=by cases c<;>rfl
end
section
variable (T:List Tok)(s:aw)
theorem oQ(i:Int):aq (fO T) i=(aq T i).bY:=by
 unfold aq fO;rw[List.length_map];split
 ·rfl
 ·rw[List.getElem?_map];cases T[i.toNat]? <;>rfl
theorem b9(t:Tok):t.bY.kind=t.kind:=rfl
theorem jU(t:Tok):t.bY.text=t.text:=rfl
theorem aqr(t:Tok):t.bY.n=t.n:=rfl
theorem yz(t:Tok):t.bY.pos=0:=rfl
theorem pB:s.bY.at_=s.at_:=rfl
theorem aqq:s.bY.bN=s.bN:=rfl
theorem wD:s.bY.aA=s.aA:=rfl
theorem aiz(k:Int)(x:bk):b4 (fO T) s.bY k x=b4 T s k x:=by unfold b4;rw[pB,wD,oQ,b9,jU]
theorem tA(e:Int):cL (fO T) e s.bY=(cL T e s).bY:=by
 unfold cL;rw[wD];split
 ·rw[oQ,pB];rfl
 ·rfl
theorem qN:aE s.bY=(aE s).bY:=rfl
theorem TN:fU s.bY=(fU s).bY:=rfl
theorem aiy:ig s.bY=(ig s).bY:=rfl
theorem jY(x:bk):b2 (fO T) s.bY x=b2 T s x:=aiz T s _ x
theorem nn(x:bk):cq (fO T) x s.bY=(cq T x s).bY:=by
 unfold cq;rw[jY,qN,tA,yQ]
theorem Bu(x:bk):eE (fO T) x s.bY=(eE T x s).bY:=by
 unfold eE;rw[jY,aqq,tA,nn,aiy,yQ]
theorem Bl(x:bk):f0 (fO T) x s.bY=(f0 T x s).bY:=by unfold f0;rw[nn,TN]
theorem yM:da (fO T) s.bY=((da T s).1,(da T s).2.bY):=by
 unfold da;rw[wD,pB,oQ,b9,jU,qN,tA];cases(s.aA==0&&(aq T s.at_).kind==1)<;>rfl
theorem KT(x:bk): ∀(n:Nat) (s:aw),takeN (fO T) x n s.bY=(takeN T x n s).bY
 |0,_=>rfl
 |n+1,s=>by rw[takeN,takeN,nn,KT x n]
theorem TJ: ∀(n:Nat) (d:Int) (s:aw),jm (fO T) n d s.bY=match jm T n d s with
  | .inl p=> .inl (p.1,p.2.bY)
  | .inr s'=> .inr s'.bY
 |0,d,s=>by
  rw[jm,jm,jY,tA];cases b2 T s [91]<;>rfl
 |n+1,d,s=>by
  rw[jm,jm,jY,qN,TJ n];cases b2 T s [91]<;>rfl
theorem agZ(d:Int):jl (fO T) d s.bY=((jl T d s).1,(jl T d s).2.bY):=by
 unfold jl;rw[jY,jY,pB,oQ,jU,qN,KT,yM,KT];cases(b2 T s [105,110,116]||b2 T s [98,111,111,108])<;>rfl
theorem G6:e5 (fO T) s.bY=((e5 T s).1,(e5 T s).2.bY):=by
 unfold e5;rw[TJ];cases jm T 3 0 s with
 |inl p=>exact agZ T p.2 p.1
 |inr s'=>rfl
theorem agT(lev:Nat)(t:Tok):jk lev t.bY=jk lev t:=rfl
theorem yR(a:fm)(bR:List bh):(bh.mk a bR).bY= .mk a.bY (iB bR):=by rw[bh.bY]
theorem ve(a:dv)(es:List bh)(b c:List cy):(cy.mk a es b c).bY= .mk a.bY (iB es) (jC b) (jC c):=by rw[cy.bY]
structure aoq(n:Nat):Prop where
 aI: ∀lev s,im (fO T) n lev s.bY=jo bh.bY (im T n lev s)
 bc: ∀lev e s,om (fO T) n lev (bh.bY e) s.bY=jo bh.bY (om T n lev e s)
 dm: ∀s,pU (fO T) n s.bY=jo bh.bY (pU T n s)
 eS: ∀k s,p3 (fO T) n k s.bY=jo bh.bY (p3 T n k s)
 gT: ∀e s,jV (fO T) n (bh.bY e) s.bY=jo bh.bY (jV T n e s)
 yw: ∀s,ld (fO T) n s.bY=jo bh.bY (ld T n s)
 FZ: ∀s,l5 (fO T) n s.bY=jo bh.bY (l5 T n s)
 Og: ∀p s,pP (fO T) n 0 s.bY=jo bh.bY (pP T n p s)
 tm: ∀s,mJ (fO T) n s.bY=jo iB (mJ T n s)
 ZS: ∀l s,lb (fO T) n (iB l) s.bY=jo iB (lb T n l s)
theorem Yy: ∀n,aoq T n
 |0=>⟨λ_ _=>rfl,λ_ _ _=>rfl,λ_=>rfl,λ_ _=>rfl,λ_ _=>rfl,λ_=>rfl,λ_=>rfl,λ_ _=>rfl,λ_=>rfl,λ_ _=>rfl⟩
 |n+1=>by
  have i:=Yy n;refine⟨λlev s=> ?_,λlev e s=> ?_,λs=> ?_,λk s=> ?_,λe s=> ?_,λs=> ?_,λs=> ?_,λp s=> ?_,λs=> ?_,λl s=> ?_⟩
  ·rw[im,im];split
   ·exact i.dm s
   ·simp only[i.aI,nk,nl,i.bc]
  ·rw[om,om];simp only[wD,pB,oQ,agT,qN,i.aI,nk,rn,nl,mC,yz,<-i.bc,yR,iB,fm.bY]
  ·rw[pU,pU];simp only[jY,i.eS,i.FZ,nk,rn,nl,i.gT]
  ·rw[p3,p3];simp only[pB,oQ,jU,Bu,i.aI,nk,nl,mC,yz,TN,yR,iB,fm.bY]
  ·rw[jV,jV];simp only[jY,pB,oQ,qN,yM,Bu,Bl,i.aI,nk,rn,nl,mC,yz,<-i.gT,yR,iB,fm.bY]
  ·rw[ld,ld];simp only[Bu,Bl,i.aI,nk,nl,mC]
  ·rw[l5,l5];simp only[wD,jY,pB,oQ,b9,jU,aqr,yz,qN,yM,G6,Bu,Bl,i.yw,<-i.Og (aq T s.at_).pos,i.tm,nk,rn,nl,mC,yR,iB,fm.bY]
  ·rw[pP,pP];simp only[jY,qN,yM,G6,nn,i.yw,nk,rn,nl,mC,yR,iB,fm.bY]
  ·rw[mJ,mJ];simp only[jY,Bu,Bl,i.aI,nk,rn,nl,mC,<-i.ZS,iB]
  ·rw[lb,lb];simp only[jY,qN,Bl,i.aI,nk,rn,nl,mC,<-i.ZS,agK,agL]
theorem BE:dx (fO T) s.bY=((dx T s).1.bY,(dx T s).2.bY):=by
 unfold dx;rw[(Yy T 800000000).aI];cases im T 800000000 0 s<;>rfl
theorem Kx:fN (fO T) s.bY=((fN T s).1,(fN T s).2.bY):=by
 unfold fN;simp only[yM,nn,G6]
theorem K4(e:bh):e.bY.kind=e.kind:=by cases e;rfl
theorem agX(e:bh):e.bY.name=e.name:=by cases e;rfl
theorem aip(e:bh):iO e.bY=iO e:=by unfold iO;rw[K4]
theorem afD:uk (fO T) s.bY=((uk T s).1.bY,(uk T s).2.bY):=by
 unfold uk;simp only[Kx,nn,ve,dv.bY,iB,jC]
theorem afS:ul (fO T) s.bY=((ul T s).1.bY,(ul T s).2.bY):=by
 unfold ul;simp only[Kx,nn,BE,ve,dv.bY,iB,jC]
theorem af5:vH (fO T) s.bY=((vH T s).1.bY,(vH T s).2.bY):=by
 unfold vH;rw[jY];cases b2 T s [59]<;>simp only[bx,bi,nn,BE,ve,dv.bY,iB,jC]
theorem adX:xe (fO T) s.bY=((xe T s).1.bY,(xe T s).2.bY):=by
 unfold xe;simp only[nn,BE,ve,dv.bY,iB,jC]
theorem ain(e:bh):mh (fO T) e.bY s.bY=(mh T e s).bY:=by
 unfold mh;rw[aip,tA,<-yQ,nn]
theorem agj(e:bh):xB (fO T) e.bY s.bY=((xB T e s).1.bY,(xB T e s).2.bY):=by
 unfold xB;rw[K4];cases(e.kind==4)<;>simp only[bx,bi,ain,BE,nn,agX,ve,dv.bY,iB,jC]
theorem adW:nr (fO T) s.bY=((nr T s).1.bY,(nr T s).2.bY):=by
 unfold nr;simp only[BE,jY];cases b2 T (dx T s).2 [61] with
 |true=>simp only[bx,agj]
 |false=>
  simp only[bi,K4,tA,ve,dv.bY,iB,jC];rw[<-yQ,nn]
theorem ak4(m:cy)(p:Int):(m.at p).bY=m.bY.at 0:=by cases m;rfl
structure aop(n:Nat):Prop where
 b: ∀s,jX (fO T) n s.bY=jo jC (jX T n s)
 l: ∀l s,mK (fO T) n (jC l) s.bY=jo jC (mK T n l s)
 s: ∀s,rU (fO T) n s.bY=jo cy.bY (rU T n s)
theorem Yx: ∀n,aop T n
 |0=>⟨λ_=>rfl,λ_ _=>rfl,λ_=>rfl⟩
 |n+1=>by
  have i:=Yx n;refine⟨λs=> ?_,λl s=> ?_,λs=> ?_⟩
  ·rw[jX,jX];have:=i.l [] (eE T [123] s);simp only[jC] at this;simp only[Bu,this,nk,nl,mC,Bl]
  ·rw[mK,mK];simp only[wD,jY,i.s,nk,rn,nl,mC,<-i.l,agM,agN]
  ·rw[rU,rU];simp only[jY,pB,oQ,jU,yz,qN,afS,afD,BE,i.b,af5,adX,adW];rw[nl];simp only[mC,ak4];rw[show ∀(x:R cy),(x.bind λp=>some (p.1.bY.at 0,p.2.bY))=(jo cy.bY x).bind λp=>some (p.1.at 0,p.2) from λx=>(nk (f:=cy.bY) x λp=>some (p.1.at 0,p.2)).symm]
   congr 1
   cases b2 T s [118,97,114]||b2 T s [108,101,116] with
   |true=>cases(aq T (aE s).at_).text==[108,101,116]<;>simp only[bx,bi,mC,afI,agm,yQ,afg]<;>cases(aq T s.at_).text==[108,101,116]<;>rfl
   |false=>
    simp only[bi,rn,nl,nk,mC,jY,qN,i.b,ve,dv.bY,iB,jC]
end
end
section
def dW.bY(p:dW):dW:={p with pos:=0}
def iG.bY(r:iG):iG:=⟨r.name,r.fields.map dW.bY,0⟩
def Fn.bY(f:Fn):Fn:=⟨f.name,f.params.map dW.bY,f.has,f.fC,f.rd,jC f.body,0⟩
def eb.bY(g:eb):eb:=⟨g.ey.map iG.bY,g.globals.map dW.bY,g.funcs.map Fn.bY⟩
section
variable (T:List Tok)(s:aw)
theorem Kr:gZ (fO T) s.bY=((gZ T s).1.bY,(gZ T s).2.bY):=by
 unfold gZ;simp only[Kx,pB,oQ,yz,dW.bY]
theorem Qe: ∀(n:Nat) (l:List dW) (s:aw),rp (fO T) n (l.map dW.bY) s.bY=jo (List.map dW.bY) (rp T n l s)
 |0,_,_=>rfl
 |n+1,l,s=>by
  rw[rp,rp];simp only[wD,pB,oQ,b9,jY,List.length_map,tA,Kr,nn,rn,mC,<-Qe n,List.map_append,List.map_cons,List.map_nil]
theorem acr(n:Nat):tF (fO T) n s.bY=jo iG.bY (tF T n s):=by
 unfold tF;have:=Qe T n [] (cq T [123] (da T s).2);simp only[List.map_nil] at this;simp only[yM,nn,this,nk,nl,mC,pB,oQ,yz,iG.bY]
theorem adA:tP (fO T) s.bY=(tP T s).bY:=by
 unfold tP;simp only[nn,jY,tA,yQ]
theorem Qo: ∀(n:Nat) (l:List dW) (s:aw),nq (fO T) n (l.map dW.bY) s.bY=jo (List.map dW.bY) (nq T n l s)
 |0,_,_=>rfl
 |n+1,l,s=>by
  rw[nq,nq];simp only[wD,pB,oQ,b9,jY,List.length_map,tA,Kr,adA,<-yQ,rn,mC,<-Qo n,List.map_append,List.map_cons,List.map_nil]
theorem ag4:oE (fO T) s.bY=((oE T s).1,(oE T s).2.bY):=by
 unfold oE;rw[jY,qN,G6];cases b2 T s [58]<;>rfl
theorem aaP(n:Nat):tz (fO T) n s.bY=jo Fn.bY (tz T n s):=by
 unfold tz;have:=Qo T n [] (cq T [40] (da T s).2);simp only[List.map_nil] at this;simp only[yM,nn,this,ag4,(Yx T n).b,nk,nl,mC,pB,oQ,yz,Fn.bY]
theorem afO:isRec (fO T) s.bY=isRec T s:=jY T s _
theorem afN:rP (fO T) s.bY=rP T s:=jY T s _
theorem afM:isFun (fO T) s.bY=isFun T s:=jY T s _
theorem KM(N:Nat): ∀(n:Nat) (g:eb) (s:aw),iX (fO T) N n g.bY s.bY=jo eb.bY (iX T N n g s)
 |0,_,_=>rfl
 |n+1,g,s=>by
  rw[iX,iX];simp only[rn,nl,mC,<-KM N n];simp only[wD,pB,oQ,b9,afO,afN,afM,tA,qN,acr,aaP,Kr,nn,nk,eb.bY,List.length_map,List.map_append,List.map_cons,List.map_nil]
end
theorem abz{T AW:List Tok}(h:fO T=fO AW){N n:Nat}{p:eb×aw}(U:iX T N n .none ⟨0,0,0,0⟩=some p): ∃q,iX AW N n .none ⟨0,0,0,0⟩=some q/\p.1.bY=q.1.bY/\p.2.aA=q.2.aA:=by
 have a:=KM T N n .none ⟨0,0,0,0⟩;have b:=KM AW N n .none ⟨0,0,0,0⟩;rw[U,h] at a;rw[a] at b;cases bg:iX AW N n .none ⟨0,0,0,0⟩ with
 |none=>rw[bg] at b;cases b
 |some q=>
  rw[bg] at b;simp only[jo,Option.map_some,bD,dz] at b;have cD:p.2.bY.aA=q.2.bY.aA:=by rw[b.2]
  exact⟨q,rfl,b.1,cD⟩
end
section
mutual
theorem age: ∀(a b:bh),p1 a.bY b.bY=p1 a b
 | .mk a bR,.mk b ls=>by
  rw[yR,yR,p1,p1,KR bR ls];rfl
theorem KR: ∀(a b:List bh),h_ (iB a) (iB b)=h_ a b
 |[],[]=>rfl
 |[],_::_=>rfl
 |_::_,[]=>rfl
 |a::xs,b::dQ=>by rw[iB,iB,h_,h_,age a b,KR xs dQ]
end
mutual
theorem agf: ∀(a b:cy),p2 a.bY b.bY=p2 a b
 | .mk a es b c,.mk er es' fK c'=>by
  rw[ve,ve,p2,p2,KR es es',GF b fK,GF c c'];rfl
theorem GF: ∀(a b:List cy),hK (jC a) (jC b)=hK a b
 |[],[]=>rfl
 |[],_::_=>rfl
 |_::_,[]=>rfl
 |a::xs,b::dQ=>by rw[jC,jC,hK,hK,agf a b,GF xs dQ]
end
theorem BM{α:Type}{f:α->α->Bool}{g:α->α}(h: ∀a b,f (g a) (g b)=f a b): ∀(l m:List α),gh f (l.map g) (m.map g)=gh f l m
 |[],[]=>rfl
 |[],_::_=>rfl
 |_::_,[]=>rfl
 |a::xs,b::dQ=>by rw[List.map_cons,List.map_cons,gh,gh,h a b,BM h xs dQ]
theorem Kv(a b:dW):iV a.bY b.bY=iV a b:=rfl
theorem afd(a b:iG):lf a.bY b.bY=lf a b:=by
 unfold lf iG.bY;rw[BM Kv]
theorem afb(a b:Fn):nu a.bY b.bY=nu a b:=by
 unfold nu Fn.bY;simp only[BM Kv,GF]
theorem afc(a b:eb):oZ a.bY b.bY=oZ a b:=by
 unfold oZ eb.bY;simp only[BM Kv,BM afd,BM afb]
theorem aa0{a b:eb}(h:a.bY=b.bY):oZ a b=true:=by
 rw[<-afc,h];exact PM _
end
section
theorem TD: ∀(n m:Nat) (rest:bk) (p q:Nat) (l:List Tok),rest.length<n->rest.length<m->hW n rest p= .inr l-> ∃l',hW m rest q= .inr l'/\fO l=fO l'
 |0,_,_,_,_,_,h,_,_=>Z
 |_,0,_,_,_,_,_,h,_=>Z
 |n+1,m+1,[],p,q,l,_,_,h=>by
  rw[hW] at h ⊢;cases h;exact⟨_,rfl,rfl⟩
 |n+1,m+1,c::r,p,q,l,aV,hm,h=>by
  rw[hW] at h ⊢;cases bs:jM (c::r) with
  |none=>rw[bs] at h;simp at h
  |some x=>
   obtain⟨k,t,z,b⟩:=x;obtain⟨c_,cD⟩:=GM bs;rw[bs] at h;simp only at h ⊢;cases ax:hW n (((c::r).drop b).drop (dY false ((c::r).drop b))) (p+b+dY false ((c::r).drop b)) with
   |inl e=>rw[ax] at h;cases h
   |inr eI=>
    rw[ax] at h;cases h;obtain⟨fB,aa,ae⟩:=TD n m _ _ (q+b+dY false ((c::r).drop b)) eI (by simp only[List.length_drop,List.length_cons] at aV cD ⊢;omega) (by simp only[List.length_drop,List.length_cons] at hm cD ⊢;omega) ax;rw[aa];refine⟨_,rfl,?_⟩;unfold fO at ae ⊢;rw[List.map_cons,List.map_cons,ae];rfl
theorem aaC{s:bk}(aO:s.length<=5998)(h:(gg s).2.1=0):(gg (10::32::s)).2.1=0/\fO (gg s).1=fO (gg (10::32::s)).1:=by
 unfold gg at h ⊢;have aI: ¬6000<s.length:=Z;have bc: ¬6000<(10::32::s).length:=by simp only[List.length_cons];omega
 rw[if_neg aI] at h;rw[if_neg aI,if_neg bc];unfold zZ at h ⊢;have e:dY false (10::32::s)=dY false s+1+1:=by
  rw[dY,show n4 10=true from cl,bx,dY,show n4 32=true from cl,bx]
 rw[e];cases ax:hW (s.length+1) (s.drop (dY false s)) (dY false s) with
 |inl e=>rw[ax] at h;simp at h
 |inr l=>
  obtain⟨l',aa,ae⟩:=TD _ (s.length+1+1+1) _ _ (dY false s+1+1) l (by simp only[List.length_drop];omega) (by simp only[List.length_drop];omega) ax;simp only[List.length_cons,List.drop_succ_cons];rw[aa];exact⟨rfl,ae⟩
end
section
theorem af3{s:bk}{g:eb}{z:aw}(h:(j3 s g z).2.1=0)(ct:(gg s).2.1=0\/(gg s).2.1≠0):(gg s).2.1=0/\z.aA=0/\j3 s g z=(g,0,0):=by
 unfold j3 at h ⊢;by_cases ak:(gg s).2.1=0
 ·rw[if_pos ak] at h ⊢;unfold uo at h ⊢;by_cases ct:z.aA=0
  ·rw[if_pos ct];exact⟨ak,ct,rfl⟩
  ·rw[if_neg ct] at h;exact absurd h ct
 ·rw[if_neg ak] at h;exact absurd h ak
theorem abX{s:bk}(aO:s.length<=3000){q rl:eb×aw}(U:(gg s).2.1=0->iX (gg s).1 800000000 800000000 .none ⟨0,0,0,0⟩=some q)(aa:(gg (10::32::s)).2.1=0->iX (gg (10::32::s)).1 800000000 800000000 .none ⟨0,0,0,0⟩=some rl)(h:(j3 s q.1 q.2).2.1=0):
  (j3 (10::32::s) rl.1 rl.2).2.1=0/\oZ (j3 s q.1 q.2).1 (j3 (10::32::s) rl.1 rl.2).1=true:=by
 obtain⟨bd,a2,a3⟩:=af3 h (Decidable.em _);obtain⟨c_,cD⟩:=aaC (s:=s) Z bd;obtain⟨r,bJ,c2,c3⟩:=abz cD (U bd);rw[aa c_] at bJ;cases bJ;have e:j3 (10::32::s) rl.1 rl.2=(rl.1,0,0):=by
  unfold j3 uo;rw[if_pos c_,if_pos (by rw[<-c3];exact a2)]
 rw[a3,e];exact⟨rfl,aa0 c2⟩
end
section
set_option maxRecDepth 100000
noncomputable section
def j9(G:av)(Y ai:I)(H:J):O:=
 bj P .len [9] [Y] H λcb=>
 ab (aZ P .gtr 3 true cb (.int .i64 3000)) λb0=>
 aD b0 false H (dw ai) λbX U=>
 aD b0 false U (λq=>ia (dC P .empty .len [9] [bX]) (dC P U .len [9] [bX]) q) λbI aa=>
 aD b0 false aa (bm (aZ P .gtr 3 true bI (.int .i64 3000))) λcc ae=>
 ab (cW b0 (some (.bool true)) (some cc)) λcG=>
 bQ (some cG) (some ((.bool true),ae)) (aL ae (G 9 [Y] ae) λcz al=>
 ab (gf cz 0) λc7=>
 ab (gf cz 1) λcI=>
 cv al [I.an,I.an,I.an] λbf aB=>
 cv aB [(.int .i64 0),(.int .i64 0)] λbB aG=>
 a1 aG (aQ P aG 26 bf c7) λaP=>
 a1 aP (aQ P aP 29 bB cI) λbn=>
 aL bn (G 9 [ai] bn) λdu bH=>
 ab (gf du 0) λdh=>
 ab (gf du 1) λdT=>
 cv bH [I.an,I.an,I.an] λbu co=>
 cv co [(.int .i64 0),(.int .i64 0)] λbS dp=>
 a1 dp (aQ P dp 26 bu dh) λdR=>
 a1 dR (aQ P dR 29 bS dT) λeF=>
 ab (aF P 29 bB 0) λdI=>
 ab (am P eF 27 dI) λcH=>
 ab (aZ P .neq 27 true cH (.int .i64 0)) λep=>
 aD ep false eF (bm (aF P 29 bS 0)) λef fs=>
 aD ep false fs (qr (am P fs 27 ef)) λe6 fP=>
 aD ep false fP (bm (aZ P .neq 27 true e6 (.int .i64 0))) λeg gG=>
 ab (cW ep (some (.bool true)) (some eg)) λej=>
 bQ (some ej) (aL gG (G 12 [] gG) λed hM=>
 some (ed,hM)) (ab (aZ P .add 9 true (.str [10,32]) Y) λe7=>
 aL gG (G 8 [e7] gG) λfy hM=>
 ab (gf fy 0) λfW=>
 ab (gf fy 1) λgv=>
 cv hM [I.an,I.an,I.an] λbF ht=>
 cv ht [(.int .i64 0),(.int .i64 0)] λcr kL=>
 a1 kL (aQ P kL 26 bF fW) λiC=>
 a1 iC (aQ P iC 29 cr gv) λhU=>
 ab (am P hU 26 bf) λeU=>
 ab (am P hU 26 bu) λgw=>
 aL hU (G 14 [eU,gw] hU) λgb kM=>
 ab (am P kM 26 bf) λgS=>
 ab (am P kM 26 bu) λju=>
 aL kM (G 10 [gS,ju] kM) λhv hB=>
 ab (aZ P .eql 4 false gb hv) λh1=>
 il h1 true (bm (aF P 29 cr 0)) λgY=>
 il h1 true (qr (am P (gY.heap hB) 27 gY.val)) λjL=>
 il h1 true (bm (aZ P .eql 27 true jL.val (.int .i64 0))) λmf=>
 ab (cW h1 (some mf.val) (some (.bool false))) λiR=>
 il iR true (qr (am P (mf.heap (jL.heap (gY.heap hB))) 26 bf)) λmM=>
 il iR true (qr (am P (mM.heap (mf.heap (jL.heap (gY.heap hB)))) 26 bF)) λmN=>
 il iR true (λq=>fo (mN.heap (mM.heap (mf.heap (jL.heap (gY.heap hB))))) (G 14 [mM.val,mN.val] (mN.heap (mM.heap (mf.heap (jL.heap (gY.heap hB)))))) q) λp8=>
 ab (cW iR (some p8.val) (some (.bool false))) λjF=>
 il jF true (λq=>fo (p8.heap (mN.heap (mM.heap (mf.heap (jL.heap (gY.heap hB)))))) (G 12 [] (p8.heap (mN.heap (mM.heap (mf.heap (jL.heap (gY.heap hB))))))) q) λq0=>
 ab (cW jF (some q0.val) (some (.bool false))) λlq=>
 bif qY [0,0,3,0,0,31,63,127,255,511,1023,2047,4095,8191,8191,32767,65535,131071,262143,524287,1048575] [0,1,2,5,6,7,8,9,10,11,12,13,14,15,16,17,18,19,20] [⟨0,(.read eU),λH=>am P H 26 bf⟩,⟨1,(.read gw),λH=>am P H 26 bu⟩,⟨2,(.gX gb kM),λH=>none⟩,⟨3,(.read gS),λH=>am P H 26 bf⟩,⟨4,(.read ju),λH=>am P H 26 bu⟩,⟨5,(.gX hv hB),λH=>none⟩,⟨6,(.pure h1),λH=>none⟩,⟨7,(.pure h1),λH=>none⟩,⟨8,gY,λH=>none⟩,⟨9,jL,λH=>am P H 27 gY.val⟩,⟨10,mf,λH=>none⟩,⟨11,(.pure iR),λH=>none⟩,⟨12,(.pure iR),λH=>none⟩,⟨13,mM,λH=>am P H 26 bf⟩,⟨14,mN,λH=>am P H 26 bF⟩,⟨15,p8,λH=>none⟩,⟨16,(.pure jF),λH=>none⟩,⟨17,(.pure jF),λH=>none⟩,⟨18,q0,λH=>none⟩,⟨19,(.pure lq),λH=>none⟩,⟨20,(.pure lq),λH=>none⟩] hU then(some (lq,(q0.heap (p8.heap (mN.heap (mM.heap (mf.heap (jL.heap (gY.heap hB))))))))) else none))
theorem amU(G:av)(N:Nat)(Y:I)(ai:I)(H:J):bp Tryz.f5 G N (cF [Y,ai]) H=j9 G Y ai H:=by
 refine cP (A:=bp Tryz.f5 G N) (aN _) ?_;delta j9;kernel_rfl
end
end
end Go.Proofs.YtghmbpmaafnodaaGreatDoor
