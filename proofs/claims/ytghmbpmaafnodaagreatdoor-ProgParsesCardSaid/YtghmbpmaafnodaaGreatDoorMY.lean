/-
  Texts of one proof, laid together: Rq Rr Rv Rw ShQ Rx Sa Sb Sc Sd ShQb Se.
-/
import Derived.Test.YtghmbpmaafnodaaGreatDoorMU
import Derived.Test.YtghmbpmaafnodaaGreatDoorMD
import Derived.Test.YtghmbpmaafnodaaGreatDoorMS
set_option linter.unusedVariables false
set_option linter.unusedSimpArgs false
namespace Go.Proofs.YtghmbpmaafnodaaGreatDoor
open Go.gd
open Nat (reduceAdd reduceLeDiff)
section
theorem Qc{N:Nat}{l m:List jY}(az:l.length<=1000000000)(hm:l.length=m.length)(aM: ∀x∈l,x.fields.length<=1000000000){a b f7 g7 gW li:Nat}{kc lc:Option Nat}{ju jv:Bool}{hc hd:List (List I)}{H:J}{ok ok':Nat->Prop}{g1 f1 g2 f2:I}(bV:H.get a=some (.row false 3 [[.aN f7 g7 l.length 3 kc,g1,f1]]))(ax:H.get b=some (.row false 3 [[.aN gW li m.length 3 lc,g2,f2]]))(aG:H.get f7=some (.row ju 3 hc))(aP:H.get gW=some (.row jv 3 hd))(aI: ∀(j:Nat) (a:jY),l[j]? =some a-> ∃cs,hc[g7+j]? =some cs/\gA.V H ok a cs)(bc: ∀(j:Nat) (a:jY),m[j]? =some a-> ∃cs,hd[li+j]? =some cs/\gA.V H ok' a cs){Q:I->J->Prop}:
  ∀(c j n:Nat),j+c=l.length->c<n->(gL mM (l.drop j) (m.drop j)=true->W (vf (aq P ao) N (.ptr a 0 0) (.ptr b 0 0) H) Q)->(gL mM (l.drop j) (m.drop j)=false->Q (.bool false) H)->
  W (sI (aq P ao) N n (.ptr a 0 0) (.ptr b 0 0) (.int .i64 j) H) Q
 |_,_,0,_,aU,_,_=>Z
 |0,j,n+1,aS,aU,ek,uY=>by
  have bH: ¬((j:Int)<(l.length:Int)):=Z;have d1:l.drop j=[]:=List.drop_eq_nil_of_le Z;have d2:m.drop j=[]:=List.drop_eq_nil_of_le Z;rw[sI];unfold BX;simp-implicitDefEqProofs(disch:=try exact af) only[reduceAdd,reduceLeDiff,reduceIte,aw,bV,ax,bH,decide_false];exact ek (by rw[d1,d2];rfl)
 |c+1,j,n+1,aS,aU,ek,uY=>by
  have jK:j<l.length:=Z;have nH:j<m.length:=Z;have bH:(j:Int)<(l.length:Int):=Z;have qb:(j:Int)<(m.length:Int):=Z;have aY:(0:Int)<=(j:Int):=Z;have bz:((j:Int)).toNat=j:=Z;obtain⟨cs,uC,v,rfl,eo⟩:=aI j l[j] (List.getElem?_eq_getElem jK);obtain⟨bU,g4,w,rfl,eX⟩:=bc j m[j] (List.getElem?_eq_getElem nH);have hw:IntKind.i64.wrap ((j:Int)+1)=((j+1:Nat):Int):=by rw[wrap_i64 Z Z];omega
  have dl:l.drop j=l[j]::l.drop (j+1):=List.drop_eq_getElem_cons jK;have ql:m.drop j=m[j]::m.drop (j+1):=List.drop_eq_getElem_cons nH;have q3:=aM l[j] (List.getElem_mem _);rw[dl,ql,gL] at ek uY;generalize l[j]=x at uC ek uY eo q3;generalize m[j]=y at g4 ek uY eX;have cR:=eo.one;have dd:=eX.one;have on:mM x y=true->W (sI (aq P ao) N n (.ptr a 0 0) (.ptr b 0 0) (.int .i64 ((j+1:Nat):Int)) H) Q:=λuH=>by
   rw[uH,Bool.true_and] at ek uY;exact Qc az hm aM bV ax aG aP aI bc c (j+1) n Z Z ek uY
  have eu:mM x y=(x.name==y.name&&gL jD x.fields y.fields):=rfl;rw[sI];unfold BX;cases c0:x.name==y.name with
  |false=>
   simp-implicitDefEqProofs(disch:=try exact af) only[reduceAdd,reduceLeDiff,reduceIte,aw,bV,ax,bH,qb,decide_true,bz,aG,aP,uC,g4,c0,Bool.not_false,rl,rh,rk,ri,rj];refine vI (wL ad ?_) ?_
   ·simp only[rU]
    repeat (refine au (λ_ _=> .inl rfl) ?_)
    trivial
   ·refine a_.2 (uY (by rw[eu,c0,Bool.false_and,Bool.false_and]))
  |true=>
   simp-implicitDefEqProofs(disch:=try exact af) only[reduceAdd,reduceLeDiff,reduceIte,aw,bV,ax,bH,qb,decide_true,bz,aG,aP,uC,g4,c0,Bool.not_true,rl,rh,rk,ri,rj];refine gP (Jj q3 eo eX) ?_;rintro _ _ ⟨rfl,rfl⟩;refine⟨bN _,?_⟩;cases bM:gL jD x.fields y.fields with
   |true=>
    simp-implicitDefEqProofs(disch:=try exact af) only[bg,bL,ee,hw,Bool.not_true,rl,rh,rk,ri,rj];refine vI (wL ad ?_) ?_
    ·simp only[rU]
     repeat (refine au (λ_ _=> .inl rfl) ?_)
     trivial
    ·simp-implicitDefEqProofs(disch:=try exact af) only[bg,bL,ee,hw];exact on (by rw[eu,c0,bM];rfl)
   |false=>
    simp-implicitDefEqProofs(disch:=try exact af) only[bg,bL,Bool.not_false,rl,rh,rk,ri,rj];refine vI (wL ad ?_) (a_.2 (uY (by rw[eu,c0,bM];rfl)));simp only[rU]
    repeat (refine au (λ_ _=> .inl rfl) ?_)
    trivial
end
section
theorem akJ(a b:I):cj (some a) b=I.beq a b:=rfl
theorem Y3{v w:I}{n r:bl}{d p:Int}{h:Bool}(bA:cj (some v) v=true)(hw:cj (some w) w=true):cj (some (.agg [.str n,v,.bool h,.str r,.int .i64 d,w,.int .i64 p])) (.agg [.str n,v,.bool h,.str r,.int .i64 d,w,.int .i64 p])=true:=by
 rw[akJ] at bA hw;simp[cj,I.beq,jR.beq,bA,hw]
theorem eJ.rd{α:Type}{K:tl α}{H:J}{ok:Nat->Prop}{l:List α}{v:I}(h:eJ K H ok l v):cj (some v) v=true:=by
 rcases h with⟨rfl,_⟩|⟨L,i,cap,ro,els,rfl,_⟩|⟨L,i,cap,rfl,_⟩
 ·rfl
 ·exact u7 _ _ _ _ _
 ·exact u7 _ _ _ _ _
theorem ez.rd{H:J}{ok:Nat->Prop}{l:List cE}{v:I}(h:ez H ok l v):cj (some v) v=true:=by
 rcases h with⟨rfl,_⟩|⟨L,i,cap,ro,els,rfl,_⟩|⟨L,i,cap,rfl,_⟩
 ·rfl
 ·exact u7 _ _ _ _ _
 ·exact u7 _ _ _ _ _
theorem Q2{N:Nat}{l m:List Fn}(az:l.length<=1000000000)(hm:l.length=m.length)(aM: ∀x∈l,Cn x){a b f7 g7 gW li:Nat}{kc lc:Option Nat}{ju jv:Bool}{hc hd:List (List I)}{ok ok':Nat->Prop}{g1 f1 g2 f2:I}:
  ∀(c j n:Nat) (H:J),j+c=l.length->c<n->H.get a=some (.row false 3 [[f1,g1,.aN f7 g7 l.length 7 kc]])->H.get b=some (.row false 3 [[f2,g2,.aN gW li m.length 7 lc]])->H.get f7=some (.row ju 7 hc)->H.get gW=some (.row jv 7 hd)->(∀(j:Nat) (a:Fn),l[j]? =some a-> ∃cs,hc[g7+j]? =some cs/\gw.V H ok a cs)->(∀(j:Nat) (a:Fn),m[j]? =some a-> ∃cs,hd[li+j]? =some cs/\gw.V H ok' a cs)->
  W (vg (aq P ao) N n (.ptr a 0 0) (.ptr b 0 0) (.int .i64 j) H) λr H'=>r= .bool (gL pK (l.drop j) (m.drop j))/\aR H H'
 |_,_,0,_,_,aU,_,_,_,_,_,_=>Z
 |0,j,n+1,H,aS,aU,bV,ax,aG,aP,aI,bc=>by
  have bH: ¬((j:Int)<(l.length:Int)):=Z;have d1:l.drop j=[]:=List.drop_eq_nil_of_le Z;have d2:m.drop j=[]:=List.drop_eq_nil_of_le Z;rw[vg];unfold BW zi;simp-implicitDefEqProofs(disch:=try exact af) only[reduceAdd,reduceLeDiff,reduceIte,aw,bV,ax,bH,decide_false];exact a_.2 ⟨by rw[d1,d2];rfl,.refl _⟩
 |c+1,j,n+1,H,aS,aU,bV,ax,aG,aP,aI,bc=>by
  have jK:j<l.length:=Z;have nH:j<m.length:=Z;have bH:(j:Int)<(l.length:Int):=Z;have qb:(j:Int)<(m.length:Int):=Z;have aY:(0:Int)<=(j:Int):=Z;have bz:((j:Int)).toNat=j:=Z;obtain⟨cs,cD,v,bv,rfl,eo,lx⟩:=aI j l[j] (List.getElem?_eq_getElem jK);obtain⟨bU,eE,w,tn,rfl,eX,qq⟩:=bc j m[j] (List.getElem?_eq_getElem nH);have hw:IntKind.i64.wrap ((j:Int)+1)=((j+1:Nat):Int):=by rw[wrap_i64 Z Z];omega
  have dl:l.drop j=l[j]::l.drop (j+1):=List.drop_eq_getElem_cons jK;have ql:m.drop j=m[j]::m.drop (j+1):=List.drop_eq_getElem_cons nH;have q3:=aM l[j] (List.getElem_mem _);rw[dl,ql,gL];generalize l[j]=x at cD eo lx q3 ⊢;generalize m[j]=y at eE eX qq ⊢;have cR:=eo.one;have dd:=eX.one;have dG:=lx.gi;have eM:=qq.gi;have FY:=J.aX bV;have yB:=J.aX ax;have FX:=J.aX aG;have arb:=J.aX aP;rw[vg];unfold BW;have rx:=Y3 (n:=x.name) (r:=x.fL) (d:=x.rd) (p:=x.pos) (h:=x.has) eo.rd lx.rd;have hU:=Y3 (n:=y.name) (r:=y.fL) (d:=y.rd) (p:=y.pos) (h:=y.has) eX.rd qq.rd;simp-implicitDefEqProofs(disch:=try exact af) only[reduceAdd,reduceLeDiff,reduceIte,aw,J.io,bV,ax,bH,qb,decide_true,bz,aG,aP,cD,eE,cR,dd,dG,eM,rx,hU]
  have hl:=(aR.push H (.row false 7 [[.str x.name,v,.bool x.has,.str x.fL,.int .i64 x.rd,bv,.int .i64 x.pos]])).bX (.row false 7 [[.str y.name,w,.bool y.has,.str y.fL,.int .i64 y.rd,tn,.int .i64 y.pos]]);have e7:=(aR.push (H.push (.row false 7 [[.str x.name,v,.bool x.has,.str x.fL,.int .i64 x.rd,bv,.int .i64 x.pos]])) (.row false 7 [[.str y.name,w,.bool y.has,.str y.fL,.int .i64 y.rd,tn,.int .i64 y.pos]])).get (J.ca H (.row false 7 [[.str x.name,v,.bool x.has,.str x.fL,.int .i64 x.rd,bv,.int .i64 x.pos]]));have gG:=J.ca (H.push (.row false 7 [[.str x.name,v,.bool x.has,.str x.fL,.int .i64 x.rd,bv,.int .i64 x.pos]])) (.row false 7 [[.str y.name,w,.bool y.has,.str y.fL,.int .i64 y.rd,tn,.int .i64 y.pos]])
  simp only[J.b2] at gG;generalize (H.push (.row false 7 [[.str x.name,v,.bool x.has,.str x.fL,.int .i64 x.rd,bv,.int .i64 x.pos]])).push (.row false 7 [[.str y.name,w,.bool y.has,.str y.fL,.int .i64 y.rd,tn,.int .i64 y.pos]])=bm at hl e7 gG ⊢;have eu:pK x y=(x.name==y.name&&(gL jD x.params y.params&&(x.has==y.has&&((x.fL==y.fL&&x.rd==y.rd)&&ir x.body y.body)))):=rfl;rw[eu];cases c0:x.name==y.name with
  |false=>
   simp-implicitDefEqProofs(disch:=try exact af) only[reduceAdd,reduceLeDiff,reduceIte,aw,Bool.not_false];exact a_.2 ⟨by simp only[Bool.false_and],hl⟩
  |true=>
   simp-implicitDefEqProofs(disch:=try exact af) only[reduceAdd,reduceLeDiff,reduceIte,aw,Bool.not_true,e7,gG];refine gP (Jj q3.1 (eo.bo (eb.aK hl)) (eX.bo (eb.aK hl))) ?_;rintro _ _ ⟨rfl,rfl⟩;refine⟨bN _,?_⟩;cases bM:gL jD x.params y.params with
   |false=>
    simp-implicitDefEqProofs(disch:=try exact af) only[reduceAdd,reduceLeDiff,reduceIte,aw,Bool.not_false];exact a_.2 ⟨by simp only[Bool.false_and,Bool.and_false],hl⟩
   |true=>
   cases c2:x.has==y.has with
   |false=>
    simp-implicitDefEqProofs(disch:=try exact af) only[reduceAdd,reduceLeDiff,reduceIte,aw,Bool.not_true,Bool.not_false,e7,gG,c2];exact a_.2 ⟨by simp only[Bool.false_and,Bool.and_false],hl⟩
   |true=>
   cases c3:(x.fL==y.fL&&x.rd==y.rd) with
   |false=>
    simp-implicitDefEqProofs(disch:=try exact af) only[reduceAdd,reduceLeDiff,reduceIte,aw,Bool.not_true,Bool.not_false,e7,gG,c2,Hp,c3];exact a_.2 ⟨by simp only[Bool.false_and,Bool.and_false],hl⟩
   |true=>
    simp-implicitDefEqProofs(disch:=try exact af) only[reduceAdd,reduceLeDiff,reduceIte,aw,Bool.not_true,Bool.not_false,e7,gG,c2,Hp,c3];refine gP (Ll (B:=1000000000) cm (λe _=>K0 cm e) q3.2 (lx.aK hl) (qq.aK hl)) ?_;rintro _ ct ⟨rfl,bK⟩;refine⟨bK.1,?_⟩;have pp:=hl.trans bK;cases c4:ir x.body y.body with
    |false=>
     simp-implicitDefEqProofs(disch:=try exact af) only[bg,bL,Bool.not_false];exact a_.2 ⟨by simp only[Bool.false_and,Bool.and_false],pp⟩
    |true=>
     simp-implicitDefEqProofs(disch:=try exact af) only[bg,bL,ee,Bool.not_true,hw];refine(Q2 az hm aM (ok:=ok) (ok':=ok') c (j+1) n ct Z Z (pp.get bV) (pp.get ax) (pp.get aG) (pp.get aP) (λi z be=> ?_) (λi z be=> ?_)).mono ?_
     ·obtain⟨p,q,r⟩:=aI i z be;exact⟨p,q,gw.bo (eb.aK pp) r⟩
     ·obtain⟨p,q,r⟩:=bc i z be;exact⟨p,q,gw.bo (eb.aK pp) r⟩
     ·rintro v H' ⟨rfl,q⟩;exact⟨by simp only[Bool.true_and],pp.trans q⟩
end
section
theorem afy{N:Nat}{l m:List Fn}(az:l.length<=1000000000)(hm:l.length=m.length)(aM: ∀x∈l,Cn x)(dU:l.length<N){H:J}{a b:Nat}{ok ok':Nat->Prop}{g1 f1 g2 f2 v w:I}(bV:H.get a=some (.row false 3 [[f1,g1,v]]))(ax:H.get b=some (.row false 3 [[f2,g2,w]]))(U:eJ gw H ok l v)(aa:eJ gw H ok' m w):
  W (vf (aq P ao) N (.ptr a 0 0) (.ptr b 0 0) H) λr H'=>r= .bool (gL pK l m)/\aR H H':=by
 unfold vf;by_cases cn:l.length=0
 ·have lq:m.length=0:=Z;obtain rfl:=List.length_eq_zero_iff.1 cn;obtain rfl:=List.length_eq_zero_iff.1 lq;obtain⟨n,rfl⟩: ∃n,N=n+1:=⟨N-1,by simp only[List.length_nil] at dU;omega⟩;have bM:=λH'=>U.uk H'
  have cR:=U.one;have z0:((0:Nat):Int)=0:=rfl;rw[vg];unfold BW zi;simp-implicitDefEqProofs(disch:=try exact af) only[reduceAdd,reduceLeDiff,reduceIte,aw,bV,ax,bM,List.length_nil,z0,Int.lt_irrefl,decide_false];exact a_.2 ⟨rfl,.refl _⟩
 ·obtain⟨eG,i1,cG,gm,o7,rfl,cD,eo⟩:=U.row cn;obtain⟨fA,i2,dh,e0,qW,rfl,cu,eX⟩:=aa.row Z;have ht:gw.esz=7:=rfl;rw[ht] at bV ax cD cu;have:=Q2 (N:=N) az hm aM l.length 0 N H Z dU bV ax cD cu eo eX;simpa using this
theorem aeF{N:Nat}{l m:List jY}(az:l.length<=1000000000)(hm:l.length=m.length)(aM: ∀x∈l,x.fields.length<=1000000000)(dU:l.length<N){H:J}{a b:Nat}{ok ok':Nat->Prop}{g1 f1 g2 f2 v w:I}(bV:H.get a=some (.row false 3 [[v,g1,f1]]))(ax:H.get b=some (.row false 3 [[w,g2,f2]]))(U:eJ gA H ok l v)(aa:eJ gA H ok' m w){Q:I->J->Prop}(ek:gL mM l m=true->W (vf (aq P ao) N (.ptr a 0 0) (.ptr b 0 0) H) Q)(uY:gL mM l m=false->Q (.bool false) H):
  W (sI (aq P ao) N N (.ptr a 0 0) (.ptr b 0 0) (.int .i64 0) H) Q:=by
 by_cases cn:l.length=0
 ·have lq:m.length=0:=Z;obtain rfl:=List.length_eq_zero_iff.1 cn;obtain rfl:=List.length_eq_zero_iff.1 lq;obtain⟨n,rfl⟩: ∃n,N=n+1:=⟨N-1,by simp only[List.length_nil] at dU;omega⟩;have bM:=λH'=>U.uj H'
  have cR:=U.one;have z0:((0:Nat):Int)=0:=rfl;rw[sI];unfold BX;simp-implicitDefEqProofs(disch:=try exact af) only[reduceAdd,reduceLeDiff,reduceIte,aw,bV,ax,bM,List.length_nil,z0,Int.lt_irrefl,decide_false];exact ek rfl
 ·obtain⟨eG,i1,cG,gm,o7,rfl,cD,eo⟩:=U.row cn;obtain⟨fA,i2,dh,e0,qW,rfl,cu,eX⟩:=aa.row Z;have ht:gA.esz=3:=rfl;rw[ht] at bV ax cD cu;exact Qc (N:=N) az hm aM bV ax cD cu eo eX l.length 0 N Z dU ek uY
end
section
theorem ZQ{g g':eA}(aM:zS g){H:J}{ok ok':Nat->Prop}{b9 b8 b_ kp iB fx:I}(U:eJ gA H ok g.el b9)(aa:eJ fz H ok g.globals b8)(ae:eJ gw H ok g.funcs b_)(cG:eJ gA H ok' g'.el kp)(dh:eJ fz H ok' g'.globals iB)(dL:eJ gw H ok' g'.funcs fx):
  W (aq P ao 10 [.agg [b9,b8,b_],.agg [kp,iB,fx]] H) λr H'=>r= .bool (xu g g')/\aR H H':=by
 refine cP (λ_=>akK 1000000001) ?_;have cR:=U.one;have dd:=aa.one;have dG:=ae.one;have cD:=cG.one;have cu:=dh.one;have eH:=dL.one;have dQ: ∀l,eK l (.agg [b9,b8,b_])=some (.ptr l 0 0,.row false 3 [[b9,b8,b_]]):=λl=>h8 l _ (by simp only[List.all_cons,List.all_nil,cR,dd,dG,Bool.and_self])
 have ck: ∀l,eK l (.agg [kp,iB,fx])=some (.ptr l 0 0,.row false 3 [[kp,iB,fx]]):=λl=>h8 l _ (by simp only[List.all_cons,List.all_nil,cD,cu,eH,Bool.and_self])
 have aJ:=(aR.push H (.row false 3 [[b9,b8,b_]])).bX (.row false 3 [[kp,iB,fx]]);have e7:=(aR.push (H.push (.row false 3 [[b9,b8,b_]])) (.row false 3 [[kp,iB,fx]])).get (J.ca H (.row false 3 [[b9,b8,b_]]));have gG:=J.ca (H.push (.row false 3 [[b9,b8,b_]])) (.row false 3 [[kp,iB,fx]]);simp only[J.b2] at gG;have bM:=λH'=>U.uj H'
 have c2:=λH'=>cG.uj H'
 have c3:=λH'=>ae.uk H'
 have c4:=λH'=>dL.uk H'
 have eu:xu g g'=(gL mM g.el g'.el&&(gL jD g.globals g'.globals&&gL pK g.funcs g'.funcs)):=rfl;rw[eu];unfold It;simp-implicitDefEqProofs(disch:=try exact af) only[bg,bg,bL,dQ,ck,J.b2];generalize (H.push (.row false 3 [[b9,b8,b_]])).push (.row false 3 [[kp,iB,fx]])=bm at aJ e7 gG ⊢;have mE:=eb.aK (ok:=ok) aJ;have AG:=eb.aK (ok:=ok') aJ;by_cases aI:g.el.length=g'.el.length
 ·have hp:((g.el.length:Int) != (g'.el.length:Int))=false:=by simp;omega
  by_cases bc:g.funcs.length=g'.funcs.length
  ·have EZ:((g.funcs.length:Int) != (g'.funcs.length:Int))=false:=by simp;omega
   simp-implicitDefEqProofs(disch:=try exact af) only[reduceAdd,reduceLeDiff,reduceIte,aw,e7,gG,bM,c2,c3,c4,hp,EZ];refine gP (Jj aM.rc (aa.bo mE) (dh.bo AG)) ?_;rintro _ _ ⟨rfl,rfl⟩;refine⟨bN _,?_⟩;cases dq:gL jD g.globals g'.globals with
   |false=>
    simp-implicitDefEqProofs(disch:=try exact af) only[bg,bL,Bool.not_false];exact a_.2 ⟨by simp only[Bool.false_and,Bool.and_false],aJ⟩
   |true=>
    simp-implicitDefEqProofs(disch:=try exact af) only[bg,bL,Bool.not_true];refine aeF aM.r.1 aI aM.r.2 (by have:=aM.r.1;omega) e7 gG (U.bo mE) (cG.bo AG) (λeZ=> ?_) (λeZ=> ?_)
    ·rw[eZ];refine(afy aM.f.1 bc aM.f.2 (by have:=aM.f.1;omega) e7 gG (ae.bo mE) (dL.bo AG)).mono ?_;rintro v H' ⟨rfl,q⟩;exact⟨by simp only[Bool.true_and],aJ.trans q⟩
    ·exact⟨by rw[eZ,Bool.false_and],aJ⟩
  ·have EZ:((g.funcs.length:Int) != (g'.funcs.length:Int))=true:=by simp;omega
   simp-implicitDefEqProofs(disch:=try exact af) only[reduceAdd,reduceLeDiff,reduceIte,aw,e7,gG,bM,c2,c3,c4,hp,EZ];exact a_.2 ⟨by rw[wS g.funcs g'.funcs bc,Bool.and_false,Bool.and_false],aJ⟩
 ·have hp:((g.el.length:Int) != (g'.el.length:Int))=true:=by simp;omega
  simp-implicitDefEqProofs(disch:=try exact af) only[reduceAdd,reduceLeDiff,reduceIte,aw,e7,gG,bM,c2,hp];exact a_.2 ⟨by rw[wS g.el g'.el aI,Bool.false_and],aJ⟩
end
section
set_option maxRecDepth 100000
noncomputable section
def zj(G:av)(N:Nat)(H:J):O:=
 some ((.bool true),H)
theorem adx(G:av)(N:Nat): ∀R H,cw P G N (Code.snd (Code.snd (Code.snd (Code.snd (c6 Tryz.f11))))) (bY Tryz.f11) [] (bY Tryz.f11) R H=zj G N H:=by
 refine dj (aL _) λR H=> ?_
 delta zj;kernel_rfl
def BY(G:av)(N:Nat)(hC:I->I->I->J->O)(an ay bu:I)(H:J):O:=
 ab (aE P 26 an 2) λix=>
 ab (aj P H 24 ix) λhQ=>
 bg P .len [24] [hQ] H λgk=>
 ab (aW P .lss 3 false bu gk) λjU=>
 bO (some jU) (ab (aE P 26 an 2) λlr=>
 ab (aj P H 24 lr) λsj=>
 ab (dS P 24 sj bu) λl5=>
 ab (aE P 46 l5 5) λjW=>
 ab (aj P H 3 jW) λoH=>
 ab (aE P 26 ay 2) λiV=>
 ab (aj P H 24 iV) λl6=>
 ab (dS P 24 l6 bu) λkS=>
 ab (aE P 46 kS 5) λl7=>
 ab (aj P H 3 l7) λnb=>
 ab (aW P .neq 3 false oH nb) λfD=>
 dZ fD false (bh (aE P 26 an 2)) λeQ=>
 dZ fD false (qr (aj P (eQ.heap H) 24 eQ.val)) λfN=>
 dZ fD false (di bu) λgu=>
 dZ fD false (bh (dS P 24 fN.val gu.val)) λgj=>
 dZ fD false (bh (aE P 46 gj.val 1)) λf_=>
 dZ fD false (qr (aj P (f_.heap (gj.heap (gu.heap (fN.heap (eQ.heap H))))) 23 f_.val)) λgQ=>
 dZ fD false (bh (aE P 26 ay 2)) λgx=>
 dZ fD false (qr (aj P (gx.heap (gQ.heap (f_.heap (gj.heap (gu.heap (fN.heap (eQ.heap H))))))) 24 gx.val)) λhb=>
 dZ fD false (di bu) λgZ=>
 dZ fD false (bh (dS P 24 hb.val gZ.val)) λhi=>
 dZ fD false (bh (aE P 46 hi.val 1)) λg_=>
 dZ fD false (qr (aj P (g_.heap (hi.heap (gZ.heap (hb.heap (gx.heap (gQ.heap (f_.heap (gj.heap (gu.heap (fN.heap (eQ.heap H))))))))))) 23 g_.val)) λhY=>
 dZ fD false (λq=>fk (hY.heap (g_.heap (hi.heap (gZ.heap (hb.heap (gx.heap (gQ.heap (f_.heap (gj.heap (gu.heap (fN.heap (eQ.heap H)))))))))))) (G 35 [gQ.val,hY.val] (hY.heap (g_.heap (hi.heap (gZ.heap (hb.heap (gx.heap (gQ.heap (f_.heap (gj.heap (gu.heap (fN.heap (eQ.heap H))))))))))))) q) λiR=>
 dZ fD false (bh (eY .not iR.val)) λiS=>
 ab (cX fD (some (.bool true)) (some iS.val)) λiy=>
 dZ iy false (bh (aE P 26 an 2)) λlK=>
 dZ iy false (qr (aj P (lK.heap (iS.heap (iR.heap (hY.heap (g_.heap (hi.heap (gZ.heap (hb.heap (gx.heap (gQ.heap (f_.heap (gj.heap (gu.heap (fN.heap (eQ.heap H))))))))))))))) 24 lK.val)) λmj=>
 dZ iy false (di bu) λnx=>
 dZ iy false (bh (dS P 24 mj.val nx.val)) λny=>
 dZ iy false (bh (aE P 46 ny.val 4)) λmP=>
 dZ iy false (qr (aj P (mP.heap (ny.heap (nx.heap (mj.heap (lK.heap (iS.heap (iR.heap (hY.heap (g_.heap (hi.heap (gZ.heap (hb.heap (gx.heap (gQ.heap (f_.heap (gj.heap (gu.heap (fN.heap (eQ.heap H))))))))))))))))))) 44 mP.val)) λou=>
 dZ iy false (bh (aE P 26 ay 2)) λmQ=>
 dZ iy false (qr (aj P (mQ.heap (ou.heap (mP.heap (ny.heap (nx.heap (mj.heap (lK.heap (iS.heap (iR.heap (hY.heap (g_.heap (hi.heap (gZ.heap (hb.heap (gx.heap (gQ.heap (f_.heap (gj.heap (gu.heap (fN.heap (eQ.heap H))))))))))))))))))))) 24 mQ.val)) λpR=>
 dZ iy false (di bu) λrO=>
 dZ iy false (bh (dS P 24 pR.val rO.val)) λrP=>
 dZ iy false (bh (aE P 46 rP.val 4)) λxy=>
 dZ iy false (qr (aj P (xy.heap (rP.heap (rO.heap (pR.heap (mQ.heap (ou.heap (mP.heap (ny.heap (nx.heap (mj.heap (lK.heap (iS.heap (iR.heap (hY.heap (g_.heap (hi.heap (gZ.heap (hb.heap (gx.heap (gQ.heap (f_.heap (gj.heap (gu.heap (fN.heap (eQ.heap H))))))))))))))))))))))))) 44 xy.val)) λCg=>
 dZ iy false (λq=>fk (Cg.heap (xy.heap (rP.heap (rO.heap (pR.heap (mQ.heap (ou.heap (mP.heap (ny.heap (nx.heap (mj.heap (lK.heap (iS.heap (iR.heap (hY.heap (g_.heap (hi.heap (gZ.heap (hb.heap (gx.heap (gQ.heap (f_.heap (gj.heap (gu.heap (fN.heap (eQ.heap H)))))))))))))))))))))))))) (G 36 [ou.val,Cg.val] (Cg.heap (xy.heap (rP.heap (rO.heap (pR.heap (mQ.heap (ou.heap (mP.heap (ny.heap (nx.heap (mj.heap (lK.heap (iS.heap (iR.heap (hY.heap (g_.heap (hi.heap (gZ.heap (hb.heap (gx.heap (gQ.heap (f_.heap (gj.heap (gu.heap (fN.heap (eQ.heap H))))))))))))))))))))))))))) q) λHi=>
 dZ iy false (bh (eY .not Hi.val)) λHj=>
 ab (cX iy (some (.bool true)) (some Hj.val)) λr4=>
 bif oW [0,1,0,7,15,31,0,64,0,448,960,1984,4095,8191,16383,32767,16383,131071,262143,524287,16383,1064959,16383,7356415,15745023,32522239,67108863,134217727,268435455,536870911,1073741823,2147483647,1073741823,8589934591,17179869183,34359738367,1073741823,69793218559,1073741823,482110078975,1031865892863,2131377520639,4398046511103,8796093022207,17592186044415] [0,1,2,3,4,5,6,7,8,9,10,11,12,13,14,15,16,17,18,19,20,21,22,23,24,25,26,27,28,29,30,31,32,33,34,35,36,37,38,39,40,41,42,43,44] [⟨0,(.pure lr),λH=>none⟩,⟨1,(.read sj),λH=>aj P H 24 lr⟩,⟨2,(.pure bu),λH=>none⟩,⟨3,(.pure l5),λH=>none⟩,⟨4,(.pure jW),λH=>none⟩,⟨5,(.read oH),λH=>aj P H 3 jW⟩,⟨6,(.pure iV),λH=>none⟩,⟨7,(.read l6),λH=>aj P H 24 iV⟩,⟨8,(.pure bu),λH=>none⟩,⟨9,(.pure kS),λH=>none⟩,⟨10,(.pure l7),λH=>none⟩,⟨11,(.read nb),λH=>aj P H 3 l7⟩,⟨12,(.pure fD),λH=>none⟩,⟨13,(.pure fD),λH=>none⟩,⟨14,eQ,λH=>none⟩,⟨15,fN,λH=>aj P H 24 eQ.val⟩,⟨16,gu,λH=>none⟩,⟨17,gj,λH=>none⟩,⟨18,f_,λH=>none⟩,⟨19,gQ,λH=>aj P H 23 f_.val⟩,⟨20,gx,λH=>none⟩,⟨21,hb,λH=>aj P H 24 gx.val⟩,⟨22,gZ,λH=>none⟩,⟨23,hi,λH=>none⟩,⟨24,g_,λH=>none⟩,⟨25,hY,λH=>aj P H 23 g_.val⟩,⟨26,iR,λH=>none⟩,⟨27,iS,λH=>none⟩,⟨28,(.pure iy),λH=>none⟩,⟨29,(.pure iy),λH=>none⟩,⟨30,lK,λH=>none⟩,⟨31,mj,λH=>aj P H 24 lK.val⟩,⟨32,nx,λH=>none⟩,⟨33,ny,λH=>none⟩,⟨34,mP,λH=>none⟩,⟨35,ou,λH=>aj P H 44 mP.val⟩,⟨36,mQ,λH=>none⟩,⟨37,pR,λH=>aj P H 24 mQ.val⟩,⟨38,rO,λH=>none⟩,⟨39,rP,λH=>none⟩,⟨40,xy,λH=>none⟩,⟨41,Cg,λH=>aj P H 44 xy.val⟩,⟨42,Hi,λH=>none⟩,⟨43,Hj,λH=>none⟩,⟨44,(.pure r4),λH=>none⟩] H then(bO (some r4) (some ((.bool false),(Hj.heap (Hi.heap (Cg.heap (xy.heap (rP.heap (rO.heap (pR.heap (mQ.heap (ou.heap (mP.heap (ny.heap (nx.heap (mj.heap (lK.heap (iS.heap (iR.heap (hY.heap (g_.heap (hi.heap (gZ.heap (hb.heap (gx.heap (gQ.heap (f_.heap (gj.heap (gu.heap (fN.heap (eQ.heap H)))))))))))))))))))))))))))))) (ab (aW P .add 3 true bu (.int .i64 1)) λj_=>
 hC an ay j_ (Hj.heap (Hi.heap (Cg.heap (xy.heap (rP.heap (rO.heap (pR.heap (mQ.heap (ou.heap (mP.heap (ny.heap (nx.heap (mj.heap (lK.heap (iS.heap (iR.heap (hY.heap (g_.heap (hi.heap (gZ.heap (hb.heap (gx.heap (gQ.heap (f_.heap (gj.heap (gu.heap (fN.heap (eQ.heap H)))))))))))))))))))))))))))))) else none) (zj G N H)
def vh(G:av)(N:Nat):Nat->I->I->I->J->O
 |0,_,_,_,_=>none
 |n+1,an,ay,bu,H=>BY G N (vh G N n) an ay bu H
theorem adu(G:av)(N:Nat)(hC:I->I->I->J->O): ∀R H,cw P G N (Code.fst (Code.fst (Code.snd (Code.fst (Code.snd (Code.snd (Code.snd (c6 Tryz.f11)))))))) (λR H=>hC (R 2) (R 3) (R 6) H) [(2,(λR H=>zj G N H))] (bY Tryz.f11) R H=BY G N hC (R 2) (R 3) (R 6) H:=by
 refine dj (aL _) λR H=> ?_
 delta BY;generalize zj G N=a1;revert a1;refine id ?_;intro a1;kernel_rfl
def xf(G:av)(N:Nat)(an ay:I)(H:J):O:=
 vh G N N an ay (.int .i64 0) H
theorem adw(G:av)(N:Nat): ∀R H,cw P G N (Code.snd (Code.snd (Code.snd (c6 Tryz.f11)))) (bY Tryz.f11) [] (bY Tryz.f11) R H=xf G N (R 2) (R 3) H:=by
 refine dj ((bk ad (adx G N) ((bk ad ((fy ad ((gg (k:=λm R H=>vh G N m (R 2) (R 3) (R 6) H) ad (λR H=>ad) (λm=>adu G N (vh G N m)))))) (aL _))))) λR H=> ?_
 delta xf;generalize vh G N N=a1;revert a1;refine id ?_;intro a1;kernel_rfl
def BZ(G:av)(N:Nat)(jM:I->I->I->J->O)(an ay bb:I)(H:J):O:=
 ab (aE P 26 an 0) λbT=>
 ab (aj P H 22 bT) λbW=>
 bg P .len [22] [bW] H λbG=>
 ab (aW P .lss 3 false bb bG) λcc=>
 bO (some cc) (ab (aE P 26 an 0) λcA=>
 ab (aj P H 22 cA) λcx=>
 ab (dS P 22 cx bb) λcH=>
 ab (aE P 41 cH 2) λc1=>
 ab (aj P H 3 c1) λdn=>
 ab (aE P 26 ay 0) λdt=>
 ab (aj P H 22 dt) λdc=>
 ab (dS P 22 dc bb) λdJ=>
 ab (aE P 41 dJ 2) λcF=>
 ab (aj P H 3 cF) λeC=>
 ab (aW P .neq 3 false dn eC) λdy=>
 dZ dy false (bh (aE P 26 an 0)) λeQ=>
 dZ dy false (qr (aj P (eQ.heap H) 22 eQ.val)) λfN=>
 dZ dy false (di bb) λgu=>
 dZ dy false (bh (dS P 22 fN.val gu.val)) λgj=>
 dZ dy false (bh (aE P 41 gj.val 1)) λf_=>
 dZ dy false (qr (aj P (f_.heap (gj.heap (gu.heap (fN.heap (eQ.heap H))))) 23 f_.val)) λgQ=>
 dZ dy false (bh (aE P 26 ay 0)) λgx=>
 dZ dy false (qr (aj P (gx.heap (gQ.heap (f_.heap (gj.heap (gu.heap (fN.heap (eQ.heap H))))))) 22 gx.val)) λhb=>
 dZ dy false (di bb) λgZ=>
 dZ dy false (bh (dS P 22 hb.val gZ.val)) λhi=>
 dZ dy false (bh (aE P 41 hi.val 1)) λg_=>
 dZ dy false (qr (aj P (g_.heap (hi.heap (gZ.heap (hb.heap (gx.heap (gQ.heap (f_.heap (gj.heap (gu.heap (fN.heap (eQ.heap H))))))))))) 23 g_.val)) λhY=>
 dZ dy false (λq=>fk (hY.heap (g_.heap (hi.heap (gZ.heap (hb.heap (gx.heap (gQ.heap (f_.heap (gj.heap (gu.heap (fN.heap (eQ.heap H)))))))))))) (G 35 [gQ.val,hY.val] (hY.heap (g_.heap (hi.heap (gZ.heap (hb.heap (gx.heap (gQ.heap (f_.heap (gj.heap (gu.heap (fN.heap (eQ.heap H))))))))))))) q) λiR=>
 dZ dy false (bh (eY .not iR.val)) λiS=>
 ab (cX dy (some (.bool true)) (some iS.val)) λjy=>
 bif oW [0,1,0,7,15,31,0,64,0,448,960,1984,4095,8191,16383,32767,16383,131071,262143,524287,16383,1064959,16383,7356415,15745023,32522239,67108863,134217727,268435455] [0,1,2,3,4,5,6,7,8,9,10,11,12,13,14,15,16,17,18,19,20,21,22,23,24,25,26,27,28] [⟨0,(.pure cA),λH=>none⟩,⟨1,(.read cx),λH=>aj P H 22 cA⟩,⟨2,(.pure bb),λH=>none⟩,⟨3,(.pure cH),λH=>none⟩,⟨4,(.pure c1),λH=>none⟩,⟨5,(.read dn),λH=>aj P H 3 c1⟩,⟨6,(.pure dt),λH=>none⟩,⟨7,(.read dc),λH=>aj P H 22 dt⟩,⟨8,(.pure bb),λH=>none⟩,⟨9,(.pure dJ),λH=>none⟩,⟨10,(.pure cF),λH=>none⟩,⟨11,(.read eC),λH=>aj P H 3 cF⟩,⟨12,(.pure dy),λH=>none⟩,⟨13,(.pure dy),λH=>none⟩,⟨14,eQ,λH=>none⟩,⟨15,fN,λH=>aj P H 22 eQ.val⟩,⟨16,gu,λH=>none⟩,⟨17,gj,λH=>none⟩,⟨18,f_,λH=>none⟩,⟨19,gQ,λH=>aj P H 23 f_.val⟩,⟨20,gx,λH=>none⟩,⟨21,hb,λH=>aj P H 22 gx.val⟩,⟨22,gZ,λH=>none⟩,⟨23,hi,λH=>none⟩,⟨24,g_,λH=>none⟩,⟨25,hY,λH=>aj P H 23 g_.val⟩,⟨26,iR,λH=>none⟩,⟨27,iS,λH=>none⟩,⟨28,(.pure jy),λH=>none⟩] H then(bO (some jy) (some ((.bool false),(iS.heap (iR.heap (hY.heap (g_.heap (hi.heap (gZ.heap (hb.heap (gx.heap (gQ.heap (f_.heap (gj.heap (gu.heap (fN.heap (eQ.heap H)))))))))))))))) (ab (aW P .add 3 true bb (.int .i64 1)) λcM=>
 jM an ay cM (iS.heap (iR.heap (hY.heap (g_.heap (hi.heap (gZ.heap (hb.heap (gx.heap (gQ.heap (f_.heap (gj.heap (gu.heap (fN.heap (eQ.heap H)))))))))))))))) else none) (xf G N an ay H)
def vi(G:av)(N:Nat):Nat->I->I->I->J->O
 |0,_,_,_,_=>none
 |n+1,an,ay,bb,H=>BZ G N (vi G N n) an ay bb H
theorem adv(G:av)(N:Nat)(jM:I->I->I->J->O): ∀R H,cw P G N (Code.fst (Code.fst (Code.snd (Code.fst (Code.snd (Code.snd (c6 Tryz.f11))))))) (λR H=>jM (R 2) (R 3) (R 5) H) [(0,(λR H=>xf G N (R 2) (R 3) H))] (bY Tryz.f11) R H=BZ G N jM (R 2) (R 3) (R 5) H:=by
 refine dj (aL _) λR H=> ?_
 delta BZ;generalize xf G N=a1;revert a1;refine id ?_;intro a1;kernel_rfl
def Iu(G:av)(N:Nat)(Y ai:I)(H:J):O:=
 dv H (eK (H).next Y) λan U=>
 dv U (eK (U).next ai) λay aa=>
 ab (aE P 26 an 1) λbx=>
 ab (aj P aa 23 bx) λbS=>
 ab (aE P 26 ay 1) λbE=>
 ab (aj P aa 23 bE) λcq=>
 aO aa (G 35 [bS,cq] aa) λb1 ae=>
 ab (eY .not b1) λcb=>
 bO (some cb) (some ((.bool false),ae)) (vi G N N an ay (.int .i64 0) ae)
theorem aiI(G:av)(N:Nat)(Y:I)(ai:I)(H:J):bn Tryz.f11 G N (cB [Y,ai]) H=Iu G N Y ai H:=by
 refine cL (A:=bn Tryz.f11 G N) ((bk ad ((bk ad ((bk ad (adw G N) ((bk ad ((fy ad ((gg (k:=λm R H=>vi G N m (R 2) (R 3) (R 5) H) ad (λR H=>ad) (λm=>adv G N (vi G N m)))))) (aL _))))) (aL _))) (aL _))) ?_;delta Iu;generalize vi G N N=a1;revert a1;refine id ?_;intro a1;kernel_rfl
theorem akL(N:Nat){Y ai:I}{H:J}{r:I×J}(h:Iu (aq P ao) N Y ai H=some r):aq P ao 11 [Y,ai] H=some r:=
 cQ ad Tryz.func11 ad ad ad ((aiI (aq P ao) N Y ai H).trans h)
def zs(G:av)(N:Nat)(H:J):O:=
 some ((.bool true),H)
theorem adS(G:av)(N:Nat): ∀R H,cw P G N (Code.snd (Code.snd (c6 Tryz.f35))) (bY Tryz.f35) [] (bY Tryz.f35) R H=zs G N H:=by
 refine dj (aL _) λR H=> ?_
 delta zs;kernel_rfl
def B0(G:av)(N:Nat)(bD:I->I->I->J->O)(Y ai bb:I)(H:J):O:=
 bg P .len [23] [Y] H λbS=>
 ab (aW P .lss 3 false bb bS) λbE=>
 bO (some bE) (ab (dS P 23 Y bb) λbT=>
 ab (aE P 66 bT 2) λbW=>
 ab (aj P H 3 bW) λbG=>
 ab (dS P 23 ai bb) λcM=>
 ab (aE P 66 cM 2) λcA=>
 ab (aj P H 3 cA) λcx=>
 ab (aW P .neq 3 false bG cx) λcz=>
 bO (some cz) (some ((.bool false),H)) (ab (aW P .add 3 true bb (.int .i64 1)) λb1=>
 bD Y ai b1 H)) (zs G N H)
def vp(G:av)(N:Nat):Nat->I->I->I->J->O
 |0,_,_,_,_=>none
 |n+1,Y,ai,bb,H=>B0 G N (vp G N n) Y ai bb H
theorem adR(G:av)(N:Nat)(bD:I->I->I->J->O): ∀R H,cw P G N (Code.fst (Code.fst (Code.snd (Code.fst (Code.snd (c6 Tryz.f35)))))) (λR H=>bD (R 0) (R 1) (R 5) H) [(0,(λR H=>zs G N H))] (bY Tryz.f35) R H=B0 G N bD (R 0) (R 1) (R 5) H:=by
 refine dj (aL _) λR H=> ?_
 delta B0;generalize zs G N=a1;revert a1;refine id ?_;intro a1;kernel_rfl
def IH(G:av)(N:Nat)(Y ai:I)(H:J):O:=
 vp G N N Y ai (.int .i64 0) H
theorem ai4(G:av)(N:Nat)(Y:I)(ai:I)(H:J):bn Tryz.f35 G N (cB [Y,ai]) H=IH G N Y ai H:=by
 refine cL (A:=bn Tryz.f35 G N) ((bk ad ((bk ad (adS G N) ((bk ad ((fy ad ((gg (k:=λm R H=>vp G N m (R 0) (R 1) (R 5) H) ad (λR H=>ad) (λm=>adR G N (vp G N m)))))) (aL _))))) (aL _))) ?_;delta IH;generalize vp G N N=a1;revert a1;refine id ?_;intro a1;kernel_rfl
theorem ak7(N:Nat){Y ai:I}{H:J}{r:I×J}(h:IH (aq P ao) N Y ai H=some r):aq P ao 35 [Y,ai] H=some r:=
 cQ ad Tryz.func35 ad ad ad ((ai4 (aq P ao) N Y ai H).trans h)
def zt(G:av)(N:Nat)(H:J):O:=
 some ((.bool true),H)
theorem adU(G:av)(N:Nat): ∀R H,cw P G N (Code.snd (Code.snd (c6 Tryz.f36))) (bY Tryz.f36) [] (bY Tryz.f36) R H=zt G N H:=by
 refine dj (aL _) λR H=> ?_
 delta zt;kernel_rfl
def B1(G:av)(N:Nat)(bD:I->I->I->J->O)(Y ai bb:I)(H:J):O:=
 bg P .len [44] [Y] H λbS=>
 ab (aW P .lss 3 false bb bS) λbE=>
 bO (some bE) (ab (dS P 44 Y bb) λbT=>
 ab (aE P 98 bT 6) λbW=>
 ab (aj P H 3 bW) λbG=>
 ab (dS P 44 ai bb) λcM=>
 ab (aE P 98 cM 6) λcA=>
 ab (aj P H 3 cA) λcx=>
 ab (aW P .neq 3 false bG cx) λcz=>
 dZ cz false (di Y) λeQ=>
 dZ cz false (di bb) λfN=>
 dZ cz false (bh (dS P 44 eQ.val fN.val)) λgu=>
 dZ cz false (bh (aE P 98 gu.val 4)) λgj=>
 dZ cz false (qr (aj P (gj.heap (gu.heap (fN.heap (eQ.heap H)))) 44 gj.val)) λf_=>
 dZ cz false (di ai) λgQ=>
 dZ cz false (di bb) λgx=>
 dZ cz false (bh (dS P 44 gQ.val gx.val)) λhb=>
 dZ cz false (bh (aE P 98 hb.val 4)) λgZ=>
 dZ cz false (qr (aj P (gZ.heap (hb.heap (gx.heap (gQ.heap (f_.heap (gj.heap (gu.heap (fN.heap (eQ.heap H))))))))) 44 gZ.val)) λhi=>
 dZ cz false (λq=>fk (hi.heap (gZ.heap (hb.heap (gx.heap (gQ.heap (f_.heap (gj.heap (gu.heap (fN.heap (eQ.heap H)))))))))) (G 36 [f_.val,hi.val] (hi.heap (gZ.heap (hb.heap (gx.heap (gQ.heap (f_.heap (gj.heap (gu.heap (fN.heap (eQ.heap H))))))))))) q) λg_=>
 dZ cz false (bh (eY .not g_.val)) λhY=>
 ab (cX cz (some (.bool true)) (some hY.val)) λdW=>
 dZ dW false (di Y) λiR=>
 dZ dW false (di bb) λiS=>
 dZ dW false (bh (dS P 44 iR.val iS.val)) λlK=>
 dZ dW false (bh (aE P 98 lK.val 5)) λmj=>
 dZ dW false (qr (aj P (mj.heap (lK.heap (iS.heap (iR.heap (hY.heap (g_.heap (hi.heap (gZ.heap (hb.heap (gx.heap (gQ.heap (f_.heap (gj.heap (gu.heap (fN.heap (eQ.heap H)))))))))))))))) 44 mj.val)) λnx=>
 dZ dW false (di ai) λny=>
 dZ dW false (di bb) λmP=>
 dZ dW false (bh (dS P 44 ny.val mP.val)) λou=>
 dZ dW false (bh (aE P 98 ou.val 5)) λmQ=>
 dZ dW false (qr (aj P (mQ.heap (ou.heap (mP.heap (ny.heap (nx.heap (mj.heap (lK.heap (iS.heap (iR.heap (hY.heap (g_.heap (hi.heap (gZ.heap (hb.heap (gx.heap (gQ.heap (f_.heap (gj.heap (gu.heap (fN.heap (eQ.heap H))))))))))))))))))))) 44 mQ.val)) λpR=>
 dZ dW false (λq=>fk (pR.heap (mQ.heap (ou.heap (mP.heap (ny.heap (nx.heap (mj.heap (lK.heap (iS.heap (iR.heap (hY.heap (g_.heap (hi.heap (gZ.heap (hb.heap (gx.heap (gQ.heap (f_.heap (gj.heap (gu.heap (fN.heap (eQ.heap H)))))))))))))))))))))) (G 36 [nx.val,pR.val] (pR.heap (mQ.heap (ou.heap (mP.heap (ny.heap (nx.heap (mj.heap (lK.heap (iS.heap (iR.heap (hY.heap (g_.heap (hi.heap (gZ.heap (hb.heap (gx.heap (gQ.heap (f_.heap (gj.heap (gu.heap (fN.heap (eQ.heap H))))))))))))))))))))))) q) λrO=>
 dZ dW false (bh (eY .not rO.val)) λrP=>
 ab (cX dW (some (.bool true)) (some rP.val)) λix=>
 bif oW [0,0,3,7,15,0,0,96,224,480,1023,2047,4095,4095,16383,32767,65535,4095,4095,397311,921599,1970175,4194303,8388607,16777215,33554431,67108863,67108863,268435455,536870911,1073741823,67108863,67108863,6509559807,15099494399,32279363583,68719476735,137438953471,274877906943] [0,1,2,3,4,5,6,7,8,9,10,11,12,13,14,15,16,17,18,19,20,21,22,23,24,25,26,27,28,29,30,31,32,33,34,35,36,37,38] [⟨0,(.pure Y),λH=>none⟩,⟨1,(.pure bb),λH=>none⟩,⟨2,(.pure bT),λH=>none⟩,⟨3,(.pure bW),λH=>none⟩,⟨4,(.read bG),λH=>aj P H 3 bW⟩,⟨5,(.pure ai),λH=>none⟩,⟨6,(.pure bb),λH=>none⟩,⟨7,(.pure cM),λH=>none⟩,⟨8,(.pure cA),λH=>none⟩,⟨9,(.read cx),λH=>aj P H 3 cA⟩,⟨10,(.pure cz),λH=>none⟩,⟨11,(.pure cz),λH=>none⟩,⟨12,eQ,λH=>none⟩,⟨13,fN,λH=>none⟩,⟨14,gu,λH=>none⟩,⟨15,gj,λH=>none⟩,⟨16,f_,λH=>aj P H 44 gj.val⟩,⟨17,gQ,λH=>none⟩,⟨18,gx,λH=>none⟩,⟨19,hb,λH=>none⟩,⟨20,gZ,λH=>none⟩,⟨21,hi,λH=>aj P H 44 gZ.val⟩,⟨22,g_,λH=>none⟩,⟨23,hY,λH=>none⟩,⟨24,(.pure dW),λH=>none⟩,⟨25,(.pure dW),λH=>none⟩,⟨26,iR,λH=>none⟩,⟨27,iS,λH=>none⟩,⟨28,lK,λH=>none⟩,⟨29,mj,λH=>none⟩,⟨30,nx,λH=>aj P H 44 mj.val⟩,⟨31,ny,λH=>none⟩,⟨32,mP,λH=>none⟩,⟨33,ou,λH=>none⟩,⟨34,mQ,λH=>none⟩,⟨35,pR,λH=>aj P H 44 mQ.val⟩,⟨36,rO,λH=>none⟩,⟨37,rP,λH=>none⟩,⟨38,(.pure ix),λH=>none⟩] H then(bO (some ix) (some ((.bool false),(rP.heap (rO.heap (pR.heap (mQ.heap (ou.heap (mP.heap (ny.heap (nx.heap (mj.heap (lK.heap (iS.heap (iR.heap (hY.heap (g_.heap (hi.heap (gZ.heap (hb.heap (gx.heap (gQ.heap (f_.heap (gj.heap (gu.heap (fN.heap (eQ.heap H)))))))))))))))))))))))))) (ab (aW P .add 3 true bb (.int .i64 1)) λb1=>
 bD Y ai b1 (rP.heap (rO.heap (pR.heap (mQ.heap (ou.heap (mP.heap (ny.heap (nx.heap (mj.heap (lK.heap (iS.heap (iR.heap (hY.heap (g_.heap (hi.heap (gZ.heap (hb.heap (gx.heap (gQ.heap (f_.heap (gj.heap (gu.heap (fN.heap (eQ.heap H)))))))))))))))))))))))))) else none) (zt G N H)
def vq(G:av)(N:Nat):Nat->I->I->I->J->O
 |0,_,_,_,_=>none
 |n+1,Y,ai,bb,H=>B1 G N (vq G N n) Y ai bb H
theorem adT(G:av)(N:Nat)(bD:I->I->I->J->O): ∀R H,cw P G N (Code.fst (Code.fst (Code.snd (Code.fst (Code.snd (c6 Tryz.f36)))))) (λR H=>bD (R 0) (R 1) (R 5) H) [(0,(λR H=>zt G N H))] (bY Tryz.f36) R H=B1 G N bD (R 0) (R 1) (R 5) H:=by
 refine dj (aL _) λR H=> ?_
 delta B1;generalize zt G N=a1;revert a1;refine id ?_;intro a1;kernel_rfl
def II(G:av)(N:Nat)(Y ai:I)(H:J):O:=
 vq G N N Y ai (.int .i64 0) H
theorem ai5(G:av)(N:Nat)(Y:I)(ai:I)(H:J):bn Tryz.f36 G N (cB [Y,ai]) H=II G N Y ai H:=by
 refine cL (A:=bn Tryz.f36 G N) ((bk ad ((bk ad (adU G N) ((bk ad ((fy ad ((gg (k:=λm R H=>vq G N m (R 0) (R 1) (R 5) H) ad (λR H=>ad) (λm=>adT G N (vq G N m)))))) (aL _))))) (aL _))) ?_;delta II;generalize vq G N N=a1;revert a1;refine id ?_;intro a1;kernel_rfl
theorem ak8(N:Nat){Y ai:I}{H:J}{r:I×J}(h:II (aq P ao) N Y ai H=some r):aq P ao 36 [Y,ai] H=some r:=
 cQ ad Tryz.func36 ad ad ad ((ai5 (aq P ao) N Y ai H).trans h)
end
end
section
theorem Vj{N:Nat}{l:List ec}(az:l.length<=1000000000){f7 g7 gW li:Nat}{kc lc:Option Nat}{ju jv:Bool}{hc hd:List (List I)}{H:J}{ok ok':Nat->Prop}(aG:H.get f7=some (.row ju 4 hc))(aP:H.get gW=some (.row jv 4 hd))(aI: ∀(j:Nat) (a:ec),l[j]? =some a-> ∃cs,hc[g7+j]? =some cs/\fz.V H ok a cs)(bc: ∀(j:Nat) (a:ec),l[j]? =some a-> ∃cs,hd[li+j]? =some cs/\fz.V H ok' a cs):
  ∀(c j n:Nat),j+c=l.length->c<n->
  W (vp (aq P ao) N n (.aN f7 g7 l.length 4 kc) (.aN gW li l.length 4 lc) (.int .i64 j) H) λr H'=>r= .bool true/\H'=H
 |_,_,0,_,aU=>Z
 |0,j,n+1,aS,aU=>by
  have bH: ¬((j:Int)<(l.length:Int)):=Z;rw[vp];unfold B0 zs;simp-implicitDefEqProofs(disch:=try exact af) only[reduceAdd,reduceLeDiff,reduceIte,aw,bH,decide_false];exact a_.2 ⟨rfl,rfl⟩
 |c+1,j,n+1,aS,aU=>by
  have jK:j<l.length:=Z;have bH:(j:Int)<(l.length:Int):=Z;have aY:(0:Int)<=(j:Int):=Z;have bz:((j:Int)).toNat=j:=Z;obtain⟨cs,g1,g2⟩:=aI j l[j] (List.getElem?_eq_getElem jK);obtain⟨bU,g4,g5⟩:=bc j l[j] (List.getElem?_eq_getElem jK);obtain rfl:cs=l[j].cells:=g2;obtain rfl:bU=l[j].cells:=g5;have hw:IntKind.i64.wrap ((j:Int)+1)=((j+1:Nat):Int):=by rw[wrap_i64 Z Z];omega
  generalize l[j]=a at g1 g4;simp only[ec.cells] at g1 g4;have bw:(a.pos != a.pos)=false:=by simp
  rw[vp];unfold B0;simp-implicitDefEqProofs(disch:=try exact af) only[reduceAdd,reduceLeDiff,reduceIte,aw,bH,decide_true,bz,aG,aP,g1,g4,bw,hw];exact Vj az aG aP aI bc c (j+1) n Z Z
theorem Js{H:J}{l:List ec}(az:l.length<=1000000000){v w:I}{ok ok':Nat->Prop}(U:eJ fz H ok l v)(aa:eJ fz H ok' l w):W (aq P ao 35 [v,w] H) λr H'=>r= .bool true/\H'=H:=by
 refine cP (λ_=>ak7 (l.length+1)) ?_;unfold IH;by_cases cn:l.length=0
 ·obtain rfl:=List.length_eq_zero_iff.1 cn;have bM:=λH'=>U.qN H'
  have z0:((0:Nat):Int)=0:=rfl;rw[vp];unfold B0 zs;simp-implicitDefEqProofs(disch:=try exact af) only[reduceAdd,reduceLeDiff,reduceIte,aw,bM,List.length_nil,z0,Int.lt_irrefl,decide_false];exact a_.2 ⟨rfl,rfl⟩
 ·obtain⟨eG,i1,cG,gm,o7,rfl,g1,eo⟩:=U.row cn;obtain⟨fA,i2,dh,e0,qW,rfl,g2,eX⟩:=aa.row cn;have ht:fz.esz=4:=rfl;rw[ht] at g1 g2 ⊢;simpa using Vj (N:=l.length+1) az (kc:=cG) (lc:=dh) g1 g2 eo eX l.length 0 (l.length+1) Z Z
end
section
def xI(b:List cE):Prop:= ∀(H:J) (ok ok':Nat->Prop) (v w:I),b.length<=1000000000/\ha 1000000000 b->ez H ok b v->ez H ok' b w->W (aq P ao 36 [v,w] H) λr H'=>r= .bool true/\H'=H
theorem U_{N:Nat}{f7 g7 gW li:Nat}{kc lc:Option Nat}{ju jv:Bool}{hc hd:List (List I)}{ok ok':Nat->Prop}{H:J}(aG:H.get f7=some (.row ju 9 hc))(aP:H.get gW=some (.row jv 9 hd)): ∀(es:List cE) (j dA n:Nat),(∀a bQ b c,cE.mk a bQ b c∈es->xI b/\xI c)->ha 1000000000 es->gE H ok es (hc.drop (g7+j))->gE H ok' es (hd.drop (li+j))->dA=j+es.length->dA<=1000000000000->es.length<n->
  W (vq (aq P ao) N n (.aN f7 g7 dA 9 kc) (.aN gW li dA 9 lc) (.int .i64 j) H) λr H'=>r= .bool true/\H'=H
 |_,_,_,0,_,_,_,_,_,_,aU=>Z
 |[],j,dA,n+1,aM,eu,U,aa,am,aB,aU=>by
  have bH: ¬((j:Int)<(dA:Int)):=by simp at am;omega
  rw[vq];unfold B1 zt;simp-implicitDefEqProofs(disch:=try exact af) only[reduceAdd,reduceLeDiff,reduceIte,aw,bH,decide_false];exact a_.2 ⟨rfl,rfl⟩
 | .mk a bQ b c::es,j,dA,n+1,aM,eu,U,aa,am,aB,aU=>by
  simp only[List.length_cons] at am aU;have bH:(j:Int)<(dA:Int):=Z;have aY:(0:Int)<=(j:Int):=Z;have bz:((j:Int)).toNat=j:=Z;obtain⟨cs,g1,g2,g3⟩:=U.cons;obtain⟨bU,g4,g5,g6⟩:=aa.cons;obtain⟨ai,an,ay,aI,v1,v2,v3⟩:=rz.1 g2;obtain⟨yC,Jg,F2,bc,Ob,Jf,apq⟩:=rz.1 g5;cases aI;cases bc;rw[ha] at eu;have hw:IntKind.i64.wrap ((j:Int)+1)=((j+1:Nat):Int):=by rw[wrap_i64 Z Z];omega
  have bw:(a.pos != a.pos)=false:=by simp
  obtain⟨N6,apn⟩:=aM a bQ b c (by simp);simp only[dH.cells] at g1 g4;rw[vq];unfold B1;simp-implicitDefEqProofs(disch:=try exact af) only[reduceAdd,reduceLeDiff,reduceIte,aw,bH,decide_true,bz,aG,aP,g1,g4,bw,hw,rl,rh,rk,ri,rj];have hm:=eu.1;rw[kn] at hm;refine gP (N6 H ok ok' _ _ hm.2.1 v2 Jf) ?_;rintro _ _ ⟨rfl,rfl⟩;refine⟨bN _,?_⟩;simp-implicitDefEqProofs(disch:=try exact af) only[reduceAdd,reduceLeDiff,reduceIte,aw,bH,decide_true,bz,aG,aP,g1,g4,Bool.not_true,rl,rh,rk,ri,rj];refine gP (apn _ ok ok' _ _ hm.2.2 v3 apq) ?_;rintro _ _ ⟨rfl,rfl⟩;refine⟨bN _,?_⟩;simp-implicitDefEqProofs(disch:=try exact af) only[reduceAdd,reduceLeDiff,reduceIte,aw,Bool.not_true,rl,rh,rk,ri,rj]
  refine vI (wL ad ?_) ?_
  ·simp only[rU]
   repeat (refine au (λ_ _=> .inl rfl) ?_)
   trivial
  ·simp-implicitDefEqProofs(disch:=try exact af) only[bg,bL,ee,hw];exact U_ aG aP es (j+1) dA n (λa bQ b c ag=>aM a bQ b c (by simp[ag])) eu.2 g3 g6 Z aB Z
theorem Lj{es:List cE}(aM: ∀a bQ b c,cE.mk a bQ b c∈es->xI b/\xI c):xI es:=by
 intro H ok ok' v w hm U aa;refine cP (λ_=>ak8 (es.length+1)) ?_;unfold II;by_cases cn:es.length=0
 ·obtain rfl:=List.length_eq_zero_iff.1 cn;have bM:=λH'=>U.uz H'
  have z0:((0:Nat):Int)=0:=rfl;rw[vq];unfold B1 zt;simp-implicitDefEqProofs(disch:=try exact af) only[reduceAdd,reduceLeDiff,reduceIte,aw,bM,List.length_nil,z0,Int.lt_irrefl,decide_false];exact a_.2 ⟨rfl,rfl⟩
 ·obtain⟨eG,i1,cG,gm,o7,rfl,_,g1,eo⟩:=U.row cn;obtain⟨fA,i2,dh,e0,qW,rfl,_,g2,eX⟩:=aa.row cn;simpa using U_ (N:=es.length+1) (kc:=Option.map (· +es.length) cG) (lc:=Option.map (· +es.length) dh) g1 g2 es 0 es.length (es.length+1) aM hm.2 (by simpa using eo) (by simpa using eX) Z Z Z
def ME(e:cE):Prop:= ∀(a:dH) (bQ:List bp) (b c:List cE),e= .mk a bQ b c->xI b/\xI c
theorem Mq: ∀(e:cE),ME e
 | .mk a bQ b c=>by
  have ax: ∀e∈b,ME e:=λe he=>Mq e
  have aS: ∀e∈c,ME e:=λe he=>Mq e
  intro eg YP fq c' h;cases h;exact⟨Lj λeg YP fq c' h=>ax _ h _ _ _ _ rfl,Lj λeg YP fq c' h=>aS _ h _ _ _ _ rfl⟩
theorem akI(es:List cE):xI es:=Lj λa bQ b c _=>Mq (.mk a bQ b c) a bQ b c rfl
end
section
theorem P3{N:Nat}{l:List jY}(az:l.length<=1000000000)(aM: ∀x∈l,x.fields.length<=1000000000){a b f7 g7 gW li:Nat}{kc lc:Option Nat}{ju jv:Bool}{hc hd:List (List I)}{H:J}{ok ok':Nat->Prop}{g1 f1 g2 f2:I}(bV:H.get a=some (.row false 3 [[.aN f7 g7 l.length 3 kc,g1,f1]]))(ax:H.get b=some (.row false 3 [[.aN gW li l.length 3 lc,g2,f2]]))(aG:H.get f7=some (.row ju 3 hc))(aP:H.get gW=some (.row jv 3 hd))(aI: ∀(j:Nat) (a:jY),l[j]? =some a-> ∃cs,hc[g7+j]? =some cs/\gA.V H ok a cs)(bc: ∀(j:Nat) (a:jY),l[j]? =some a-> ∃cs,hd[li+j]? =some cs/\gA.V H ok' a cs){Q:I->J->Prop}:
  ∀(c j n:Nat),j+c=l.length->c<n->W (xf (aq P ao) N (.ptr a 0 0) (.ptr b 0 0) H) Q->
  W (vi (aq P ao) N n (.ptr a 0 0) (.ptr b 0 0) (.int .i64 j) H) Q
 |_,_,0,_,aU,_=>Z
 |0,j,n+1,aS,aU,ek=>by
  have bH: ¬((j:Int)<(l.length:Int)):=Z;rw[vi];unfold BZ;simp-implicitDefEqProofs(disch:=try exact af) only[reduceAdd,reduceLeDiff,reduceIte,aw,bV,ax,bH,decide_false];exact ek
 |c+1,j,n+1,aS,aU,ek=>by
  have jK:j<l.length:=Z;have bH:(j:Int)<(l.length:Int):=Z;have aY:(0:Int)<=(j:Int):=Z;have bz:((j:Int)).toNat=j:=Z;obtain⟨cs,uC,v,rfl,eo⟩:=aI j l[j] (List.getElem?_eq_getElem jK);obtain⟨bU,g4,w,rfl,eX⟩:=bc j l[j] (List.getElem?_eq_getElem jK);have hw:IntKind.i64.wrap ((j:Int)+1)=((j+1:Nat):Int):=by rw[wrap_i64 Z Z];omega
  have q3:=aM l[j] (List.getElem_mem _);generalize l[j]=x at uC g4 eo eX q3;have cR:=eo.one;have dd:=eX.one;have bw:(x.pos != x.pos)=false:=by simp
  rw[vi];unfold BZ;simp-implicitDefEqProofs(disch:=try exact af) only[reduceAdd,reduceLeDiff,reduceIte,aw,bV,ax,bH,decide_true,bz,aG,aP,uC,g4,bw,rl,rh,rk,ri,rj];refine gP (Js q3 eo eX) ?_;rintro _ _ ⟨rfl,rfl⟩;refine⟨bN _,?_⟩;simp-implicitDefEqProofs(disch:=try exact af) only[bg,bL,ee,hw,Bool.not_true,rl,rh,rk,ri,rj];refine vI (wL ad ?_) ?_
  ·simp only[rU]
   repeat (refine au (λ_ _=> .inl rfl) ?_)
   trivial
  ·simp-implicitDefEqProofs(disch:=try exact af) only[bg,bL,ee,hw];exact P3 az aM bV ax aG aP aI bc c (j+1) n Z Z ek
end
section
theorem QR{N:Nat}{l:List Fn}(az:l.length<=1000000000)(aM: ∀x∈l,Cn x){a b f7 g7 gW li:Nat}{kc lc:Option Nat}{ju jv:Bool}{hc hd:List (List I)}{H:J}{ok ok':Nat->Prop}{g1 f1 g2 f2:I}(bV:H.get a=some (.row false 3 [[f1,g1,.aN f7 g7 l.length 7 kc]]))(ax:H.get b=some (.row false 3 [[f2,g2,.aN gW li l.length 7 lc]]))(aG:H.get f7=some (.row ju 7 hc))(aP:H.get gW=some (.row jv 7 hd))(aI: ∀(j:Nat) (a:Fn),l[j]? =some a-> ∃cs,hc[g7+j]? =some cs/\gw.V H ok a cs)(bc: ∀(j:Nat) (a:Fn),l[j]? =some a-> ∃cs,hd[li+j]? =some cs/\gw.V H ok' a cs){Q:I->J->Prop}:
  ∀(c j n:Nat),j+c=l.length->c<n->Q (.bool true) H->
  W (vh (aq P ao) N n (.ptr a 0 0) (.ptr b 0 0) (.int .i64 j) H) Q
 |_,_,0,_,aU,_=>Z
 |0,j,n+1,aS,aU,ek=>by
  have bH: ¬((j:Int)<(l.length:Int)):=Z;rw[vh];unfold BY zj;simp-implicitDefEqProofs(disch:=try exact af) only[reduceAdd,reduceLeDiff,reduceIte,aw,bV,ax,bH,decide_false];exact a_.2 ek
 |c+1,j,n+1,aS,aU,ek=>by
  have jK:j<l.length:=Z;have bH:(j:Int)<(l.length:Int):=Z;have aY:(0:Int)<=(j:Int):=Z;have bz:((j:Int)).toNat=j:=Z;obtain⟨cs,uC,v,bv,rfl,eo,lx⟩:=aI j l[j] (List.getElem?_eq_getElem jK);obtain⟨bU,g4,w,tn,rfl,eX,qq⟩:=bc j l[j] (List.getElem?_eq_getElem jK);have hw:IntKind.i64.wrap ((j:Int)+1)=((j+1:Nat):Int):=by rw[wrap_i64 Z Z];omega
  have q3:=aM l[j] (List.getElem_mem _);generalize l[j]=x at uC g4 eo eX lx qq q3;have cR:=eo.one;have dd:=eX.one;have dG:=lx.gi;have eM:=qq.gi;have bw:(x.pos != x.pos)=false:=by simp
  rw[vh];unfold BY;simp-implicitDefEqProofs(disch:=try exact af) only[reduceAdd,reduceLeDiff,reduceIte,aw,bV,ax,bH,decide_true,bz,aG,aP,uC,g4,bw,rl,rh,rk,ri,rj];refine gP (Js q3.1 eo eX) ?_;rintro _ _ ⟨rfl,rfl⟩;refine⟨bN _,?_⟩;simp-implicitDefEqProofs(disch:=try exact af) only[reduceAdd,reduceLeDiff,reduceIte,aw,bV,ax,bH,decide_true,bz,aG,aP,uC,g4,Bool.not_true,rl,rh,rk,ri,rj];refine gP (akI _ _ ok ok' _ _ q3.2 lx qq) ?_;rintro _ _ ⟨rfl,rfl⟩;refine⟨bN _,?_⟩;simp-implicitDefEqProofs(disch:=try exact af) only[bg,bL,ee,Bool.not_true,rl,rh,rk,ri,rj];refine vI (wL ad ?_) ?_
  ·simp only[rU]
   repeat (refine au (λ_ _=> .inl rfl) ?_)
   trivial
  ·simp-implicitDefEqProofs(disch:=try exact af) only[bg,bL,ee,hw];exact QR az aM bV ax aG aP aI bc c (j+1) n Z Z ek
end
section
theorem aaV{g:eA}(aM:zS g){H:J}{ok ok':Nat->Prop}{b9 b8 b_ kp iB fx:I}(U:eJ gA H ok g.el b9)(aa:eJ fz H ok g.globals b8)(ae:eJ gw H ok g.funcs b_)(cG:eJ gA H ok' g.el kp)(dh:eJ fz H ok' g.globals iB)(dL:eJ gw H ok' g.funcs fx):
  W (aq P ao 11 [.agg [b9,b8,b_],.agg [kp,iB,fx]] H) λr H'=>r= .bool true/\aR H H':=by
 refine cP (λ_=>akL 1000000001) ?_;have cR:=U.one;have dd:=aa.one;have dG:=ae.one;have cD:=cG.one;have cu:=dh.one;have eH:=dL.one;have dQ: ∀l,eK l (.agg [b9,b8,b_])=some (.ptr l 0 0,.row false 3 [[b9,b8,b_]]):=λl=>h8 l _ (by simp only[List.all_cons,List.all_nil,cR,dd,dG,Bool.and_self])
 have ck: ∀l,eK l (.agg [kp,iB,fx])=some (.ptr l 0 0,.row false 3 [[kp,iB,fx]]):=λl=>h8 l _ (by simp only[List.all_cons,List.all_nil,cD,cu,eH,Bool.and_self])
 have aJ:=(aR.push H (.row false 3 [[b9,b8,b_]])).bX (.row false 3 [[kp,iB,fx]]);have e7:=(aR.push (H.push (.row false 3 [[b9,b8,b_]])) (.row false 3 [[kp,iB,fx]])).get (J.ca H (.row false 3 [[b9,b8,b_]]));have gG:=J.ca (H.push (.row false 3 [[b9,b8,b_]])) (.row false 3 [[kp,iB,fx]]);simp only[J.b2] at gG;have bM:=λH'=>U.uj H'
 have c3:=λH'=>ae.uk H'
 unfold Iu;simp-implicitDefEqProofs(disch:=try exact af) only[bg,bg,bL,dQ,ck,J.b2];generalize (H.push (.row false 3 [[b9,b8,b_]])).push (.row false 3 [[kp,iB,fx]])=bm at aJ e7 gG ⊢;have mE:=eb.aK (ok:=ok) aJ;have AG:=eb.aK (ok:=ok') aJ;simp-implicitDefEqProofs(disch:=try exact af) only[reduceAdd,reduceLeDiff,reduceIte,aw,e7,gG];refine a6 (Js aM.rc (aa.bo mE) (dh.bo AG)) ?_;rintro _ cT ⟨rfl,FU⟩;subst FU;refine⟨bN _,?_⟩;simp-implicitDefEqProofs(disch:=try exact af) only[bg,bL,Bool.not_true];have z0:((0:Nat):Int)=0:=rfl;have eG:=aM.r.1;have gS:=aM.f.1;have fin: ∀N,g.funcs.length<N->W (xf (aq P ao) N (.ptr H.next 0 0) (.ptr (H.next+1) 0 0) cT) λr H'=>r= .bool true/\aR H H':=λN dU=>by
  unfold xf;by_cases cn:g.funcs.length=0
  ·obtain⟨n,rfl⟩: ∃n,N=n+1:=⟨N-1,Z⟩;rw[vh];unfold BY zj;simp-implicitDefEqProofs(disch:=try exact af) only[reduceAdd,reduceLeDiff,reduceIte,aw,e7,gG,c3,cn,z0,Int.lt_irrefl,decide_false];exact a_.2 ⟨rfl,aJ⟩
  ·obtain⟨bf,i1,eP,gm,o7,rfl,s1,eo⟩:=(ae.bo mE).row cn;obtain⟨a2,i2,lw,e0,qW,rfl,s2,eX⟩:=(dL.bo AG).row cn;have ht:gw.esz=7:=rfl;rw[ht] at e7 gG s1 s2;exact QR (N:=N) aM.f.1 aM.f.2 e7 gG s1 s2 eo eX g.funcs.length 0 N Z dU ⟨rfl,aJ⟩
 by_cases cn:g.el.length=0
 ·rw[show(1000000001:Nat)=1000000000+1 from rfl,vi];unfold BZ;simp-implicitDefEqProofs(disch:=try exact af) only[reduceAdd,reduceLeDiff,reduceIte,aw,e7,gG,bM,cn,z0,Int.lt_irrefl,decide_false];exact fin _ Z
 ·obtain⟨bf,i1,eP,gm,o7,rfl,s1,eo⟩:=(U.bo mE).row cn;obtain⟨a2,i2,lw,e0,qW,rfl,s2,eX⟩:=(cG.bo AG).row cn;have ht:gA.esz=3:=rfl;rw[ht] at e7 gG s1 s2;exact P3 aM.r.1 aM.r.2 e7 gG s1 s2 eo eX g.el.length 0 _ Z Z (fin _ Z)
end
section
set_option maxRecDepth 100000
noncomputable section
def iO(G:av)(Y:I)(H:J):O:=
 bg P .len [9] [Y] H λbS=>
 ab (aW P .gtr 3 true bS (.int .i64 7000)) λbE=>
 bO (some bE) (some ((.bool true),H)) (aO H (G 8 [Y] H) λcb U=>
 ab (gT cb 0) λb6=>
 ab (gT cb 1) λbT=>
 cy U [I.ap,I.ap,I.ap] λay aa=>
 cy aa [(.int .i64 0),(.int .i64 0)] λba ae=>
 a7 ae (aQ P ae 26 ay b6) λam=>
 a7 am (aQ P am 29 ba bT) λaB=>
 aO aB (G 9 [Y] aB) λcc aG=>
 ab (gT cc 0) λcK=>
 ab (gT cc 1) λcM=>
 cy aG [I.ap,I.ap,I.ap] λbb aP=>
 cy aP [(.int .i64 0),(.int .i64 0)] λbu bq=>
 a7 bq (aQ P bq 26 bb cK) λbJ=>
 a7 bJ (aQ P bJ 29 bu cM) λco=>
 ab (aj P co 29 ba) λcA=>
 ab (aj P co 29 bu) λcx=>
 ab (aW P .eql 29 false cA cx) λcz=>
 aD cz true co (qr (aj P co 26 ay)) λc1 ds=>
 aD cz true ds (qr (aj P ds 26 bb)) λdn dV=>
 aD cz true dV (λq=>fk dV (G 10 [c1,dn] dV) q) λdt eN=>
 ab (cX cz (some dt) (some (.bool false))) λdc=>
 aD dc true eN (qr (aj P eN 26 ay)) λdJ fI=>
 aD dc true fI (qr (aj P fI 26 bb)) λcF f0=>
 aD dc true f0 (λq=>fk f0 (G 11 [dJ,cF] f0) q) λeC hk=>
 ab (cX dc (some eC) (some (.bool false))) λdy=>
 aD dy true hk (λq=>fk hk (G 12 [] hk) q) λfh iv=>
 ab (cX dy (some fh) (some (.bool false))) λej=>
 some (ej,iv))
theorem alZ(G:av)(N:Nat)(Y:I)(H:J):bn Tryz.f3 G N (cB [Y]) H=iO G Y H:=by
 refine cL (A:=bn Tryz.f3 G N) (aL _) ?_;delta iO;kernel_rfl
end
end
section
theorem afj(s:bl): ∃p q:eA×aA,((hL s).2.1=0->oi (hL s).1 800000000 800000000 .none ⟨0,0,0,0⟩=some p)/\((hL s).2.1=0->mo (hL s).1 800000000 800000000 .none ⟨0,0,0,0⟩=some q)/\qP s p.1 p.2=qP s q.1 q.2/\zS (qP s p.1 p.2).1:=by
 by_cases al:(hL s).2.1=0
 ·obtain⟨aH,aY⟩:=K3 al;obtain⟨p,q,U,aa,ae⟩:=abN aH aY;have eu:=BJ Z 800000000 .none ⟨0,0,0,0⟩ p Gr (by simp[eA.none]) (by simp[eA.none]) (by simp[eA.none]) U;refine⟨p,q,λ_=>U,λ_=>aa,?_,?_⟩
  ·unfold qP;rw[if_pos al,if_pos al,ae]
  ·unfold qP xB;rw[if_pos al];split
   ·exact eu
   ·exact Gr
 ·refine⟨(.none,⟨0,0,0,0⟩),(.none,⟨0,0,0,0⟩),λh=>absurd h al,λh=>absurd h al,rfl,?_⟩;unfold qP;rw[if_neg al];exact Gr
theorem abL{H:J}(aZ:jz.kr H)(s:bl):W (iO (aq P ao) (.str s) H) λv H'=>v= .bool true/\aR H H':=by
 rw[iO];by_cases az:(7000:Int)<s.length
 ·simp-implicitDefEqProofs(disch:=try exact af) only[reduceAdd,reduceLeDiff,reduceIte,aw,az,decide_true];exact a_.2 ⟨rfl,.refl _⟩
 ·obtain⟨p,q,bw,bi,he,eu⟩:=afj s;simp-implicitDefEqProofs(disch:=try exact af) only[reduceAdd,reduceLeDiff,reduceIte,aw,az,decide_false];refine a6 (Pf aZ s (g':=p.1) (s':=p.2) (bN _) (bN _) bw) ?_;rintro _ H1 ⟨b9,b8,b_,rfl,bf,a2,a3,aV⟩;refine⟨aV.1,?_⟩;have cR:=bf.one;have dd:=a2.one;have dG:=a3.one;generalize qP s p.1 p.2=x at he eu bf a2 a3 ⊢;obtain⟨g,e,f⟩:=x;simp only at eu bf a2 a3 ⊢;have aJ:=(aR.push H1 (.row false 3 [[b9,b8,b_]])).bX (.row false 2 [[.int .i64 e,.int .i64 f]]);have e7:=(aR.push (H1.push (.row false 3 [[b9,b8,b_]])) (.row false 2 [[.int .i64 e,.int .i64 f]])).get (J.ca H1 (.row false 3 [[b9,b8,b_]]))
  have gG:=J.ca (H1.push (.row false 3 [[b9,b8,b_]])) (.row false 2 [[.int .i64 e,.int .i64 f]]);simp only[J.b2] at gG;simp-implicitDefEqProofs(disch:=try exact af) only[reduceAdd,reduceLeDiff,reduceIte,aw,J.io,cR,dd,dG];generalize (H1.push (.row false 3 [[b9,b8,b_]])).push (.row false 2 [[.int .i64 e,.int .i64 f]])=bm at aJ e7 gG ⊢;refine a6 (abO s (g':=q.1) (s':=q.2) (bN _) (bN _) bi) ?_;rw[<-he];rintro _ cT ⟨kp,iB,fx,rfl,df,cU,b3,bB⟩;refine⟨bB.1,?_⟩;have cD:=df.one;have cu:=cU.one;have eH:=b3.one;simp only at df cU b3 ⊢;have MO:=bB.get e7;have MP:=bB.get gG;have eG:=J.aX MO;have fA:=J.aX MP
  have bK:=(aR.push cT (.row false 3 [[kp,iB,fx]])).bX (.row false 2 [[.int .i64 e,.int .i64 f]]);have gc:=(aR.push (cT.push (.row false 3 [[kp,iB,fx]])) (.row false 2 [[.int .i64 e,.int .i64 f]])).get (J.ca cT (.row false 3 [[kp,iB,fx]]));have NX:=J.ca (cT.push (.row false 3 [[kp,iB,fx]])) (.row false 2 [[.int .i64 e,.int .i64 f]]);simp only[J.b2] at NX;have qY:=bK.get MO;have r6:=bK.get MP;have E5:(e==e&&f==f)=true:=by simp
  simp-implicitDefEqProofs(disch:=try exact af) only[reduceAdd,reduceLeDiff,reduceIte,aw,J.io,cD,cu,eH,cR,dd,dG];generalize (cT.push (.row false 3 [[kp,iB,fx]])).push (.row false 2 [[.int .i64 e,.int .i64 f]])=ct at bK gc NX qY r6 ⊢;have pf:=bB.trans bK;have pp:=(aJ.trans bB).trans bK;simp-implicitDefEqProofs(disch:=try exact af) only[reduceAdd,reduceLeDiff,reduceIte,aw,MO,MP,qY,r6,gc,NX,amh,E5,cD,cu,eH,cR,dd,dG];refine gP (ZQ eu (bf.bo (eb.aK pp)) (a2.bo (eb.aK pp)) (a3.bo (eb.aK pp)) (df.bo (eb.aK bK)) (cU.bo (eb.aK bK)) (b3.bo (eb.aK bK))) ?_;rintro _ dp ⟨rfl,c8⟩;refine⟨c8.1,?_⟩;have anO:=c8.get qY
  have anP:=c8.get gc;simp-implicitDefEqProofs(disch:=try exact af) only[reduceAdd,reduceLeDiff,reduceIte,aw,Po,anO,anP,cD,cu,eH,cR,dd,dG];have AI:=bK.trans c8;have Fz:=pp.trans c8;refine gP (aaV eu (bf.bo (eb.aK Fz)) (a2.bo (eb.aK Fz)) (a3.bo (eb.aK Fz)) (df.bo (eb.aK AI)) (cU.bo (eb.aK AI)) (b3.bo (eb.aK AI))) ?_;rintro _ fW ⟨rfl,fc⟩;refine⟨fc.1,?_⟩;simp-implicitDefEqProofs(disch:=try exact af) only[bg,bL];refine gP (abB (aZ.aK ((aV.trans Fz).trans fc))) ?_;rintro _ fX ⟨rfl,iX⟩;refine⟨iX.1,?_⟩;simp-implicitDefEqProofs(disch:=try exact af) only[bg,bL];exact a_.2 ⟨rfl,((aV.trans Fz).trans fc).trans iX⟩
end
end Go.Proofs.YtghmbpmaafnodaaGreatDoor
