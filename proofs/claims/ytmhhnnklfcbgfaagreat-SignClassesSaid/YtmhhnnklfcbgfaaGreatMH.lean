/-
  Texts of one proof, laid together: Ne Nf Ng Nh Ni ShB Oa Ob.
-/
import Derived.Test.YtmhhnnklfcbgfaaGreatMG
set_option linter.unusedVariables false
set_option linter.unusedSimpArgs false
set_option linter.defProp false
open Option renaming some→A
open Bool renaming true→J,false→I
open Go.cw.af renaming int→D,bool→C
open Go.IntKind renaming i64→F
namespace Go.Proofs.YtmhhnnklfcbgfaaGreat
open Go.cw
open Nat (reduceAdd reduceLeDiff)
section
open Go.a_
set_option maxRecDepth 2000
def aH.rd{α:Type}{K:eS α}{H:ae}{ok:Nat->Prop}{l:List α}{v:af}(h:aH K H ok l v):af.beq v v=true:=by
 rcases h with⟨rfl,_⟩|⟨L,i,cap,ro,els,rfl,_⟩|⟨L,i,cap,rfl,_⟩<;>simp[af.beq]
section
variable {H:ae}{ok:Nat->Prop}
def cG(c:bT)(v w:af):List af:=[D F c.params,v,C c.has,D F c.res.b,D F c.res.r,D F c.res.d,w]
def uJ(i:In)(v:af):List af:=[D F i.op,D F i.a,D F i.b,D F i.c,D F i.n,v]
def k6{H:ae}{c:bT}{v w:af}{L:Nat}(h:H.get L=A (.row I 7 [cG c v w])):aI P H 49 (.ptr L 0 0)=A (.agg (cG c v w)):=
 hz (n:=7) (i:=0) (c:=0) aF aF h rfl bZ
def FX{c:bT}{v w:af}(ah:aH e_ H ok c.vars v)(ai:aH gq H ok c.ins w):bF (A (.agg (cG c v w))) (.agg (cG c v w))=true:=by
 simp[bF,cG,af.beq,e6.beq,ah.rd,ai.rd]
def dF{α:Type}{K:eS α}{l:List α}{v:af}(h:aH K H ok l v):bF (A v) v=true:=h.rd
def sl(c g:bT)(i:In):Bool:=i.a== -1||(g.has&&decide (a6 c i.a≠bt/\a6 c i.a=g.res))
theorem U8{c g:bT}{i:In}{c4 k t u wi:af}{zC zI G:Nat}(gc:H.get zC=A (.row I 7 [cG c c4 k]))(q:H.get zI=A (.row I 6 [uJ i wi]))(o:H.get G=A (.row I 7 [cG g t u]))
  (ah:aH e_ H ok c.vars c4) (ai:aH gq H ok c.ins k) (s:c.vars.length<=1000000000) {N:Nat}:
  W (vr (aK P aG) N (.ptr zC 0 0) (.ptr zI 0 0) (.ptr G 0 0) H) λr H'=>r= C (sl c g i)/\au H H':=by
 have h:=q;rw[uJ]at h;cases m:(i.a== -1)with
 |true=>
  refine gm @vr.eq_1 @s0.eq_1 @q5.eq_2 @mQ.eq_1 h m ?_;grind[aD,sl,au.refl]
 |false=>
  have l:=gc;rw[cG]at l;refine gm @vr.eq_1 @s0.eq_1 @q5.eq_2 @mQ.eq_1 h (ag l m) ?_;refine bw (u5 ⟨_,rfl,c4,k,rfl,ah,ai⟩ i.a s) λK p=> ?_
  have e:=p.get o;rw[cG]at e;have v:=ae.bq e;have j:au H (K.push (.row I 3 [cb (a6 c i.a)])):=p.eI _;have aL:∀z,bx P .neq 46 z (.agg [D F (a6 c i.a).b,D F (a6 c i.a).r,D F (a6 c i.a).d]) (.agg [D F 0,D F 0,D F 0])=A (C (decide (a6 c i.a≠bt))):=λz=>iH _ bt z
  have he:∀z,bx P .eql 46 z (.agg [D F (a6 c i.a).b,D F (a6 c i.a).r,D F (a6 c i.a).d]) (.agg [D F g.res.b,D F g.res.r,D F g.res.d])=A (C (decide (a6 c i.a=g.res))):=λz=>dx _ g.res z
  cases n:g.has with
  |false=>
   rw[n]at e;refine oC @c3.eq_1 @cb.eq_1 e ?_;exact aD.2 ⟨by grind[sl],j⟩
  |true=>
   rw[n]at e;by_cases w:a6 c i.a=bt
   ·have f:decide (a6 c i.a≠bt)=false:=al;refine ye @c3.eq_1 @cb.eq_1 e aL f ?_;exact aD.2 ⟨by grind[sl],j⟩
   ·have f:decide (a6 c i.a≠bt)=true:=al;refine gm @c3.eq_1 @cb.eq_1 e aL he f ?_;exact aD.2 ⟨by grind[sl],j⟩
theorem Kf{c g:bT}{i:In}{c4 M S ap wi:af}{zC zI G:Nat}(B:c.vars.length<=1000000000)(V:g.vars.length<=1000000000)(ab:i.args.length<=g.vars.length){N:Nat}:∀(j k m:Nat) (H:ae),k+j=i.args.length->j<m->H.get zC=A (.row I 7 [cG c c4 M])->H.get zI=A (.row I 6 [uJ i wi])->H.get G=A (.row I 7 [cG g S ap])->
  aH e_ H ok c.vars c4->aH gq H ok c.ins M->aH e_ H ok g.vars S->aH aN H ok i.args wi->
  W (q5 (aK P aG) N m (.ptr zC 0 0) (.ptr zI 0 0) (.ptr G 0 0) (D F k) H) λr H'=>r= C (kX c g (i.args.drop k) k&&sl c g i)/\au H H'
 |_,_,0,_,_,hm,_,_,_,_,_,_,_=>ad
 |0,k,m+1,H,aa,_,gc,q,u,ah,ai,ax,aM=>by
  have E:¬(k:Int)<(i.args.length:Int):=ad;have l:=q;rw[uJ]at l;rw[List.drop_of_length_le ad,kX,Bool.true_and];have e:=U8 (i:=i) (g:=g) gc q u ah ai B (N:=N);simp-implicitDefEqProofs(disch:=try exact aW)only[s0,q5,mQ,reduceAdd,reduceLeDiff,reduceIte,eU,l,aM.len b0,E,decide_false];exact e
 |j+1,k,m+1,H,aa,hm,gc,q,u,ah,ai,ax,aM=>by
  have E:(k:Int)<(i.args.length:Int):=ad;have aj:k<i.args.length:=ad;have aA:k<g.vars.length:=ad;have l:=q;rw[uJ]at l;have o:=gc;rw[cG]at o;obtain⟨L,n,ro,els,ar,am,_,U,e,rfl⟩:=aM.at_ (K:=aN) b0 (j:=(k:Int)) (a:=i.args[k]) ad al;have t:H.get L=A (.row ro 1 els):=U;simp-implicitDefEqProofs(disch:=try exact aW)only[s0,q5,mQ,reduceAdd,reduceLeDiff,reduceIte,eU,l,o,aM.len b0,E,decide_true,am,t,e];refine bw (u5 ⟨_,rfl,c4,M,rfl,ah,ai⟩ i.args[k] B) λK p=> ?_
  have v:=p.get u;rw[cG]at v;have aw:=ae.bq v;have f:au H (K.push (.row I 3 [cb (a6 c i.args[k])])):=p.eI _;have w:=FX ah ai;rw[cG]at w;obtain⟨L2,aE,an,T,av,R,_,O,x,rfl⟩:=(ax.aB p).at_ (K:=e_) cS (j:=(k:Int)) (a:=g.vars[k]) ad al;have Q:K.get L2=A (.row an 3 T):=O;have ay:=ae.bq O;rw[cb]at x;have aL:∀z,bx P .neq 46 z (.agg [D F (a6 c i.args[k]).b,D F (a6 c i.args[k]).r,D F (a6 c i.args[k]).d]) (.agg [D F g.vars[k].b,D F g.vars[k].r,D F g.vars[k].d])=A (C (decide (a6 c i.args[k]≠g.vars[k]))):=λz=>iH _ g.vars[k] z
  have he:∀z,bx P .eql 46 z (.agg [D F (a6 c i.args[k]).b,D F (a6 c i.args[k]).r,D F (a6 c i.args[k]).d]) (.agg [D F 0,D F 0,D F 0])=A (C (decide (a6 c i.args[k]=bt))):=λz=>dx _ bt z
  rw[List.drop_eq_getElem_cons aj,kX];have Y:g.vars[k]? =A g.vars[k]:=al;rw[Y];by_cases aC:a6 c i.args[k]=bt
  ·have s:decide (a6 c i.args[k]=bt)=true:=al;refine gm l o t e w (ag (dF aM) (ag @c3.eq_1 (ag @cb.eq_1 (ag he s)))) ?_;exact aD.2 ⟨al,f⟩
  ·have s:decide (a6 c i.args[k]=bt)=false:=al;by_cases aJ:a6 c i.args[k]=g.vars[k]
   ·have y:decide (a6 c i.args[k]≠g.vars[k])=false:=al;refine gm l o t e w (ag (dF aM) (ag @c3.eq_1 (ag @cb.eq_1 (ag he (ag aL (ag s (ag y (ag v (ag R (ag Q x)))))))))) ?_;have:=Kf B V ab (N:=N) j (k+1) m (K.push (.row I 3 [cb (a6 c i.args[k])])) ad ad (f.get gc) (f.get q) (f.get u) (ah.aB f) (ai.aB f) (ax.aB f) (aM.aB f);refine this.mono ?_;rintro r aq ⟨rfl,ak⟩;refine⟨?_,f.trans ak⟩;grind
   ·have y:decide (a6 c i.args[k]≠g.vars[k])=true:=al;refine gm l o t e w (ag (dF aM) (ag @c3.eq_1 (ag @cb.eq_1 (ag he (ag aL (ag s (ag y (ag v (ag R (ag Q x)))))))))) ?_;refine aD.2 ⟨?_,f⟩;have:¬g.vars[k]=a6 c i.args[k]:=λh=>aJ h.symm
    simp[this]
theorem U9{x:bC}{c:bT}{i:In}{v c4 z:af}(aE:cA H ok x v)(aA:I2 H ok c c4)(aP:yu H ok i z)(M:c.vars.length<=1000000000)(O:∀g∈x.ay,g.vars.length<=1000000000):W (aK P aG 110 [v,c4,z] H) λr H'=>r= C (mh x c i)/\au H H':=by
 obtain⟨_,rfl,a,b,cc,d,rfl,ah,ai,ax,aM⟩:=aE;obtain⟨_,rfl,b5,ww,rfl,a1,bd⟩:=aA;obtain⟨_,rfl,wi,rfl,i1⟩:=aP;refine adH (i.args.length+1) ?_;have f:=dV ah ai ax aM x.main;have h:=D_ a1 bd c.params c.res.b c.res.r c.res.d c.has;have k:=yT i1 i.op i.a i.b i.c i.n;have T:=(((au.refl H).eI (.row I 5 [[a,b,cc,d,D F x.main]])).eI (.row I 7 [[D F c.params,b5,C c.has,D F c.res.b,D F c.res.r,D F c.res.d,ww]])).eI (.row I 6 [[D F i.op,D F i.a,D F i.b,D F i.c,D F i.n,wi]]);by_cases l:i.c<0
 ·simp-implicitDefEqProofs(disch:=try exact aW)only[mQ,reduceAdd,reduceLeDiff,reduceIte,eU,f,h,k,l,decide_true];grind[aD,mh,gi]
 by_cases bV:(x.ay.length:Int)<=i.c
 ·simp-implicitDefEqProofs(disch:=try exact aW)only[mQ,reduceAdd,reduceLeDiff,reduceIte,eU,f,h,k,l,bV,ax.len cD,decide_true,decide_false];grind[aD,mh,gi]
 have R:i.c.toNat<x.ay.length:=ad;have aS:eK x.ay i.c=A x.ay[i.c.toNat]:=by grind[jK]
 obtain⟨L,n,ro,els,Y,u,_,g,e,gv,gw,rfl,m,E⟩:=ax.at_ (K:=gf) cD (j:=i.c) (a:=x.ay[i.c.toNat]) ad al;have Q:=O _ (List.getElem_mem R);generalize x.ay[i.c.toNat]=G at*;have aa:=ae.bq g;have p:H.get L=A (.row ro 7 els):=g;have q:=m.one;have s:=E.one;have o:=T.eI (.row I 7 [[D F G.params,gv,C G.has,D F G.res.b,D F G.res.r,D F G.res.d,gw]]);rw[mh,aS];simp only[];have bad:¬(0<=G.params/\G.params<=G.vars.length/\(i.args.length:Int)=G.params)->(decide (0<=G.params/\G.params<=G.vars.length/\(i.args.length:Int)=G.params)&&(kX c G i.args 0&&(i.a== -1||G.has&&decide (a6 c i.a≠bt/\a6 c i.a=G.res))))=false:=al
 by_cases t:G.params<0
 ·simp-implicitDefEqProofs(disch:=try exact aW)only[mQ,reduceAdd,reduceLeDiff,reduceIte,eU,f,h,k,l,bV,ax.len cD,u,p,e,q,s,t,decide_true,decide_false];grind[aD]
 by_cases y:(G.vars.length:Int)<G.params
 ·simp-implicitDefEqProofs(disch:=try exact aW)only[mQ,reduceAdd,reduceLeDiff,reduceIte,eU,f,h,k,l,bV,ax.len cD,m.len cS,u,p,e,q,s,t,y,decide_true,decide_false];grind[aD]
 by_cases ab:(i.args.length:Int)=G.params
 ·have w:((i.args.length:Int) != G.params)=false:=al;simp-implicitDefEqProofs(disch:=try exact aW)only[mQ,reduceAdd,reduceLeDiff,reduceIte,eU,f,h,k,l,bV,ax.len cD,m.len cS,i1.len b0,u,p,e,q,s,t,y,w,decide_false];have S:decide (0<=G.params/\G.params<=G.vars.length/\(i.args.length:Int)=G.params)=true:=al;rw[S,Bool.true_and];have gt:∀{zA B zC zD:bz},((((H.push zA).push B).push zC).push zD).get (H.next+1)=A B/\((((H.push zA).push B).push zC).push zD).get (H.next+1+1)=A zC/\((((H.push zA).push B).push zC).push zD).get (H.next+1+1+1)=A zD:=by
   intro zA B zC zD;refine⟨?_,?_,?_⟩<;>simp[ae.jS]<;>omega
  have key:=Kf (c:=c) (g:=G) (i:=i) M Q ad (N:=i.args.length+1) i.args.length 0 (i.args.length+1) _ ad ad gt.1 gt.2.1 gt.2.2 (a1.aB o) (bd.aB o) (m.aB o) (i1.aB o);refine key.mono ?_;rintro r V ⟨rfl,U⟩;exact⟨by rw[List.drop_zero];rfl,o.trans U⟩
 ·have w:((i.args.length:Int) != G.params)=true:=al;simp-implicitDefEqProofs(disch:=try exact aW)only[mQ,reduceAdd,reduceLeDiff,reduceIte,eU,f,h,k,l,bV,ax.len cD,m.len cS,i1.len b0,u,p,e,q,s,t,y,w,decide_false];grind[aD]
end
end
section
open Go.a_
set_option maxRecDepth 2000
section
variable {H:ae}{ok:Nat->Prop}
def o{H:ae}{i:In}{w:af}{zI:Nat}(h:H.get zI=A (.row I 6 [[D F i.op,D F i.a,D F i.b,D F i.c,D F i.n,w]])):
  aI P H 3 (.ptr zI 0 1)=A (D F i.a)/\aI P H 3 (.ptr zI 0 2)=A (D F i.b)/\aI P H 3 (.ptr zI 0 3)=A (D F i.c)/\aI P H 3 (.ptr zI 0 4)=A (D F i.n):=by
 exact kz h
def cn{H:ae}{a b c d:af}{m:Int}{zX:Nat}(h:H.get zX=A (.row I 5 [[a,b,c,d,D F m]])):aI P H 27 (.ptr zX 0 0)=A (.agg [a,b,c,d,D F m]):=
 hz (n:=5) (i:=0) (c:=0) aF aF h rfl bZ
def Np{H:ae}{i:In}{w:af}{zI:Nat}(h:H.get zI=A (.row I 6 [[D F i.op,D F i.a,D F i.b,D F i.c,D F i.n,w]])):aI P H 89 (.ptr zI 0 0)=A (.agg [D F i.op,D F i.a,D F i.b,D F i.c,D F i.n,w]):=
 hz (n:=6) (i:=0) (c:=0) aF aF h rfl bZ
def qR{H:ae}{c:bT}{v w:af}{zC:Nat}(h:H.get zC=A (.row I 7 [[D F c.params,v,C c.has,D F c.res.b,D F c.res.r,D F c.res.d,w]])):
  aI P H 4 (.ptr zC 0 2)=A (C c.has)/\aI P H 47 (.ptr zC 0 6)=A w/\aI P H 46 (.ptr zC 0 3)=A (c3 c.res):=by
 refine⟨?_,?_,?_⟩
 ·exact kz h
 ·exact kz h
 ·exact hz (n:=3) (i:=0) (c:=3) aF aF h rfl bZ
def zE{H:ae}{a b c d:af}{m:Int}{zX:Nat}(h:H.get zX=A (.row I 5 [[a,b,c,d,D F m]])):aI P H 23 (.ptr zX 0 1)=A b:=by
 exact kz h
def jX{H:ae}{t:cM}{zA:Nat}(h:H.get zA=A (.row I 3 [cb t])):aI P H 3 (.ptr zA 0 0)=A (D F t.b)/\aI P H 3 (.ptr zA 0 2)=A (D F t.d):=by
 rw[cb]at h;exact kz h
theorem ah_{x:bC}{i:In}{v be:af}(aE:cA H ok x v)(aP:yu H ok i be)(f:Nat){c:bT}(aC:x.ay[f]? =A c)(bb:∀g∈x.ay,g.vars.length<=1000000000)(hm:c.vars.all (eD x.b_.length)=J):W (aK P aG 51 [v,D F f,be] H) λr H'=>r= C (dY x f c i)/\au H H':=by
 obtain⟨_,rfl,a,b,cc,d,rfl,ah,ai,ax,aM⟩:=aE;obtain⟨_,rfl,wi,rfl,i1⟩:=aP;have cm:=(List.getElem?_eq_some_iff.1 aC).1;have aH:c.vars.length<=1000000000:=bb c (List.mem_of_getElem? aC);refine afl 0 ?_;have bf:=dV ah ai ax aM x.main;have bh:=yT i1 i.op i.a i.b i.c i.n;have bc:=((au.refl H).eI (.row I 5 [[a,b,cc,d,D F x.main]])).eI (.row I 6 [[D F i.op,D F i.a,D F i.b,D F i.c,D F i.n,wi]]);have f0:¬(f:Int)<0:=ad;have f1:¬(x.ay.length:Int)<=(f:Int):=ad;simp-implicitDefEqProofs(disch:=try exact aW)only[Rh,reduceAdd,reduceLeDiff,reduceIte,eU,bf,bh,f0,f1,ax.len cD,decide_false]
 refine cT (abM (i:=i) ⟨_,rfl,wi,rfl,i1.aB bc⟩) λK aN=> ?_
 have aR:=bc.trans aN;unfold dY;cases aL:named i with
 |false=>
  refine age ?_;exact aD.2 ⟨aX,aR⟩
 |true=>
  have ap:K.get (H.next+1)=A (.row I 6 [[D F i.op,D F i.a,D F i.b,D F i.c,D F i.n,wi]]):=aN.get (by simp[ae.jS]);have aU:K.get H.next=A (.row I 5 [[a,b,cc,d,D F x.main]]):=aN.get (by simp[ae.jS])
  obtain⟨L,n,ro,els,ce,bo,_,g,e,gv,gw,rfl,bV,b9⟩:=(ax.aB aR).at_ (K:=gf) cD (j:=(f:Int)) (a:=c) ad (fA aC);have ch:=ae.bq g;have bj:K.get L=A (.row ro 7 els):=g;have ci:L≠K.next:=ad
  have bm:=bV.one;have bn:=b9.one;have cg:H.next+1<K.next:=by have:=aN.1;simp at this;omega
  have n5:H.next+1≠K.next:=ad
  have cu:H.next+1≠K.next+1:=ad
  have cs:H.next≠K.next:=ad
  have ct:H.next≠K.next+1:=ad
  refine C5 @Bool.not_true @Bool.true_and aU ap bo (ag bj (ag e (ag bm bn))) ?_;have cv:=(aR.eI (.row I 7 [[D F c.params,gv,C c.has,D F c.res.b,D F c.res.r,D F c.res.d,gw]])).eI (.row I 3 [[D F 0,D F 0,D F 0]]);have a2:=((au.refl K).eI (.row I 7 [[D F c.params,gv,C c.has,D F c.res.b,D F c.res.r,D F c.res.d,gw]])).eI (.row I 3 [[D F 0,D F 0,D F 0]]);refine bw (u5 ⟨_,rfl,gv,gw,rfl,bV.aB a2,b9.aB a2⟩ i.a aH) λa9 k=> ?_
  have aQ:=a2.trans k;have aw:a9.get K.next=A (.row I 7 [[D F c.params,gv,C c.has,D F c.res.b,D F c.res.r,D F c.res.d,gw]]):=k.get (by simp[ae.jS])
  have a_:a9.get (K.next+1)=A (.row I 3 [[D F 0,D F 0,D F 0]]):=k.get (by simp[ae.jS]);have aq:=aQ.get ap;refine Im aw aq ?_;refine bw (u5 ⟨_,rfl,gv,gw,rfl,bV.aB aQ,b9.aB aQ⟩ i.b aH) λcd N=> ?_
  have a3:=aQ.trans N;have aA:=N.get aw;have ar:=N.get aq;refine Im aA ar ?_;refine bw (u5 ⟨_,rfl,gv,gw,rfl,bV.aB a3,b9.aB a3⟩ i.c aH) λy aJ=> ?_
  have a4:=a3.trans aJ;have aY:=aJ.get aA;have av:=aJ.get ar;have aZ:=aJ.get (N.get a_);have bd:=FX bV b9;rw[cG]at bd;have cp:H.next+1<y.next:=ae.bq av
  have cq:K.next<y.next:=ae.bq aY
  have cr:K.next+1<y.next:=ae.bq aZ
  have aV:=a4.get aU;have co:H.next<y.next:=ae.bq aV
  have a1:∀v,(a6 c v).d<=1000:=λv=>by
   unfold a6;cases h:eK c.vars v with
   |none=>simp[bt]
   |some u=>
    have:=List.all_eq_true.1 hm u (List.mem_of_getElem? (JP.1 h).2);simp only[eD,Bool.and_eq_true,decide_eq_true_eq]at this;simp;omega
  have bk:=a1 i.a;have bl:=a1 i.b;have cl:=a1 i.c;generalize a6 c i.a=ta at*;generalize a6 c i.b=tb at*;generalize a6 c i.c=E at*;refine C5 @c3.eq_1 @cb.eq_1 ap aq ar (ag av (ag aw (ag aA bd))) ?_
  try rw[ae.fR H]
  try rw[ae.fR K]
  try rw[ae.fR (y.push _)]
  try rw[ae.fR y]
  have ab:au y ((((((y.push (.row I 3 [[D F 0,D F 0,D F 0]])).push (.row I 3 [[D F 0,D F 0,D F 0]])).push (.row I 3 [[D F 0,D F 0,D F 0]])).set y.next (.row I 3 [[D F ta.b,D F ta.r,D F ta.d]])).set (y.next+1) (.row I 3 [[D F tb.b,D F tb.r,D F tb.d]])).set (y.next+1+1) (.row I 3 [[D F E.b,D F E.r,D F E.d]])):=
   (((((au.refl y).eI _).eI _).eI _).oF (du _) _).oF ad _|>.oF ad _
  have cj:((((((y.push (.row I 3 [[D F 0,D F 0,D F 0]])).push (.row I 3 [[D F 0,D F 0,D F 0]])).push (.row I 3 [[D F 0,D F 0,D F 0]])).set y.next (.row I 3 [[D F ta.b,D F ta.r,D F ta.d]])).set (y.next+1) (.row I 3 [[D F tb.b,D F tb.r,D F tb.d]])).set (y.next+1+1) (.row I 3 [[D F E.b,D F E.r,D F E.d]])).get y.next=A (.row I 3 [cb ta]):=by
   simp-implicitDefEqProofs(disch:=try exact aW)only[qI];rfl
  have M:((((((y.push (.row I 3 [[D F 0,D F 0,D F 0]])).push (.row I 3 [[D F 0,D F 0,D F 0]])).push (.row I 3 [[D F 0,D F 0,D F 0]])).set y.next (.row I 3 [[D F ta.b,D F ta.r,D F ta.d]])).set (y.next+1) (.row I 3 [[D F tb.b,D F tb.r,D F tb.d]])).set (y.next+1+1) (.row I 3 [[D F E.b,D F E.r,D F E.d]])).get (y.next+1)=A (.row I 3 [cb tb]):=by
   simp-implicitDefEqProofs(disch:=try exact aW)only[qI];rfl
  have aa:((((((y.push (.row I 3 [[D F 0,D F 0,D F 0]])).push (.row I 3 [[D F 0,D F 0,D F 0]])).push (.row I 3 [[D F 0,D F 0,D F 0]])).set y.next (.row I 3 [[D F ta.b,D F ta.r,D F ta.d]])).set (y.next+1) (.row I 3 [[D F tb.b,D F tb.r,D F tb.d]])).set (y.next+1+1) (.row I 3 [[D F E.b,D F E.r,D F E.d]])).get (y.next+1+1)=A (.row I 3 [cb E]):=by
   simp-implicitDefEqProofs(disch:=try exact aW)only[qI];rfl
  generalize ((((((y.push (.row I 3 [[D F 0,D F 0,D F 0]])).push (.row I 3 [[D F 0,D F 0,D F 0]])).push (.row I 3 [[D F 0,D F 0,D F 0]])).set y.next (.row I 3 [[D F ta.b,D F ta.r,D F ta.d]])).set (y.next+1) (.row I 3 [[D F tb.b,D F tb.r,D F tb.d]])).set (y.next+1+1) (.row I 3 [[D F E.b,D F E.r,D F E.d]]))=Y at*;have aO:=ab.get aV;have U:=ab.get av;have b4:=ab.get aY;have O:Y.get (K.next+1)=A (.row I 3 [cb bt]):=ab.get aZ;have m:au H Y:=(aR.trans a4).trans ab
  generalize y.next=zA at*
  generalize zA+1=B at*;generalize B+1=zD at*;clear aZ aV av aY ar aA aq aw a_ ap aU;have T:bF (A (.agg [a,b,cc,d,D F x.main])) (.agg [a,b,cc,d,D F x.main])=true:=by simp[bF,af.beq,e6.beq,ah.rd,ai.rd,ax.rd,aM.rd]
  have al:cA Y ok x (.agg [a,b,cc,d,D F x.main]):=⟨_,rfl,a,b,cc,d,rfl,ah.aB m,ai.aB m,ax.aB m,aM.aB m⟩;have aj:au K Y:=a4.trans ab;have S:bF (A gw) gw=true:=dF b9;have rs:=λH' (p:au Y H')=>ag (R (p.get cj)) (ag (R (p.get M)) (ag (R (p.get aa)) (ag (R (p.get O)) (ag (o (p.get U)) (ag (jX (p.get cj)) (ag (jX (p.get M)) (ag (jX (p.get aa)) (ag (cn (p.get aO)) (ag (qR (p.get b4)) (ag eR (ag fp (ag T S))))))))))))
  split
  case h_1 heq=>
   have t:∀j:Int,(i.op==j)=(1==j):=λj=>by rw[heq]
   simp-implicitDefEqProofs(disch:=try exact aW)only[ej,cV,t,Int.reduceBEq];refine bw kK λah k=> ?_
   have cf:=k.get U;by_cases l:ta=da
   ·refine p5 (R (k.get cj)) @dx l @decide_true ?_;refine lx (lH aF ?_) (aD.2 ⟨aX,m.trans k⟩);subst l;refine lY ?_ ?_
    ·simp only[hW,cw.K.heap,List.forall_mem_cons]
     repeat' first|exact au.refl _|exact k|(intro _ h;cases h;done)|refine ag ?_ ?_
    ·simp only[List.forall_mem_cons]
     repeat' first|(intro v s;cases s;done)|(intro v s;cases s;intro H' p;simp only[Nat.zero_add,rs H' p,eR,fp,T,S];done)|(intro _ h;cases h;done)|refine ag ?_ ?_
   ·refine p5 (R (k.get cj)) @dx l @decide_false ?_;refine cT oE λai N=> ?_
    have z:=k.trans N;have ba:=z.get U;by_cases Q:ta=ey
    ·subst Q;cases dE:(i.n==0)with
     |true=>
      refine gV @dz @Nat.zero_add (R (z.get cj)) (o ba) @dx (ag @decide_true (ag dE @cV)) ?_;refine ds rs (aD.2 ⟨by simp[dE],m.trans z⟩)
     |false=>
      refine gV @dz @Nat.zero_add (R (z.get cj)) (o ba) @dx (ag @decide_true (ag dE @cV)) ?_;refine ds rs (aD.2 ⟨by simp[dE,l],m.trans z⟩)
    ·refine p5 (R (z.get cj)) @dx Q @decide_false ?_;refine ds rs (aD.2 ⟨aX,m.trans z⟩)
  case h_2 heq=>
   have t:∀j:Int,(i.op==j)=(2==j):=λj=>by rw[heq]
   simp-implicitDefEqProofs(disch:=try exact aW)only[ej,cV,dz,Nat.zero_add,t,Int.reduceBEq,dU,dQ,dT,dR,dS,R cj,R O,iH];by_cases l:ta=bt
   ·have q:decide (ta≠bt)=false:=by simp[l]
    refine kI q ?_;exact aD.2 ⟨aX,m⟩
   ·have q:decide (ta≠bt)=true:=by simp[l]
    refine tN (R cj) q ?_;refine cT (FZ ta) λah k=> ?_
    refine kI q ?_;exact aD.2 ⟨aX,m.trans k⟩
  case h_3 heq=>
   have t:∀j:Int,(i.op==j)=(3==j):=λj=>by rw[heq]
   simp-implicitDefEqProofs(disch:=try exact aW)only[ej,cV,dz,Nat.zero_add,t,Int.reduceBEq,dU,dQ,dT,dR,dS,R cj,R O,iH];by_cases l:ta=bt
   ·have q:decide (ta≠bt)=false:=by simp[l]
    refine kI q ?_;exact aD.2 ⟨by simp[l],m⟩
   ·have q:decide (ta≠bt)=true:=by simp[l]
    refine p5 (R cj) (R M) @dx q ?_;exact aD.2 ⟨by simp[l],m⟩
  case h_4 heq=>
   have t:∀j:Int,(i.op==j)=(4==j):=λj=>by rw[heq]
   simp-implicitDefEqProofs(disch:=try exact aW)only[ej,cV,dz,Nat.zero_add,t,Int.reduceBEq,dU,dQ,dT,dR,dS,o U,R cj,R M,R aa];refine bw (UP i.n ta tb E) λah k=> ?_
   exact aD.2 ⟨rfl,m.trans k⟩
  case h_5 heq=>
   have t:∀j:Int,(i.op==j)=(5==j):=λj=>by rw[heq]
   simp-implicitDefEqProofs(disch:=try exact aW)only[ej,cV,dz,Nat.zero_add,t,Int.reduceBEq,dU,dQ,dT,dR,dS,o U];cases dE:(i.n==12)with
   |true=>
    have cL:(i.n==13)=false:=by
     have:i.n=12:=fA dE;rw[this];rfl
    refine RC ?_;refine cT kK λah k=> ?_
    by_cases l:ta=da
    ·subst l;refine rC (R (k.get cj)) @dx @decide_true ?_;refine cT kK λai N=> ?_
     have z:=k.trans N;by_cases Q:tb=da
     ·subst Q;refine rC (R (z.get M)) @dx @decide_true ?_;refine ds rs (aD.2 ⟨aX,m.trans z⟩)
     ·refine gV @dz @Nat.zero_add (R (z.get M)) (o (z.get U)) cL (ag @dx (ag Q (ag @decide_false @cV))) ?_;refine ds rs (aD.2 ⟨by simp[cL],m.trans z⟩)
    ·refine gV @dz @Nat.zero_add (R (k.get cj)) (o (k.get U)) cL (ag @dx (ag l (ag @decide_false @cV))) ?_;refine ds rs (aD.2 ⟨by simp[cL],m.trans k⟩)
   |false=>
    cases cL:(i.n==13)with
    |true=>
     refine oA @dz @Nat.zero_add (o U) cL @cV ?_;refine cT oE λah k=> ?_
     by_cases l:ta=ey
     ·subst l;refine rC (R (k.get cj)) @dx @decide_true ?_;refine cT oE λai N=> ?_
      have z:=k.trans N;refine tN (R (z.get M)) @dx ?_;refine ds rs (aD.2 ⟨aX,m.trans z⟩)
     ·refine p5 (R (k.get cj)) @dx l @decide_false ?_;refine ds rs (aD.2 ⟨aX,m.trans k⟩)
    |false=>
     refine oA @dz @Nat.zero_add (o U) cL @cV ?_;refine ds rs (aD.2 ⟨aX,m⟩)
  case h_6 heq=>
   have t:∀j:Int,(i.op==j)=(6==j):=λj=>by rw[heq]
   simp-implicitDefEqProofs(disch:=try exact aW)only[ej,cV,dz,Nat.zero_add,t,Int.reduceBEq,dU,dQ,dT,dR,dS,R cj,R O,iH];by_cases l:ta=bt
   ·have q:decide (ta≠bt)=false:=by simp[l]
    refine kI q ?_;refine ds rs (aD.2 ⟨by simp[l],m⟩)
   ·have q:decide (ta≠bt)=true:=by simp[l]
    refine gV @dz @Nat.zero_add (R M) (cn aO) (o U) q ?_;refine cT (Ls al tb i.c) λah k=> ?_
    refine rC (R (k.get cj)) @dx q ?_;refine ds rs (aD.2 ⟨by simp[l],m.trans k⟩)
  case h_7 heq=>
   have t:∀j:Int,(i.op==j)=(7==j):=λj=>by rw[heq]
   simp-implicitDefEqProofs(disch:=try exact aW)only[ej,cV,dz,Nat.zero_add,t,Int.reduceBEq,dU,dQ,dT,dR,dS,R M,R O,iH];by_cases l:tb=bt
   ·have q:decide (tb≠bt)=false:=by simp[l]
    refine kI q ?_;refine ds rs (aD.2 ⟨by simp[l],m⟩)
   ·have q:decide (tb≠bt)=true:=by simp[l]
    refine gV @dz @Nat.zero_add (R cj) (cn aO) (o U) q ?_;refine cT (Ls al ta i.c) λah k=> ?_
    refine rC (R (k.get M)) @dx q ?_;refine ds rs (aD.2 ⟨by simp[l],m.trans k⟩)
  case h_8 heq=>
   have t:∀j:Int,(i.op==j)=(8==j):=λj=>by rw[heq]
   simp-implicitDefEqProofs(disch:=try exact aW)only[ej,cV,dz,Nat.zero_add,t,Int.reduceBEq,dU,dQ,dT,dR,dS,R cj,R O,iH];by_cases l:ta=bt
   ·have q:decide (ta≠bt)=false:=by simp[l]
    refine kI q ?_;refine ds rs (aD.2 ⟨by simp[l],m⟩)
   ·have q:decide (ta≠bt)=true:=by simp[l]
    by_cases G:0<tb.d
    ·refine gV @dz @Nat.zero_add (jX M) q G (ag @decide_true @cV) ?_;refine cT kK λah k=> ?_
     by_cases V:E=da
     ·refine oA (R (k.get aa)) (R (k.get M)) @dx V @decide_true ?_;refine cT (Nu tb G bl) λai N=> ?_
      have z:=k.trans N;refine rC (R (z.get cj)) @dx q ?_;refine lx (lH aF ?_) (aD.2 ⟨by simp[l,G],m.trans z⟩);simp only[V]at rs;refine lY ?_ ?_
      ·simp only[hW,cw.K.heap,List.forall_mem_cons]
       repeat' first|exact au.refl _|exact k|exact z|(intro _ h;cases h;done)|refine ag ?_ ?_
      ·simp only[List.forall_mem_cons]
       repeat' first|(intro v s;cases s;done)|(intro v s;cases s;intro H' p;simp only[Nat.zero_add,rs H' p,eR,fp,T,S];done)|(intro _ h;cases h;done)|refine ag ?_ ?_
     ·refine oA (R (k.get aa)) @dx q V @decide_false ?_;refine ds rs (aD.2 ⟨by simp[V],m.trans k⟩)
    ·refine gV @dz @Nat.zero_add (jX M) q G (ag @decide_false @cV) ?_;refine ds rs (aD.2 ⟨by simp[G],m⟩)
  case h_9 heq=>
   have t:∀j:Int,(i.op==j)=(9==j):=λj=>by rw[heq]
   simp-implicitDefEqProofs(disch:=try exact aW)only[ej,cV,dz,Nat.zero_add,t,Int.reduceBEq,dU,dQ,dT,dR,dS,R aa,R O,iH];by_cases l:E=bt
   ·have q:decide (E≠bt)=false:=by simp[l]
    refine kI q ?_;refine ds rs (aD.2 ⟨by simp[l],m⟩)
   ·have q:decide (E≠bt)=true:=by simp[l]
    by_cases G:0<ta.d
    ·refine gV @dz @Nat.zero_add (jX cj) q G (ag @decide_true @cV) ?_;refine cT kK λah k=> ?_
     by_cases V:tb=da
     ·refine oA (R (k.get M)) (R (k.get cj)) @dx V @decide_true ?_;refine cT (Nu ta G bk) λai N=> ?_
      have z:=k.trans N;refine rC (R (z.get aa)) @dx q ?_;refine lx (lH aF ?_) (aD.2 ⟨by simp[l,G],m.trans z⟩);simp only[V]at rs;refine lY ?_ ?_
      ·simp only[hW,cw.K.heap,List.forall_mem_cons]
       repeat' first|exact au.refl _|exact k|exact z|(intro _ h;cases h;done)|refine ag ?_ ?_
      ·simp only[List.forall_mem_cons]
       repeat' first|(intro v s;cases s;done)|(intro v s;cases s;intro H' p;simp only[Nat.zero_add,rs H' p,eR,fp,T,S];done)|(intro _ h;cases h;done)|refine ag ?_ ?_
     ·refine oA (R (k.get M)) @dx q V @decide_false ?_;refine ds rs (aD.2 ⟨by simp[V],m.trans k⟩)
    ·refine gV @dz @Nat.zero_add (jX cj) q G (ag @decide_false @cV) ?_;refine ds rs (aD.2 ⟨by simp[G],m⟩)
  case h_10 heq=>
   have t:∀j:Int,(i.op==j)=(10==j):=λj=>by rw[heq]
   simp-implicitDefEqProofs(disch:=try exact aW)only[ej,cV,dz,Nat.zero_add,t,Int.reduceBEq,Bool.and_true,Bool.and_self,g8,jw,jx,iI,dU,dQ,dT,dR,dS];refine bw kK λah k=> ?_
   by_cases l:ta=da
   ·refine gV @dz @Nat.zero_add (R (k.get cj)) (jX (k.get M)) @dx (ag l (ag @decide_true @cV)) ?_;refine lx (lH aF ?_) (aD.2 ⟨aX,m.trans k⟩);simp only[l]at rs;refine lY ?_ ?_
    ·simp only[hW,cw.K.heap,List.forall_mem_cons]
     repeat' first|exact au.refl _|exact k|(intro _ h;cases h;done)|refine ag ?_ ?_
    ·simp only[List.forall_mem_cons]
     repeat' first|(intro v s;cases s;done)|(intro v s;cases s;intro H' p;simp only[Nat.zero_add,rs H' p,eR,fp,T,S];done)|(intro _ h;cases h;done)|refine ag ?_ ?_
   ·refine p5 (R (k.get cj)) @dx l @decide_false ?_;refine ds rs (aD.2 ⟨by simp[l],m.trans k⟩)
  case h_11 heq=>
   have t:∀j:Int,(i.op==j)=(11==j):=λj=>by rw[heq]
   simp-implicitDefEqProofs(disch:=try exact aW)only[ej,cV,dz,Nat.zero_add,t,Int.reduceBEq,Bool.and_true,Bool.and_self,g8,jw,jx,iI,dU,dQ,dT,dR,dS,R cj,R O,iH];by_cases l:ta=bt
   ·have q:decide (ta≠bt)=false:=by simp[l]
    refine kI q ?_;exact aD.2 ⟨by simp[l],m⟩
   ·have q:decide (ta≠bt)=true:=by simp[l]
    cases ak:(ta.b==3)with
    |false=>
     have aS:¬ta.b=3:=fA ak;refine gV @dz @Nat.zero_add (jX cj) q ak @cV ?_;exact aD.2 ⟨by simp[aS],m⟩
    |true=>
     have aS:ta.b=3:=fA ak;cases an:(ta.d==0)with
     |false=>
      have aT:¬ta.d=0:=fA an;refine gV @dz @Nat.zero_add (jX cj) q ak (ag an @cV) ?_;exact aD.2 ⟨by simp[aT],m⟩
     |true=>
      have aT:ta.d=0:=fA an;refine gV @dz @Nat.zero_add (jX cj) (R cj) (cn aO) (ag (o U) (ag q (ag ak (ag an @cV)))) ?_;refine cT (Jt al f i.n ta) λah k=> ?_
      refine RC ?_;exact aD.2 ⟨by simp[l,aS,aT],m.trans k⟩
  case h_12 heq=>
   have t:∀j:Int,(i.op==j)=(12==j):=λj=>by rw[heq]
   simp-implicitDefEqProofs(disch:=try exact aW)only[ej,cV,dz,Nat.zero_add,t,Int.reduceBEq,Bool.and_true,Bool.and_self,g8,jw,jx,iI,dU,dQ,dT,dR,dS,jX cj];by_cases G:0<ta.d
   ·refine tN G @decide_true ?_;refine cT kK λah k=> ?_
    by_cases Q:tb=da
    ·refine gV @dz @Nat.zero_add (R (k.get M)) (R (k.get cj)) (cn (k.get aO)) (ag (o (k.get U)) (ag @dx (ag G (ag Q @decide_true)))) ?_;refine cT (Jt (al.aB k) f i.n ta) λai N=> ?_
     have z:=k.trans N;refine tN G @decide_true ?_;refine lx (lH aF ?_) (aD.2 ⟨by simp[G],m.trans z⟩);simp only[Q]at rs;refine lY ?_ ?_
     ·simp only[hW,cw.K.heap,List.forall_mem_cons]
      repeat' first|exact au.refl _|exact k|exact z|(intro _ h;cases h;done)|refine ag ?_ ?_
     ·simp only[List.forall_mem_cons]
      repeat' first|(intro v s;cases s;done)|(intro v s;cases s;intro H' p;simp only[Nat.zero_add,rs H' p,eR,fp,T,S];done)|(intro _ h;cases h;done)|refine ag ?_ ?_
    ·refine gV (R (k.get M)) @dx G Q @decide_true @decide_false ?_;refine ds rs (aD.2 ⟨by simp[Q],m.trans k⟩)
   ·refine tN G @decide_false ?_;refine ds rs (aD.2 ⟨by simp[G],m⟩)
  case h_13 heq=>
   have t:∀j:Int,(i.op==j)=(13==j):=λj=>by rw[heq]
   simp-implicitDefEqProofs(disch:=try exact aW)only[ej,cV,dz,Nat.zero_add,t,Int.reduceBEq,Bool.and_true,Bool.and_self,g8,jw,jx,iI,dU,dQ,dT,dR,dS,cn aO,k6 (c:=c) (v:=gv) (w:=gw) b4,Np U];refine bw (U9 al ⟨_,rfl,gv,gw,rfl,bV.aB aj,b9.aB aj⟩ ⟨_,rfl,wi,rfl,i1.aB m⟩ aH bb) λah k=> ?_
   exact aD.2 ⟨rfl,m.trans k⟩
  case h_14 heq=>
   have t:∀j:Int,(i.op==j)=(14==j):=λj=>by rw[heq]
   simp-implicitDefEqProofs(disch:=try exact aW)only[ej,cV,dz,Nat.zero_add,t,Int.reduceBEq,Bool.and_true,Bool.and_self,g8,jw,jx,iI,dU,dQ,dT,dR,dS];refine bw kK λah k=> ?_
   refine oA @Bool.and_self (R (k.get cj)) (R cj) eR @dx ?_;exact aD.2 ⟨rfl,m.trans k⟩
  case h_15 heq=>
   have t:∀j:Int,(i.op==j)=(15==j):=λj=>by rw[heq]
   simp-implicitDefEqProofs(disch:=try exact aW)only[ej,cV,dz,Nat.zero_add,t,Int.reduceBEq,Bool.and_true,Bool.and_self,g8,jw,jx,iI,dU,dQ,dT,dR,dS];refine bw kK λah k=> ?_
   refine oA @Bool.and_self (R (k.get cj)) (R cj) eR @dx ?_;exact aD.2 ⟨rfl,m.trans k⟩
  case h_16 heq=>
   have t:∀j:Int,(i.op==j)=(16==j):=λj=>by rw[heq]
   simp-implicitDefEqProofs(disch:=try exact aW)only[ej,cV,dz,Nat.zero_add,t,Int.reduceBEq,Bool.and_true,Bool.and_self,g8,jw,jx,iI,dU,dQ,dT,dR,dS,o U];by_cases dE:0<=i.n
   ·refine gV @dz @Nat.zero_add (o U) (qR b4) ((b9.aB aj).bg eP) (ag dE (ag @decide_true @cV)) ?_;exact aD.2 ⟨by simp[within,dE],m⟩
   ·refine tN dE @decide_false ?_;exact aD.2 ⟨by simp[within,dE],m⟩
  case h_17 heq=>
   have t:∀j:Int,(i.op==j)=(17==j):=λj=>by rw[heq]
   simp-implicitDefEqProofs(disch:=try exact aW)only[ej,cV,dz,Nat.zero_add,t,Int.reduceBEq,Bool.and_true,Bool.and_self,g8,jw,jx,iI,dU,dQ,dT,dR,dS];refine bw oE λah k=> ?_
   by_cases l:ta=ey
   ·by_cases dE:0<=i.n
    ·by_cases cL:i.n<(c.ins.length:Int)
     ·by_cases br:0<=i.c
      ·simp-implicitDefEqProofs(disch:=try exact aW)only[ej,cV,dz,Nat.zero_add,t,Int.reduceBEq,Bool.and_true,Bool.and_self,g8,jw,jx,iI,dU,dQ,dT,dR,dS,R (k.get cj),o (k.get U),qR (k.get b4),(b9.aB aj).len eP,dx,l,decide_true,dE,cL,br];refine lx (lH aF ?_) (aD.2 ⟨by simp[within,dE,cL,br],m.trans k⟩);simp only[l]at rs;refine lY ?_ ?_
       ·simp only[hW,cw.K.heap,List.forall_mem_cons]
        repeat' first|exact au.refl _|exact k|(intro _ h;cases h;done)|refine ag ?_ ?_
       ·simp only[List.forall_mem_cons]
        repeat' first|(intro v s;cases s;done)|(intro v s;cases s;intro H' p;simp only[Nat.zero_add,rs H' p,eR,fp,T,S];done)|(intro _ h;cases h;done)|refine ag ?_ ?_
      ·simp-implicitDefEqProofs(disch:=try exact aW)only[ej,cV,dz,Nat.zero_add,t,Int.reduceBEq,Bool.and_true,Bool.and_self,g8,jw,jx,iI,dU,dQ,dT,dR,dS,R (k.get cj),o (k.get U),qR (k.get b4),(b9.aB aj).len eP,dx,l,decide_true,dE,cL,br,decide_false];refine lx (lH aF ?_) (aD.2 ⟨by simp[within,dE,cL,br],m.trans k⟩);simp only[l]at rs;refine lY ?_ ?_
       ·simp only[hW,cw.K.heap,List.forall_mem_cons]
        repeat' first|exact au.refl _|exact k|(intro _ h;cases h;done)|refine ag ?_ ?_
       ·simp only[List.forall_mem_cons]
        repeat' first|(intro v s;cases s;done)|(intro v s;cases s;intro H' p;simp only[Nat.zero_add,rs H' p,eR,fp,T,S];done)|(intro _ h;cases h;done)|refine ag ?_ ?_
     ·refine gV @dz @Nat.zero_add (R (k.get cj)) (o (k.get U)) (qR (k.get b4)) (ag ((b9.aB aj).bg eP) (ag @dx (ag l (ag @decide_true (ag dE (ag cL (ag @decide_false @cV))))))) ?_;refine lx (lH aF ?_) (aD.2 ⟨by simp[within,dE,cL],m.trans k⟩);simp only[l]at rs;refine lY ?_ ?_
      ·simp only[hW,cw.K.heap,List.forall_mem_cons]
       repeat' first|exact au.refl _|exact k|(intro _ h;cases h;done)|refine ag ?_ ?_
      ·simp only[List.forall_mem_cons]
       repeat' first|(intro v s;cases s;done)|(intro v s;cases s;intro H' p;simp only[Nat.zero_add,rs H' p,eR,fp,T,S];done)|(intro _ h;cases h;done)|refine ag ?_ ?_
    ·refine gV @dz @Nat.zero_add (R (k.get cj)) (o (k.get U)) @dx (ag l (ag @decide_true (ag dE (ag @decide_false @cV)))) ?_;refine lx (lH aF ?_) (aD.2 ⟨by simp[within,dE],m.trans k⟩);simp only[l]at rs;refine lY ?_ ?_
     ·simp only[hW,cw.K.heap,List.forall_mem_cons]
      repeat' first|exact au.refl _|exact k|(intro _ h;cases h;done)|refine ag ?_ ?_
     ·simp only[List.forall_mem_cons]
      repeat' first|(intro v s;cases s;done)|(intro v s;cases s;intro H' p;simp only[Nat.zero_add,rs H' p,eR,fp,T,S];done)|(intro _ h;cases h;done)|refine ag ?_ ?_
   ·refine p5 (R (k.get cj)) @dx l @decide_false ?_;refine ds rs (aD.2 ⟨by simp[l],m.trans k⟩)
  case h_18 heq=>
   have t:∀j:Int,(i.op==j)=(18==j):=λj=>by rw[heq]
   simp-implicitDefEqProofs(disch:=try exact aW)only[ej,cV,dz,Nat.zero_add,t,Int.reduceBEq,Bool.and_true,Bool.and_self,g8,jw,jx,iI,dU,dQ,dT,dR,dS,qR b4];cases ck:c.has with
   |false=>
    refine oA @dz @Nat.zero_add @Bool.not_false (o U) @cV ?_;exact aD.2 ⟨aX,m⟩
   |true=>
    refine p5 @Bool.not_true (R cj) (R O) @iH ?_;by_cases l:ta=bt
    ·have q:decide (ta≠bt)=false:=by simp[l]
     refine kI q ?_;exact aD.2 ⟨by simp[l],m⟩
    ·have q:decide (ta≠bt)=true:=by simp[l]
     refine gV @dz @Nat.zero_add (R cj) (qR b4) @dx q ?_;exact aD.2 ⟨by simp[l],m⟩
  case h_19 heq=>
   have t:∀j:Int,(i.op==j)=(19==j):=λj=>by rw[heq]
   simp-implicitDefEqProofs(disch:=try exact aW)only[ej,cV,dz,Nat.zero_add,t,Int.reduceBEq,Bool.and_true,Bool.and_self,g8,jw,jx,iI,dU,dQ,dT,dR,dS,R cj,R O,iH];by_cases l:ta=bt
   ·have q:decide (ta≠bt)=false:=by simp[l]
    refine kI q ?_;exact aD.2 ⟨aX,m⟩
   ·have q:decide (ta≠bt)=true:=by simp[l]
    by_cases dE:0<=i.n
    ·by_cases cL:i.n<(x.globals.length:Int)
     ·have am:i.n.toNat<x.globals.length:=ad;have a0:eK x.globals i.n=A x.globals[i.n.toNat]:=by rw[jK dE];simp[am]
      obtain⟨pp,bi,a5,a7,rfl⟩:=(ai.aB m).agg (K:=e_) cS tS (j:=i.n) (a:=x.globals[i.n.toNat]) dE (by simp[am]);have a8:aI P Y 46 pp=A (c3 x.globals[i.n.toNat]):=a7;refine gV @dz @Nat.zero_add (R cj) (o U) (zE aO) (ag ((ai.aB m).bg cS) (ag @dx (ag q (ag dE (ag cL (ag a5 (ag a8 (ag @decide_true @cV)))))))) ?_;exact aD.2 ⟨by rw[a0];simp[eq_comm],m⟩
     ·refine gV @dz @Nat.zero_add (o U) (zE aO) ((ai.aB m).bg cS) (ag q (ag dE (ag cL (ag @decide_true (ag @decide_false @cV))))) ?_;exact aD.2 ⟨by rw[gi.2 (.inr ad)];simp,m⟩
    ·refine gV @dz @Nat.zero_add (o U) q dE (ag @decide_false @cV) ?_;exact aD.2 ⟨by rw[gi.2 (.inl ad)];simp,m⟩
  case h_20 heq=>
   have t:∀j:Int,(i.op==j)=(20==j):=λj=>by rw[heq]
   simp-implicitDefEqProofs(disch:=try exact aW)only[ej,cV,dz,Nat.zero_add,t,Int.reduceBEq,Bool.and_true,Bool.and_self,g8,jw,jx,iI,dU,dQ,dT,dR,dS,R cj,R O,iH];by_cases l:ta=bt
   ·have q:decide (ta≠bt)=false:=by simp[l]
    refine kI q ?_;exact aD.2 ⟨aX,m⟩
   ·have q:decide (ta≠bt)=true:=by simp[l]
    by_cases dE:0<=i.n
    ·by_cases cL:i.n<(x.globals.length:Int)
     ·have am:i.n.toNat<x.globals.length:=ad;have a0:eK x.globals i.n=A x.globals[i.n.toNat]:=by rw[jK dE];simp[am]
      obtain⟨pp,bi,a5,a7,rfl⟩:=(ai.aB m).agg (K:=e_) cS tS (j:=i.n) (a:=x.globals[i.n.toNat]) dE (by simp[am]);have a8:aI P Y 46 pp=A (c3 x.globals[i.n.toNat]):=a7;refine gV @dz @Nat.zero_add (R cj) (o U) (zE aO) (ag ((ai.aB m).bg cS) (ag @dx (ag q (ag dE (ag cL (ag a5 (ag a8 (ag @decide_true @cV)))))))) ?_;exact aD.2 ⟨by rw[a0];simp[eq_comm],m⟩
     ·refine gV @dz @Nat.zero_add (o U) (zE aO) ((ai.aB m).bg cS) (ag q (ag dE (ag cL (ag @decide_true (ag @decide_false @cV))))) ?_;exact aD.2 ⟨by rw[gi.2 (.inr ad)];simp,m⟩
    ·refine gV @dz @Nat.zero_add (o U) q dE (ag @decide_false @cV) ?_;exact aD.2 ⟨by rw[gi.2 (.inl ad)];simp,m⟩
  case h_21 bR b5 z3 z4 z5 b7 b8 ca z9 bS bU bW bX bY bZ b0 b1 b2 b3 b6=>
   have bp:(i.op==1)=false:=beq_eq_false_iff_ne.2 bR;have bI:(i.op==2)=false:=beq_eq_false_iff_ne.2 b5;have bK:(i.op==3)=false:=beq_eq_false_iff_ne.2 z3;have bL:(i.op==4)=false:=beq_eq_false_iff_ne.2 z4;have bM:(i.op==5)=false:=beq_eq_false_iff_ne.2 z5;have bN:(i.op==6)=false:=beq_eq_false_iff_ne.2 b7;have bO:(i.op==7)=false:=beq_eq_false_iff_ne.2 b8;have bP:(i.op==8)=false:=beq_eq_false_iff_ne.2 ca;have bQ:(i.op==9)=false:=beq_eq_false_iff_ne.2 z9;have bs:(i.op==10)=false:=beq_eq_false_iff_ne.2 bS;have bu:(i.op==11)=false:=beq_eq_false_iff_ne.2 bU;have bv:(i.op==12)=false:=beq_eq_false_iff_ne.2 bW
   have bx:(i.op==13)=false:=beq_eq_false_iff_ne.2 bX;have bz:(i.op==14)=false:=beq_eq_false_iff_ne.2 bY;have bA:(i.op==15)=false:=beq_eq_false_iff_ne.2 bZ;have bD:(i.op==16)=false:=beq_eq_false_iff_ne.2 b0;have bE:(i.op==17)=false:=beq_eq_false_iff_ne.2 b1;have bG:(i.op==18)=false:=beq_eq_false_iff_ne.2 b2;have bH:(i.op==19)=false:=beq_eq_false_iff_ne.2 b3;have bJ:(i.op==20)=false:=beq_eq_false_iff_ne.2 b6;refine gV @jw.eq_1 @jx.eq_1 @iI.eq_1 bp bI (ag bK (ag bL (ag bM (ag bN (ag bO (ag bP (ag bQ (ag bs (ag bu (ag bv (ag bx (ag bz (ag bA (ag bD (ag bE (ag bG (ag bH (ag bJ @cV)))))))))))))))))) ?_
   exact aD.2 ⟨rfl,m⟩
end
end
section
open Go.a_
set_option maxRecDepth 2000
section
variable {H:ae}{ok:Nat->Prop}
def oc{H:ae}{a b c d:af}{m:Int}{zX:Nat}(h:H.get zX=A (.row I 5 [[a,b,c,d,D F m]])):
  aI P H 22 (.ptr zX 0 0)=A a/\aI P H 23 (.ptr zX 0 1)=A b/\aI P H 24 (.ptr zX 0 2)=A c/\aI P H 25 (.ptr zX 0 3)=A d/\aI P H 3 (.ptr zX 0 4)=A (D F m):=by
 exact kz h
theorem adh{x:bC}{a b c d:af}{zX:Nat}(aO:H.get zX=A (.row I 5 [[a,b,c,d,D F x.main]]))(ax:aH gf H ok x.ay c){N:Nat}:
  W (lR (aK P aG) N (.ptr zX 0 0) H) λr H'=>r= C (jq x)/\H'=H:=by
 by_cases f:0<=x.main
 ·by_cases h:x.main<(x.ay.length:Int)
  ·have p:x.main.toNat<x.ay.length:=ad;have m:eK x.ay x.main=A x.ay[x.main.toNat]:=by grind[jK]
   obtain⟨L,n,ro,els,o,l,_,g,e,gv,gw,rfl,bV,b9⟩:=ax.at_ (K:=gf) cD (j:=x.main) (a:=x.ay[x.main.toNat]) f al;have k:H.get L=A (.row ro 7 els):=g;rw[jq,m];generalize x.ay[x.main.toNat]=zC at*;cases i:(zC.params==0)with
   |false=>
    refine C5 @lR.eq_1 aO (ax.bg cD) f h (ag l (ag k (ag e (ag i @decide_true)))) ?_;grind[aD]
   |true=>
    refine C5 @lR.eq_1 aO (ax.bg cD) f h (ag l (ag k (ag e (ag i @decide_true)))) ?_;grind[aD]
  ·refine ye @lR.eq_1 aO (ax.bg cD) f h ?_;grind[aD,jq,gi]
 ·refine oC @lR.eq_1 aO f ?_;grind[aD,jq,gi]
theorem PI{x:bC}{v:af}{f:Nat}{c:bT}(aC:x.ay[f]? =A c)(n:∀g∈x.ay,g.vars.length<=1000000000)(hm:c.vars.all (eD x.b_.length)=J)(hlen:c.ins.length<=1000000000){a b cc d:af}{zX:Nat}{L4:af->af->ae->O}{Q:af->ae->Prop}{N:Nat}:
  ∀(j k m:Nat) (H:ae),k+j=c.ins.length->j<m->H.get zX=A (.row I 5 [[a,b,cc,d,D F x.main]])->cA H ok x (.agg [a,b,cc,d,D F x.main])->aH gq H ok c.ins v->
  ((c.ins.drop k).all (dY x f c)=I->∀H',au H H'->Q (C I) H')->((c.ins.drop k).all (dY x f c)=J->∀H',au H H'->W (pX (aK P aG) N L4 (.ptr zX 0 0) (D F f) v H') Q)->
  W (wG (aK P aG) N L4 m (.ptr zX 0 0) (D F f) v (D F k) H) Q
 |_,_,0,_,_,r,_,_,_,_,_=>ad
 |0,k,m+1,H,q,_,aO,aE,e,l,dO=>by
  have i:¬(k:Int)<(c.ins.length:Int):=ad;have:=dO al H (au.refl _);simp-implicitDefEqProofs(disch:=try exact aW)only[lR,nB,BD,wG,tx,rk,tA,mR,rl,wF,pW,oz,ri,tz,tw,rj,rh,pY,oy,ej,cV,eM,e.len eP,i,decide_false];omega
 |j+1,k,m+1,H,q,r,aO,aE,e,l,dO=>by
  have i:(k:Int)<(c.ins.length:Int):=ad;have y:k<c.ins.length:=ad;obtain⟨p,w,s,t,u⟩:=e.agg (K:=gq) eP Sn (j:=(k:Int)) (a:=c.ins[k]) ad al;simp-implicitDefEqProofs(disch:=try exact aW)only[lR,nB,BD,wG,tx,rk,tA,mR,rl,wF,pW,oz,ri,tz,tw,rj,rh,pY,oy,ej,cV,eM,e.len eP,i,decide_true,s,t,cn aO];refine bw (ah_ aE ⟨_,rfl,u⟩ f aC n hm) λH1 h=> ?_
  cases z:dY x f c c.ins[k]with
  |false=>
   refine bN ?_;grind[aD,List.drop_eq_getElem_cons]
  |true=>
   refine bN ?_;refine PI aC n hm hlen j (k+1) m H1 ad ad (h.get aO) (aE.aB h) (e.aB h) (λo H' p=>l (by grind[List.drop_eq_getElem_cons]) H' (h.trans p)) λo H' p=>dO ?_ H' (h.trans p)
   grind[List.drop_eq_getElem_cons]
theorem adg{c:bT}{v:af}{zX f:Nat}{L4:af->af->ae->O}{Q:af->ae->Prop}{N:Nat}(b:aH gq H ok c.ins v)(ah:1<=c.ins.length)(hlen:c.ins.length<=1000000000)(p:kx (k5 c.ins)=I->Q (C I) H)(aC:f<=1000000)(dO:kx (k5 c.ins)=J->W (L4 (.ptr zX 0 0) (D F ((f+1:Nat):Int)) H) Q):
  W (pX (aK P aG) N L4 (.ptr zX 0 0) (D F f) v H) Q:=by
 have k:IntKind.i64.wrap ((c.ins.length:Int)-1)=((c.ins.length-1:Nat):Int):=by grind[wrap_i64]
 have m:c.ins.length-1<c.ins.length:=ad;have q:k5 c.ins=(c.ins[c.ins.length-1]'m).op:=by
  grind[k5]
 obtain⟨L,n,ro,els,r,i,_,g,e,w,rfl,_⟩:=b.at_ (K:=gq) eP (j:=((c.ins.length-1:Nat):Int)) (a:=c.ins[c.ins.length-1]'m) ad aX;have h:H.get L=A (.row ro 6 els):=g;rw[q]at p dO;generalize (c.ins[c.ins.length-1]'m)=z at*;have t1:∀j:Int,(z.op != j)= !(z.op==j):=λ_=>rfl
 cases s:(z.op==16)with
 |true=>
  have d:(z.op != 16)=false:=al;refine gm @pX.eq_1 @nB.eq_1 (b.bg eP) k i (ag h (ag e d)) ?_;grind[kx]
 |false=>
  have d:(z.op != 16)=true:=al;cases t:(z.op==17)with
  |true=>
   have l:(z.op != 17)=false:=al;refine gm @pX.eq_1 @nB.eq_1 (b.bg eP) k i (ag h (ag e (ag d l))) ?_;grind[kx]
  |false=>
   have l:(z.op != 17)=true:=al;cases u:(z.op==18)with
   |true=>
    have o:(z.op != 18)=false:=al;refine gm @pX.eq_1 @nB.eq_1 (b.bg eP) k i (ag h (ag e (ag d (ag l o)))) ?_;grind[kx]
   |false=>
    have o:(z.op != 18)=true:=al;refine gm @pX.eq_1 @nB.eq_1 (b.bg eP) k i (ag h (ag e (ag d (ag l o)))) ?_;grind[aD,kx]
def lV(x:bC):List bT->Nat->Bool
 |[],_=>J
 |c::cs,f=>(c.ins.all (dY x f c)&&kx (k5 c.ins))&&lV x cs (f+1)
theorem PH{x:bC}{a b cc d:af}{zX:Nat}(t:∀g∈x.ay,g.vars.length<=1000000000)(hm:∀c∈x.ay,c.vars.all (eD x.b_.length)=J)(hlen:∀c∈x.ay,1<=c.ins.length/\c.ins.length<=1000000000)(z:x.ay.length<=1000000){N:Nat}(q:∀c∈x.ay,c.ins.length<N):
  ∀(j k m:Nat) (H:ae),k+j=x.ay.length->j<m->H.get zX=A (.row I 5 [[a,b,cc,d,D F x.main]])->cA H ok x (.agg [a,b,cc,d,D F x.main])->
  W (rk (aK P aG) N m (.ptr zX 0 0) (D F k) H) λr H'=>r= C (lV x (x.ay.drop k) k&&jq x)/\au H H'
 |_,_,0,_,_,E,_,_=>ad
 |0,k,m+1,H,B,_,aO,aE=>by
  have o:=aE;obtain⟨_,i,b1,b',v,w,l,ah,ai,ax,aM⟩:=aE;cases i;cases l;have R:¬(k:Int)<(x.ay.length:Int):=ad;rw[List.drop_of_length_le ad,lV,Bool.true_and];refine bh @rk.eq_2 @tx.eq_1 ad @eM.eq_1 (oc aO) (ax.bg cD) ?_;refine(adh aO ax).mono ?_;grind[au.refl]
 |j+1,k,m+1,H,B,E,aO,aE=>by
  have o:=aE;obtain⟨_,i,b1,b',v,w,l,ah,ai,ax,aM⟩:=aE;cases i;cases l;have u:k<x.ay.length:=ad;have h:=List.getElem_mem u;obtain⟨L,n,ro,els,Q,M,_,g,e,gv,gw,rfl,bV,b9⟩:=ax.at_ (K:=gf) cD (j:=(k:Int)) (a:=x.ay[k]) ad al;have li:aI P H 47 (.ptr L n 6)=A gw:=by
   have y:H.get L=A (.row ro 7 els):=g;exact sI y e
  refine bh @rk.eq_2 @tx.eq_1 ad @eM.eq_1 (oc aO) (ag (ax.bg cD) (ag M li)) ?_;rw[List.drop_eq_getElem_cons u,lV];refine PI (c:=x.ay[k]) (f:=k) al t (hm _ h) (hlen _ h).2 x.ay[k].ins.length 0 N H ad (q _ h) aO o b9 (λs H' p=> ?_) λs H' p=> ?_
  ·grind
  ·refine adg (b9.aB p) (hlen _ h).1 (hlen _ h).2 (λaw=> ?_) ad λaw=> ?_
   ·grind
   ·refine(PH t hm hlen z q j (k+1) m H' ad ad (p.get aO) (o.aB p)).mono ?_;rintro r O ⟨rfl,G⟩;rw[List.drop_zero]at s;exact⟨al,p.trans G⟩
end
end
section
open Go.a_
set_option maxRecDepth 2000
section
variable {H:ae}{ok:Nat->Prop}
def head(x:bC)(c:bT):Bool:=decide (0<=c.params/\c.params<=6/\c.params<=c.vars.length/\c.vars.length<=4000/\1<=c.ins.length)&&(c.vars.all (eD x.b_.length)&&(bif c.has then eD x.b_.length c.res else decide (c.res=bt)))
def mq(x:bC):List bT->Nat->Bool
 |[],_=>J
 |c::cs,s=>(decide (s+c.ins.length<=2500)&&head x c)&&mq x cs (s+c.ins.length)
theorem adf{x:bC}{a b cc d:af}{zX k s:Nat}{c:bT}{L8:af->af->af->ae->O}{Q:af->ae->Prop}{N:Nat}(Y:x.ay[k]? =A c)(av:k<=1000000)(aF:s<=2500)(T:c.vars.length<=1000000000)(aw:c.ins.length<=1000000000)
  (aO:H.get zX=A (.row I 5 [[a,b,cc,d,D F x.main]])) (aE:cA H ok x (.agg [a,b,cc,d,D F x.main]))
  (w:(decide (s+c.ins.length<=2500)&&head x c)=I->∀H',au H H'->Q (C I) H') (dO:(decide (s+c.ins.length<=2500)&&head x c)=J->∀H',au H H'->W (L8 (.ptr zX 0 0) (D F ((s+c.ins.length:Nat):Int)) (D F ((k+1:Nat):Int)) H') Q):
  W (mR (aK P aG) N L8 (.ptr zX 0 0) (D F s) (D F k) H) Q:=by
 have B:=aE;obtain⟨_,R,b1,b',aj,am,f,ah,ai,ax,aM⟩:=aE;cases R;cases f;have aA:=(List.getElem?_eq_some_iff.1 Y).1;have l:(k:Int)<(x.ay.length:Int):=ad;obtain⟨L,n,ro,els,ak,t,_,g,e,gv,gw,rfl,bV,b9⟩:=ax.at_ (K:=gf) cD (j:=(k:Int)) (a:=c) ad al;have aq:=ae.bq g;have ar:=ae.bq aO;have i:H.get L=A (.row ro 7 els):=g;have m:=bV.one;have o:=b9.one;have E:=au.push H (.row I 7 [[D F c.params,gv,C c.has,D F c.res.b,D F c.res.r,D F c.res.d,gw]]);have u:IntKind.i64.wrap ((s:Int)+(c.ins.length:Int))=((s+c.ins.length:Nat):Int):=by grind[wrap_i64]
 have bad:∀{H'},au H H'->(decide (s+c.ins.length<=2500)&&head x c)=I->W (A (af.bool I,H')) Q:=λp h=>aD.2 (w h _ p)
 by_cases br:(4000:Int)<(c.vars.length:Int)
 ·simp-implicitDefEqProofs(disch:=try exact aW)only[mR,reduceAdd,reduceLeDiff,reduceIte,eU,aO,ax.len cD,l,t,i,e,m,o,bV.len cS,b9.len eP,u,br,decide_true];grind[head]
 by_cases a1:c.params<0
 ·simp-implicitDefEqProofs(disch:=try exact aW)only[mR,reduceAdd,reduceLeDiff,reduceIte,eU,aO,ax.len cD,l,t,i,e,m,o,bV.len cS,b9.len eP,u,br,a1,decide_true,decide_false];grind[head]
 by_cases bd:(6:Int)<c.params
 ·simp-implicitDefEqProofs(disch:=try exact aW)only[mR,reduceAdd,reduceLeDiff,reduceIte,eU,aO,ax.len cD,l,t,i,e,m,o,bV.len cS,b9.len eP,u,br,a1,bd,decide_true,decide_false];grind[head]
 by_cases bn:(c.vars.length:Int)<c.params
 ·simp-implicitDefEqProofs(disch:=try exact aW)only[mR,reduceAdd,reduceLeDiff,reduceIte,eU,aO,ax.len cD,l,t,i,e,m,o,bV.len cS,b9.len eP,u,br,a1,bd,bn,decide_true,decide_false];grind[head]
 simp-implicitDefEqProofs(disch:=try exact aW)only[mR,reduceAdd,reduceLeDiff,reduceIte,eU,aO,ax.len cD,l,t,i,e,m,o,bV.len cS,b9.len eP,u,br,a1,bd,bn,decide_true,decide_false];refine cT (SE (B.aB E) (bV.aB E) T) λH1 G=> ?_
 have q:=E.trans G;have b4:H1.get H.next=A (.row I 7 [[D F c.params,gv,C c.has,D F c.res.b,D F c.res.r,D F c.res.d,gw]]):=G.get (ae.a2 _ _)
 have v:=q.get aO;have aa:=B.aB q;clear aO B;cases ba:c.vars.all (eD x.b_.length)with
 |false=>
  refine mX ?_;grind[head]
 |true=>
  by_cases bI:(c.ins.length:Int)<1
  ·simp-implicitDefEqProofs(disch:=try exact aW)only[reduceAdd,reduceLeDiff,reduceIte,eU,Bool.not_true,b4,b9.len eP,bI,decide_true];grind[head]
  by_cases bY:(2500:Int)<((s+c.ins.length:Nat):Int)
  ·simp-implicitDefEqProofs(disch:=try exact aW)only[reduceAdd,reduceLeDiff,reduceIte,eU,Bool.not_true,b4,b9.len eP,bI,bY,decide_true,decide_false];grind
  have U:decide (s+c.ins.length<=2500)=true:=al;have V:decide (0<=c.params/\c.params<=6/\c.params<=c.vars.length/\c.vars.length<=4000/\1<=c.ins.length)=true:=al;rw[U,Bool.true_and,head,V,Bool.true_and,ba,Bool.true_and]at w dO bad;have aT:=fB (show k<=1000000000 by omega);have ap:=cn v;cases y:c.has with
  |false=>
   rw[y,oZ]at w dO bad;rw[y]at b4;have aL:∀z,bx P .neq 46 z (.agg [D F c.res.b,D F c.res.r,D F c.res.d]) (.agg [D F 0,D F 0,D F 0])=A (C (decide (c.res≠bt))):=λz=>iH _ bt z
   by_cases an:c.res=bt
   ·have f:decide (c.res≠bt)=false:=al;simp-implicitDefEqProofs(disch:=try exact aW)only[reduceAdd,reduceLeDiff,reduceIte,eU,Bool.not_true,Bool.not_false,b4,v,b9.len eP,bI,bY,aL,f,aT,decide_false];grind
   ·have f:decide (c.res≠bt)=true:=al;simp-implicitDefEqProofs(disch:=try exact aW)only[reduceAdd,reduceLeDiff,reduceIte,eU,Bool.not_true,Bool.not_false,b4,v,b9.len eP,bI,bY,aL,f,aT,decide_false];grind
  |true=>
   rw[y,g8]at w dO bad;rw[y]at b4;simp-implicitDefEqProofs(disch:=try exact aW)only[reduceAdd,reduceLeDiff,reduceIte,eU,Bool.not_true,Bool.not_false,b4,v,b9.len eP,bI,bY,decide_false];refine cT (zN aa c.res) λab M=> ?_
   have aH:=q.trans M;have S:=M.get b4;cases aC:eD x.b_.length c.res with
   |false=>
    refine mX ?_;grind
   |true=>
    refine It S aT ?_;grind
theorem Mh{x:bC}{c:bT}(h:head x c=J):c.vars.all (eD x.b_.length)=J/\1<=c.ins.length:=by
 grind[head]
theorem Mi{x:bC}{a b cc d:af}{zX:Nat}(e:∀g∈x.ay,g.vars.length<=1000000000)(hlen:∀c∈x.ay,c.ins.length<=1000000000)(i:x.ay.length<=1000000){N:Nat}(f:∀c∈x.ay,c.ins.length<N)(h:x.ay.length<N):
  ∀(j k m s:Nat) (H:ae),k+j=x.ay.length->j<m->s<=2500->(∀c∈x.ay.take k,head x c=J)->H.get zX=A (.row I 5 [[a,b,cc,d,D F x.main]])->cA H ok x (.agg [a,b,cc,d,D F x.main])->
  W (rl (aK P aG) N m (.ptr zX 0 0) (D F s) (D F k) H) λr H'=>r= C (mq x (x.ay.drop k) s&&(lV x x.ay 0&&jq x))/\au H H'
 |_,_,0,_,_,_,w,_,_,_,_=>ad
 |0,k,m+1,s,H,v,_,o,aP,aO,aE=>by
  have y:=aE;obtain⟨_,t,b1,b',E,G,u,ah,ai,ax,aM⟩:=aE;cases t;cases u;rw[List.take_of_length_le ad]at aP;rw[List.drop_of_length_le ad,mq,Bool.true_and];refine bh @rl.eq_2 @mR.eq_1 @tA.eq_1 ad @eM.eq_1 (ag (oc aO) (ax.bg cD)) ?_;exact PH e (by grind[Mh]) (λc aA=>⟨(Mh (aP c aA)).2,hlen c aA⟩) i f x.ay.length 0 N H ad h aO y
 |j+1,k,m+1,s,H,v,w,o,aP,aO,aE=>by
  have l:k<x.ay.length:=ad;have n:=List.getElem_mem l;rw[rl];rw[List.drop_eq_getElem_cons l,mq];refine adf (c:=x.ay[k]) al ad o (e _ n) (hlen _ n) aO aE (λaC H' p=> ?_) λba H' p=> ?_
  ·grind
  ·have q:=ba;simp only[Bool.and_eq_true,decide_eq_true_eq]at q;refine(Mi e hlen i f h j (k+1) m (s+x.ay[k].ins.length) H' ad ad q.1 ?_ (p.get aO) (aE.aB p)).mono ?_
   ·grind[List.take_succ_eq_append_getElem]
   ·rintro r B ⟨rfl,z⟩;exact⟨al,p.trans z⟩
theorem RP{x:bC}{a b cc d:af}{zX:Nat}(O:∀g∈x.ay,g.vars.length<=1000000000)(hlen:∀c∈x.ay,c.ins.length<=1000000000)(Q:x.ay.length<=1000000)(U:x.sites.length<=1000000){N:Nat}(G:∀c∈x.ay,c.ins.length<N)(M:x.ay.length<N):
  ∀(j k m:Nat) (H:ae),k+j=x.sites.length->j<m->H.get zX=A (.row I 5 [[a,b,cc,d,D F x.main]])->cA H ok x (.agg [a,b,cc,d,D F x.main])->
  W (oz (aK P aG) N m (.ptr zX 0 0) (D F k) H) λr H'=>r= C ((x.sites.drop k).all (jz x)&&(mq x x.ay 0&&(lV x x.ay 0&&jq x)))/\au H H'
 |_,_,0,_,_,T,_,_=>ad
 |0,k,m+1,H,R,_,aO,aE=>by
  have p:=aE;obtain⟨_,i,b1,b',y,B,l,ah,ai,ax,aM⟩:=aE;cases i;cases l;have h:¬(k:Int)<(x.sites.length:Int):=ad;rw[List.drop_of_length_le ad,List.all_nil,Bool.true_and];simp-implicitDefEqProofs(disch:=try exact aW)only[oz,pW,wF,ej,cV,dz,Nat.zero_add,eM,oc aO,aM.len fH,h,decide_false];grind[Mi]
 |j+1,k,m+1,H,R,T,aO,aE=>by
  have p:=aE;obtain⟨_,i,b1,b',y,B,l,ah,ai,ax,aM⟩:=aE;cases i;cases l;have h:(k:Int)<(x.sites.length:Int):=ad;have S:k<x.sites.length:=ad;obtain⟨L,n,ro,els,ab,s,_,g,e,rfl⟩:=aM.at_ (K:=m5) fH (j:=(k:Int)) (a:=x.sites[k]) ad al;have aj:=ae.bq g;have ak:=ae.bq aO;have o:H.get L=A (.row ro 4 els):=g;rw[cb]at e;rw[List.drop_eq_getElem_cons S,List.all_cons];have on:=RP (x:=x) (a:=a) (b:=b) (cc:=cc) (d:=d) (zX:=zX) O hlen Q U G M j (k+1) m;generalize x.sites[k]=z at*;have v:=au.push H (.row I 4 [[D F z.f,D F z.ty.b,D F z.ty.r,D F z.ty.d]]);have aT:=fB (show k<=1000000000 by omega)
  by_cases br:z.f<0
  ·simp-implicitDefEqProofs(disch:=try exact aW)only[oz,pW,reduceAdd,reduceLeDiff,reduceIte,eU,aO,aM.len fH,h,s,o,e,br,decide_true];grind[aD,jz]
  by_cases a1:(x.ay.length:Int)<=z.f
  ·simp-implicitDefEqProofs(disch:=try exact aW)only[oz,pW,reduceAdd,reduceLeDiff,reduceIte,eU,aO,aM.len fH,ax.len cD,h,s,o,e,br,a1,decide_true,decide_false];grind[aD,jz]
  simp-implicitDefEqProofs(disch:=try exact aW)only[oz,pW,reduceAdd,reduceLeDiff,reduceIte,eU,aO,aM.len fH,ax.len cD,h,s,o,e,br,a1,decide_true,decide_false];refine cT (zN (p.aB v) z.ty) λH1 u=> ?_
  have q:=v.trans u;have E:H1.get H.next=A (.row I 4 [[D F z.f,D F z.ty.b,D F z.ty.r,D F z.ty.d]]):=u.get (ae.a2 _ _)
  have aC:decide (0<=z.f/\z.f<(x.ay.length:Int))=true:=al;rw[jz,aC,Bool.true_and];cases am:eD x.b_.length z.ty with
  |false=>
   refine mX ?_;grind[aD]
  |true=>
   refine p8 E ?_;refine cT (FZ z.ty) λw V=> ?_
   have t:=q.trans V;cases ar:kH z.ty with
   |false=>
    refine mX ?_;grind[aD]
   |true=>
    refine p8 aT ?_;refine(on w ad ad (t.get aO) (p.aB t)).mono ?_;rintro r aa ⟨rfl,Y⟩;exact⟨aX,t.trans Y⟩
end
end
section
open Go.a_
set_option maxRecDepth 2000
section
variable {H:ae}{ok:Nat->Prop}
theorem Lt{x:bC}{l:List cM}{v:af}{a b cc d:af}{zX r:Nat}(ar:r<=1000000)(t:l.length<=1000000){L10:af->af->ae->O}{Q:af->ae->Prop}{N:Nat}:
  ∀(j k m:Nat) (H:ae),k+j=l.length->j<m->H.get zX=A (.row I 5 [[a,b,cc,d,D F x.main]])->cA H ok x (.agg [a,b,cc,d,D F x.main])->aH l1 H ok l v->
  ((l.drop k).all (eD x.b_.length)=I->∀H',au H H'->Q (C I) H')->((l.drop k).all (eD x.b_.length)=J->∀H',au H H'->W (L10 (.ptr zX 0 0) (D F ((r+1:Nat):Int)) H') Q)->
  W (rj (aK P aG) N L10 m (.ptr zX 0 0) (D F r) v (D F k) H) Q
 |_,_,0,_,_,w,_,_,_,_,_=>ad
 |0,k,m+1,H,u,_,aO,aE,f,o,dO=>by
  have E:¬(k:Int)<(l.length:Int):=ad;have:=dO al H (au.refl _);refine c_ @rj.eq_2 @tw.eq_1 @tz.eq_1 @eM.eq_1 (f.bg jo) ?_;omega
 |j+1,k,m+1,H,u,w,aO,aE,f,o,dO=>by
  have G:k<l.length:=ad;obtain⟨L,n,ro,els,B,z,_,g,e,s,rfl⟩:=f.at_ (K:=l1) jo (j:=(k:Int)) (a:=l[k]) ad al;have y:aI P H 46 (.ptr L n 1)=A (c3 l[k]):=hz (n:=3) (i:=n) (c:=1) aF aF g e bZ;refine bh @rj.eq_2 @tw.eq_1 ad @eM.eq_1 (f.bg jo) (ag z (ag y (cn aO))) ?_;refine bw (zN aE l[k]) λH1 h=> ?_
  cases M:eD x.b_.length l[k]with
  |false=>
   refine bN ?_;grind[aD,List.drop_eq_getElem_cons]
  |true=>
   refine bN ?_;refine Lt ar t j (k+1) m H1 ad ad (h.get aO) (aE.aB h) (f.aB h) (λq H' p=>o (by grind[List.drop_eq_getElem_cons]) H' (h.trans p)) λq H' p=>dO ?_ H' (h.trans p)
   grind[List.drop_eq_getElem_cons]
def nt(x:bC)(l:List cM):Bool:=decide (l.length<=8)&&l.all (eD x.b_.length)
theorem Px{x:bC}{a b cc d:af}{zX:Nat}(O:∀g∈x.ay,g.vars.length<=1000000000)(hlen:∀c∈x.ay,c.ins.length<=1000000000)(Q:x.ay.length<=1000000)(V:x.sites.length<=1000000)(U:x.b_.length<=1000000){N:Nat}(B:∀c∈x.ay,c.ins.length<N)(G:x.ay.length<N)(M:x.sites.length<N)(E:8<N):
  ∀(j k m:Nat) (H:ae),k+j=x.b_.length->j<m->H.get zX=A (.row I 5 [[a,b,cc,d,D F x.main]])->cA H ok x (.agg [a,b,cc,d,D F x.main])->
  W (pY (aK P aG) N m (.ptr zX 0 0) (D F k) H) λr H'=>r= C ((x.b_.drop k).all (nt x)&&(x.sites.all (jz x)&&(mq x x.ay 0&&(lV x x.ay 0&&jq x))))/\au H H'
 |_,_,0,_,_,T,_,_=>ad
 |0,k,m+1,H,R,_,aO,aE=>by
  have o:=aE;obtain⟨_,f,b1,b',v,w,h,ah,ai,ax,aM⟩:=aE;cases f;cases h;have i:¬(k:Int)<(x.b_.length:Int):=ad;rw[List.drop_of_length_le ad,List.all_nil,Bool.true_and];refine bh @pY.eq_2 @rh.eq_1 @ri.eq_1 ad @eM.eq_1 (ag (oc aO) (ah.bg fo)) ?_;grind[RP]
 |j+1,k,m+1,H,R,T,aO,aE=>by
  have o:=aE;obtain⟨_,f,b1,b',v,w,h,ah,ai,ax,aM⟩:=aE;cases f;cases h;have i:(k:Int)<(x.b_.length:Int):=ad;have S:k<x.b_.length:=ad;obtain⟨L,n,ro,els,ab,u,_,g,e,s,fv,rfl,aC⟩:=ah.at_ (K:=m4) fo (j:=(k:Int)) (a:=x.b_[k]) ad al;have t:aI P H 93 (.ptr L n 1)=A fv:=by
   have y:H.get L=A (.row ro 2 els):=g;exact sI y e
  rw[List.drop_eq_getElem_cons S,List.all_cons,nt];by_cases fY:(8:Int)<(x.b_[k].length:Int)
  ·simp-implicitDefEqProofs(disch:=try exact aW)only[pY,rh,ej,cV,dz,Nat.zero_add,eM,oc aO,ah.len fo,i,decide_true,u,t,aC.len jo,fY];grind[aD,au.refl]
  ·have z:decide (x.b_[k].length<=8)=true:=al;simp-implicitDefEqProofs(disch:=try exact aW)only[pY,rh,ej,cV,dz,Nat.zero_add,eM,oc aO,ah.len fo,i,decide_true,decide_false,u,t,aC.len jo,fY];rw[z,Bool.true_and];refine Lt (x:=x) (l:=x.b_[k]) ad ad x.b_[k].length 0 N H ad ad aO o aC (λq H' p=> ?_) λq H' p=> ?_
   ·grind
   ·rw[List.drop_zero]at q;refine(Px O hlen Q V U B G M E j (k+1) m H' ad ad (p.get aO) (o.aB p)).mono ?_;rintro r aa ⟨rfl,Y⟩;exact⟨al,p.trans Y⟩
theorem Mj(x:bC):∀(cs:List bT) (s f:Nat),s<=2500->(mq x cs s&&lV x cs f)=(decide (s+hl cs<=2500)&&kr x cs f)
 |[],s,f,h=>by simp[mq,lV,hl,kr,h]
 |c::cs,s,f,h=>by
  have aA:codeOk x f c=(head x c&&(c.ins.all (dY x f c)&&kx (k5 c.ins))):=by
   grind[codeOk,head]
  rw[mq,lV,hl,kr,aA];by_cases ah:s+c.ins.length<=2500
  ·have a:=Mj x cs (s+c.ins.length) (f+1) ah;grind
  grind
theorem ade(x:bC):(decide (x.b_.length<=12/\x.globals.length<=8/\1<=x.ay.length/\x.ay.length<=16/\x.sites.length<=60)&&(x.globals.all (eD x.b_.length)&&(x.b_.all (nt x)&&(x.sites.all (jz x)&&(mq x x.ay 0&&(lV x x.ay 0&&jq x))))))=right x:=by
 have h:=Mj x x.ay 0 0 ad;rw[Nat.zero_add]at h;have e:(mq x x.ay 0&&(lV x x.ay 0&&jq x))=(decide (hl x.ay<=2500)&&kr x x.ay 0&&jq x):=al;grind[nt,right]
theorem F1{x:bC}{v:af}(aE:cA H ok x v)(j:∀g∈x.ay,g.vars.length<=1000000000)(hlen:∀c∈x.ay,c.ins.length<=1000000000):W (aK P aG 24 [v] H) λr H'=>r= C (right x)/\au H H':=by
 obtain⟨_,rfl,a,b,cc,d,rfl,ah,ai,ax,aM⟩:=aE;refine aeL 1000000001 ?_;have e:=dV ah ai ax aM x.main;have f:=au.push H (.row I 5 [[a,b,cc,d,D F x.main]]);have aO:(H.push (.row I 5 [[a,b,cc,d,D F x.main]])).get H.next=A (.row I 5 [[a,b,cc,d,D F x.main]]):=ae.a2 _ _
 rw[<-ade];by_cases br:(12:Int)<(x.b_.length:Int)
 ·simp-implicitDefEqProofs(disch:=try exact aW)only[oy,reduceAdd,reduceLeDiff,reduceIte,eU,e,ah.len fo,br,decide_true];grind[aD]
 by_cases a1:(8:Int)<(x.globals.length:Int)
 ·simp-implicitDefEqProofs(disch:=try exact aW)only[oy,reduceAdd,reduceLeDiff,reduceIte,eU,e,ah.len fo,ai.len cS,br,a1,decide_true,decide_false];grind[aD]
 by_cases bd:(x.ay.length:Int)<1
 ·simp-implicitDefEqProofs(disch:=try exact aW)only[oy,reduceAdd,reduceLeDiff,reduceIte,eU,e,ah.len fo,ai.len cS,ax.len cD,br,a1,bd,decide_true,decide_false];grind[aD]
 by_cases bn:(16:Int)<(x.ay.length:Int)
 ·simp-implicitDefEqProofs(disch:=try exact aW)only[oy,reduceAdd,reduceLeDiff,reduceIte,eU,e,ah.len fo,ai.len cS,ax.len cD,br,a1,bd,bn,decide_true,decide_false];grind[aD]
 by_cases bI:(60:Int)<(x.sites.length:Int)
 ·simp-implicitDefEqProofs(disch:=try exact aW)only[oy,reduceAdd,reduceLeDiff,reduceIte,eU,e,ah.len fo,ai.len cS,ax.len cD,aM.len fH,br,a1,bd,bn,bI,decide_true,decide_false];grind[aD]
 rw[decide_eq_true ad,Bool.true_and];simp-implicitDefEqProofs(disch:=try exact aW)only[oy,reduceAdd,reduceLeDiff,reduceIte,eU,e,ah.len fo,ai.len cS,ax.len cD,aM.len fH,br,a1,bd,bn,bI,decide_true,decide_false];have i:cA (H.push (.row I 5 [[a,b,cc,d,D F x.main]])) ok x (.agg [a,b,cc,d,D F x.main]):=⟨_,rfl,a,b,cc,d,rfl,ah.aB f,ai.aB f,ax.aB f,aM.aB f⟩;refine cT (SE i (ai.aB f) ad) λH1 h=> ?_
 have q:=f.trans h;cases ba:x.globals.all (eD x.b_.length)with
 |false=>
  refine bN ?_;grind[aD]
 |true=>
  refine bN ?_;have key:=Px (x:=x) j hlen ad ad ad (N:=1000000001) al ad ad ad x.b_.length 0 1000000001 H1 ad ad (h.get aO) (i.aB h);refine key.mono ?_;rintro r l ⟨rfl,k⟩;exact⟨al,q.trans k⟩
end
end
section
set_option maxRecDepth 100000
set_option maxHeartbeats 4000000
noncomputable section
def lS(G:aq):g5 Tryz.f35 G:=⟨_,λN=>t1 an⟩
def afa(N:Nat):=en Tryz.func35 λG=>(lS G).2 N
def xi(G:aq)(N:Nat):hJ Tryz.f73 G N (·.aa.aa) (a8 Tryz.f73) []:=⟨_,v0 an⟩
def Cl(G:aq)(N:Nat)(L1:cg):dI 1 8 9 10 Tryz.f73 G N (·.aa.aj.aa.aj.aj.aa.aa.aa) (bI L1 1 8 9 10) [(0,(br (xi G N)))]:=⟨_,v4 an⟩
def Ck(G:aq)(N:Nat)(L1:cg)(L3:ec):gM 1 8 9 10 19 20 21 Tryz.f73 G N (·.aa.aj.aa.aj.aj.aa.aa.aj.aj.aa.aa.aa.aj.aj) (dp L3 1 8 9 10 19 20 21) [(2,(bI (Cl G N L1) 1 8 9 10)),(1,(bI (Cl G N L1) 1 8 9 10)),(0,(br (xi G N)))]:=⟨_,g2 an⟩
def xj(G:aq)(N:Nat)(L1:cg):Nat->ec
 |0=>kN
 |n+1=>Ck G N L1 (xj G N L1 n)
def xh(G:aq)(N:Nat)(L1:cg):dI 1 8 9 10 Tryz.f73 G N (·.aa.aj.aa.aj.aj) (bI L1 1 8 9 10) [(0,(br (xi G N)))]:=⟨_,v4 (ak (ak (ak ((Cl G N L1).2) (bj (ak (ak (ak (bj (bH (λm=>(Ck G N L1 (xj G N L1 m)).2))) an) an) an))) an) an)⟩
def tE(G:aq)(N:Nat):Nat->cg
 |0=>fq
 |n+1=>xh G N (tE G N n)
def HS(G:aq)(N:Nat):fM Tryz.f73 G N:=⟨_,t1 (ak (ak ((xi G N).2) (ak (bj (bH (λm=>(xh G N (tE G N m)).2))) an)) an)⟩
def afr(N:Nat):=en Tryz.func73 λG=>(HS G N).2
def HT(G:aq)(N:Nat):hJ Tryz.f74 G N (·.aa.aa) (a8 Tryz.f74) []:=⟨_,v0 an⟩
def Cn(G:aq)(N:Nat)(L1:cg):dI 2 7 8 9 Tryz.f74 G N (·.aa.aj.aa.aj.aj) (bI L1 2 7 8 9) [(0,(br (HT G N)))]:=⟨_,v4 an⟩
def xk(G:aq)(N:Nat):Nat->cg
 |0=>fq
 |n+1=>Cn G N (xk G N n)
def Cm(G:aq)(N:Nat):fW Tryz.f74 G N:=⟨_,t2 (ak (ak ((HT G N).2) (ak (bj (bH (λm=>(Cn G N (xk G N m)).2))) an)) an)⟩
def afs(N:Nat):=c1 Tryz.func74 λG=>(Cm G N).2
def HU(G:aq)(N:Nat):hJ Tryz.f75 G N (·.aa.aa) (a8 Tryz.f75) []:=⟨_,v0 an⟩
def Cp(G:aq)(N:Nat)(L1:cg):dI 1 6 7 8 Tryz.f75 G N (·.aa.aj.aa.aj.aj) (bI L1 1 6 7 8) [(0,(br (HU G N)))]:=⟨_,v4 an⟩
def xl(G:aq)(N:Nat):Nat->cg
 |0=>fq
 |n+1=>Cp G N (xl G N n)
def Co(G:aq)(N:Nat):fM Tryz.f75 G N:=⟨_,t1 (ak (ak ((HU G N).2) (ak (bj (bH (λm=>(Cp G N (xl G N m)).2))) an)) an)⟩
def aft(N:Nat):=en Tryz.func75 λG=>(Co G N).2
def HW(G:aq)(N:Nat):hJ Tryz.f76 G N (·.aa.aa.aa) (a8 Tryz.f76) []:=⟨_,v0 an⟩
def xm(G:aq)(N:Nat)(L1:cx):eY 1 3 7 8 9 Tryz.f76 G N (·.aa.aa.aj.aa.aj.aj) (bY L1 1 3 7 8 9) [(0,(br (HW G N)))]:=⟨_,v5 an⟩
def tF(G:aq)(N:Nat):Nat->cx
 |0=>hH
 |n+1=>xm G N (tF G N n)
def HV(G:aq)(N:Nat):fM Tryz.f76 G N:=⟨_,t1 (ak (ak (ak ((HW G N).2) (ak (bj (bH (λm=>(xm G N (tF G N m)).2))) an)) an) an)⟩
def afu(N:Nat):=en Tryz.func76 λG=>(HV G N).2
def ny(G:aq):r3 2 3 Tryz.f124 G (·.aa.aa.aa) (a8 Tryz.f124) []:=⟨_,λN=>v2 an⟩
def pQ(G:aq):jG 2 3 15 Tryz.f124 G (·.aa.aa.aj.aa.aj.aa) (bd (ny G) 2 3) [(0,(bd (ny G) 2 3))]:=⟨_,λN=>v3 an⟩
def ox(G:aq):eO Tryz.f124 G:=⟨_,λN=>t2 (ak (ak (ak ((ny G).2 N) (ak (bj (ak ((pQ G).2 N) an)) an)) an) an)⟩
def adK(N:Nat):=c1 Tryz.func124 λG=>(ox G).2 N
def s4(G:aq)(N:Nat):eJ 5 Tryz.f126 G N (·.aa.aa.aa.aa.aa) (a8 Tryz.f126) []:=⟨_,v1 an⟩
def Ax(G:aq)(N:Nat)(L1:cy):fD 1 2 5 70 71 72 Tryz.f126 G N (·.aa.aa.aa.aa.aj.aa.aj.aj) (ch L1 1 2 5 70 71 72) [(0,(a1 (s4 G N) 5))]:=⟨_,v6 an⟩
def s5(G:aq)(N:Nat):Nat->cy
 |0=>ir
 |n+1=>Ax G N (s5 G N n)
def Gi(G:aq)(N:Nat):fW Tryz.f126 G N:=⟨_,qz (ak (ak (ak (ak (ak ((s4 G N).2) (ak (bj (bH (λm=>(Ax G N (s5 G N m)).2))) an)) an) an) an) an) (x:=trivial)⟩
def adM(N:Nat):=c1 Tryz.func126 λG=>(Gi G N).2
def GD(G:aq):uf Tryz.f167 G:=⟨_,λN=>t0 an⟩
def ad8(N:Nat):=F7 Tryz.func167 λG=>(GD G).2 N
def GF(G:aq):jH Tryz.f168 G:=⟨_,λN=>uA an (x:=trivial)⟩
def ad9(N:Nat):=hC Tryz.func168 λG=>(GF G).2 N
def fT(G:aq):W0 Tryz.f217 G (·.aa.aa) (a8 Tryz.f217) []:=⟨_,λN=>v0 an⟩
def hT(G:aq):jG 1 4 29 Tryz.f217 G (·.aa.aj.aa.aj.aa.aa.aa.aa.aa.aa.aa.aa.aa) (br (fT G)) [(0,(br (fT G)))]:=⟨_,λN=>v3 an⟩
def hS(G:aq):jG 1 4 24 Tryz.f217 G (·.aa.aj.aa.aj.aa.aa.aa.aa.aa.aa.aa) (br (fT G)) [(0,(br (fT G)))]:=⟨_,λN=>v3 (c4 an (ak ((hT G).2 N) an))⟩
def hR(G:aq):jG 1 4 19 Tryz.f217 G (·.aa.aj.aa.aj.aa.aa.aa.aa.aa) (br (fT G)) [(0,(br (fT G)))]:=⟨_,λN=>v3 (c4 an (ak ((hS G).2 N) an))⟩
def hQ(G:aq):jG 1 4 12 Tryz.f217 G (·.aa.aj.aa.aj.aa.aa.aa) (br (fT G)) [(0,(br (fT G)))]:=⟨_,λN=>v3 (c4 an (ak ((hR G).2 N) an))⟩
def hP(G:aq):jG 1 4 5 Tryz.f217 G (·.aa.aj.aa.aj.aa) (br (fT G)) [(0,(br (fT G)))]:=⟨_,λN=>v3 (c4 an (ak ((hQ G).2 N) an))⟩
def hE(G:aq):g5 Tryz.f217 G:=⟨_,λN=>t1 (ak (ak ((fT G).2 N) (ak (bj (ak ((hP G).2 N) an)) an)) an)⟩
def aeA(N:Nat):=en Tryz.func217 λG=>(hE G).2 N
def G9(G:aq):g5 Tryz.f218 G:=⟨_,λN=>o1 an⟩
def aeB(N:Nat):=en Tryz.func218 λG=>(G9 G).2 N
def fz(G:aq):Ji Tryz.f240 G:=⟨_,λN=>t5 an⟩
def oq(N:Nat):=PW Tryz.func240 λG=>(fz G).2 N
def Hk(G:aq):eO Tryz.f241 G:=⟨_,λN=>t2 an⟩
def aeM(N:Nat):=c1 Tryz.func241 λG=>(Hk G).2 N
def Hl(G:aq):eO Tryz.f242 G:=⟨_,λN=>t2 an⟩
def aeN(N:Nat):=c1 Tryz.func242 λG=>(Hl G).2 N
def wD(G:aq):eO Tryz.f243 G:=⟨_,λN=>t2 an⟩
def aeO(N:Nat):=c1 Tryz.func243 λG=>(wD G).2 N
def Hn(G:aq)(N:Nat):eJ 4 Tryz.f244 G N (·.aa.aa) (a8 Tryz.f244) []:=⟨_,qA an⟩
def BA(G:aq)(N:Nat)(L1:cx):eY 3 4 9 10 11 Tryz.f244 G N (·.aa.aj.aa.aj.aj) (bY L1 3 4 9 10 11) [(0,(a1 (Hn G N) 4))]:=⟨_,ng an⟩
def wE(G:aq)(N:Nat):Nat->cx
 |0=>hH
 |n+1=>BA G N (wE G N n)
def Hm(G:aq)(N:Nat):m_ Tryz.f244 G N:=⟨_,t3 (ak (ak ((Hn G N).2) (ak (bj (bH (λm=>(BA G N (wE G N m)).2))) an)) an)⟩
def aeP(N:Nat):=hC Tryz.func244 λG=>(Hm G N).2
def nz(G:aq):W0 Tryz.f245 G (·.aa.aa.aa) (a8 Tryz.f245) []:=⟨_,λN=>v0 an⟩
def BB(G:aq):jG 1 3 59 Tryz.f245 G (·.aa.aa.aj.aa.aj.aa.aa.aa.aa.aa.aa.aa) (br (nz G)) [(0,(br (nz G)))]:=⟨_,λN=>v3 an⟩
def tt(G:aq):nT 1 3 7 40 Tryz.f245 G (·.aa.aa.aj.aa.aj.aa.aa.aa.aa.aa) (br (nz G)) [(0,(br (nz G)))]:=⟨_,λN=>lI (c4 an (ak ((BB G).2 N) an)) (x:=trivial)⟩
def pV(G:aq):nT 1 3 7 23 Tryz.f245 G (·.aa.aa.aj.aa.aj.aa.aa.aa) (br (nz G)) [(0,(br (nz G)))]:=⟨_,λN=>v4 (c4 an (ak ((tt G).2 N) an))⟩
def lg(G:aq):nT 1 3 7 8 Tryz.f245 G (·.aa.aa.aj.aa.aj.aa) (br (nz G)) [(0,(br (nz G)))]:=⟨_,λN=>v4 (c4 an (ak ((pV G).2 N) an))⟩
def Ho(G:aq):g5 Tryz.f245 G:=⟨_,λN=>t1 (ak (ak (ak ((nz G).2 N) (ak (bj (ak ((lg G).2 N) an)) an)) an) an)⟩
def aeQ(N:Nat):=en Tryz.func245 λG=>(Ho G).2 N
def Hp(G:aq):r7 Tryz.f246 G:=⟨_,λN=>Wc an (x:=trivial)⟩
def aeR(N:Nat):=om Tryz.func246 λG=>(Hp G).2 N
def Hq(G:aq):jH Tryz.f247 G:=⟨_,λN=>t3 an⟩
def aeS(N:Nat):=hC Tryz.func247 λG=>(Hq G).2 N
def tv(G:aq):jH Tryz.f248 G:=⟨_,λN=>uA an (x:=trivial)⟩
def aeT(N:Nat):=hC Tryz.func248 λG=>(tv G).2 N
def lQ(G:aq):r3 1 3 Tryz.f249 G (·.aa.aa.aa) (a8 Tryz.f249) []:=⟨_,λN=>v2 an⟩
def nA(G:aq):nT 1 3 7 12 Tryz.f249 G (·.aa.aa.aj.aa.aj.aa.aa.aa) (bd (lQ G) 1 3) [(0,(bd (lQ G) 1 3))]:=⟨_,λN=>v4 an⟩
def Hr(G:aq):g5 Tryz.f249 G:=⟨_,λN=>t1 (ak (ak (ak ((lQ G).2 N) (ak (bj (ak (c4 an (ak ((nA G).2 N) an)) an)) an)) an) an)⟩
def aeU(N:Nat):=en Tryz.func249 λG=>(Hr G).2 N
def tB(G:aq)(N:Nat):eh 1 3 4 Tryz.f258 G N (·.aa.aa.aa.aa.aa.aa) (a8 Tryz.f258) []:=⟨_,v3 an⟩
def BF(G:aq)(N:Nat)(L1:cy):fD 1 3 4 43 44 45 Tryz.f258 G N (·.aa.aa.aa.aa.aa.aj.aa.aj.aj) (ch L1 1 3 4 43 44 45) [(0,(bn (tB G N) 1 3 4))]:=⟨_,o2 an⟩
def wK(G:aq)(N:Nat):Nat->cy
 |0=>ir
 |n+1=>BF G N (wK G N n)
def Hw(G:aq)(N:Nat):fM Tryz.f258 G N:=⟨_,t1 (ak (ak (ak (ak (ak (ak ((tB G N).2) (ak (bj (bH (λm=>(BF G N (wK G N m)).2))) an)) an) an) an) an) an)⟩
def ae0(N:Nat):=en Tryz.func258 λG=>(Hw G N).2
def BG(G:aq):eO Tryz.f259 G:=⟨_,λN=>t2 an⟩
def ae1(N:Nat):=c1 Tryz.func259 λG=>(BG G).2 N
def wL(G:aq):jH Tryz.f260 G:=⟨_,λN=>uA an (x:=trivial)⟩
def ae2(N:Nat):=hC Tryz.func260 λG=>(wL G).2 N
def Gh(G:aq):g5 Tryz.f125 G:=⟨_,λN=>t1 an⟩
def adL(N:Nat):=en Tryz.func125 λG=>(Gh G).2 N
end
end
section
open Go.a_
set_option maxRecDepth 2000
section
variable {H:ae}{ok:Nat->Prop}
def FA:W (aK P aG 167 [] H) λr H'=>r=c3 bt/\au H H':=by
 refine ad8 0 ?_;refine p8 @GD.eq_1 ?_;exact aD.2 ⟨rfl,(au.refl _).eI _⟩
def EI(t:cM):W (aK P aG 125 [c3 t] H) λr H'=>r= C (kH t)/\au H H':=by
 refine adL 0 ?_;refine oC @Gh.eq_1 @j9 @cb.eq_1 ?_;cases a:(t.b==3)with
 |true=>
  refine mX ?_;exact aD.2 ⟨by simp[kH,a],(au.refl _).eI _⟩
 |false=>
  refine mX ?_;exact aD.2 ⟨by simp[kH,a],(au.refl _).eI _⟩
theorem zk{x:bC}{v:af}(aE:cA H ok x v)(t:cM):W (aK P aG 124 [v,c3 t] H) λr H'=>r= C (eD x.b_.length t)/\au H H':=by
 obtain⟨_,rfl,a,b,c,d,rfl,ah,ai,ax,aM⟩:=aE;refine adK 0 ?_;have k:au H ((H.push (.row I 5 [[a,b,c,d,D F x.main]])).push (.row I 3 [[D F t.b,D F t.r,D F t.d]])):=((au.refl _).eI _).eI _;unfold eD;by_cases e:t.d<0
 ·refine gm @ny.eq_1 @pQ.eq_1 @ox.eq_1 @j9 @cb.eq_1 (ag (dV ah ai ax aM) e) ?_;grind[aD]
 ·by_cases f:3<t.d
  ·refine gm @ny.eq_1 @pQ.eq_1 @ox.eq_1 @j9 @cb.eq_1 (ag (dV ah ai ax aM) (ag e f)) ?_;grind[aD]
  ·have j:decide (0<=t.d/\t.d<=3)=true:=al;rw[j];cases g:(t.b==1)with
   |true=>
    refine gm @ny.eq_1 @pQ.eq_1 @ox.eq_1 @j9 @cb.eq_1 (ag (dV ah ai ax aM) (ag e (ag f g))) ?_;grind[aD]
   |false=>
    cases h:(t.b==2)with
    |true=>
     refine gm @ny.eq_1 @pQ.eq_1 @ox.eq_1 @j9 @cb.eq_1 (ag (dV ah ai ax aM) (ag e (ag f (ag g h)))) ?_;grind[aD]
    |false=>
     cases i:(t.b==3)with
     |true=>
      by_cases ar:0<=t.r
      ·refine gm @ny.eq_1 @pQ.eq_1 @ox.eq_1 @j9 @cb.eq_1 (ag (dV ah ai ax aM) (ag e (ag f (ag g (ag h (ag i (ag ar (ah.bg fo)))))))) ?_;grind[aD]
      ·refine gm @ny.eq_1 @pQ.eq_1 @ox.eq_1 @j9 @cb.eq_1 (ag (dV ah ai ax aM) (ag e (ag f (ag g (ag h (ag i ar)))))) ?_;grind[aD]
     |false=>
      refine gm @ny.eq_1 @pQ.eq_1 @ox.eq_1 @j9 @cb.eq_1 (ag (dV ah ai ax aM) (ag e (ag f (ag g (ag h i))))) ?_;grind[aD]
end
end
section
open Go.a_
set_option maxRecDepth 2000
section
variable {H:ae}{ok:Nat->Prop}
theorem MH{x:bC}{l:List cM}{v:af}{a b cc d:af}{zX:Nat}(h:l.length<=1000000000){N:Nat}:∀(j k m:Nat) (H:ae),k+j=l.length->j<m->aH e_ H ok l v->H.get zX=A (.row I 5 [[a,b,cc,d,D F x.main]])->cA H ok x (.agg [a,b,cc,d,D F x.main])->
  W (xk (aK P aG) N m (.ptr zX 0 0) v (D F l.length) (D F k) H) λr H'=>r= C ((l.drop k).all (eD x.b_.length))/\au H H'
 |_,_,0,_,_,hm,_,_,_=>ad
 |0,k,m+1,H,i,_,aw,aO,aE=>by
  have B:¬(k:Int)<(l.length:Int):=ad;refine yd @HT.eq_1 @Cn.eq_1 @xk.eq_2 @Cm.eq_1 ?_;grind[aD,au.refl]
 |j+1,k,m+1,H,i,hm,aw,aO,aE=>by
  have o:k<l.length:=ad;obtain⟨L,n,ro,els,w,t,_,g,e,rfl⟩:=aw.at_ (K:=e_) cS (j:=(k:Int)) (a:=l[k]) ad al;have y:=ae.bq g;have z:=ae.bq aO;have f:H.get L=A (.row ro 3 els):=g;rw[cb]at e;have on:=MH (x:=x) (l:=l) (v:=v) (a:=a) (b:=b) (cc:=cc) (d:=d) (zX:=zX) h (N:=N) j (k+1) m;rw[List.drop_eq_getElem_cons o,List.all_cons];have c:=au.push H (.row I 3 [cb l[k]]);refine gm @xk.eq_2 @Cn.eq_1 t f e aO ?_;refine bw (zk (aE.aB c) l[k]) λH1 p=> ?_
  have q:=c.trans p;cases E:eD x.b_.length l[k]with
  |false=>
   refine bN ?_;grind[aD]
  |true=>
   refine bN ?_;refine(on H1 ad ad (aw.aB q) (q.get aO) (aE.aB q)).mono ?_;rintro r u ⟨rfl,s⟩;exact⟨aX,q.trans s⟩
def MI{x:bC}{l:List cM}{v w:af}(aE:cA H ok x v)(aw:aH e_ H ok l w)(e:l.length<=1000000000):W (aK P aG 74 [v,w] H) λr H'=>r= C (l.all (eD x.b_.length))/\au H H':=by
 obtain⟨_,rfl,a,b,cc,d,rfl,ah,ai,ax,aM⟩:=aE;refine afs (l.length+1) ?_;have c:=au.push H (.row I 5 [[a,b,cc,d,D F x.main]]);refine cv @Cm.eq_1 @eM.eq_1 (dV ah ai ax aM) (aw.bg cS) ?_;refine(MH (x:=x) e l.length 0 (l.length+1) _ ad ad (aw.aB c) (ae.a2 _ _) ⟨_,rfl,a,b,cc,d,rfl,ah.aB c,ai.aB c,ax.aB c,aM.aB c⟩).mono ?_;rintro r g ⟨rfl,f⟩;exact⟨aX,c.trans f⟩
theorem MD{x:bC}{a b cc d:af}{zX:Nat}(B:x.sites.length<=1000000000){N:Nat}:∀(j k m:Nat) (H:ae),k+j=x.sites.length->j<m->H.get zX=A (.row I 5 [[a,b,cc,d,D F x.main]])->cA H ok x (.agg [a,b,cc,d,D F x.main])->
  W (xl (aK P aG) N m (.ptr zX 0 0) d (D F x.sites.length) (D F k) H) λr H'=>r= C ((x.sites.drop k).all (jz x))/\au H H'
 |_,_,0,_,_,hm,_,_=>ad
 |0,k,m+1,H,E,_,aO,aE=>by
  have Y:¬(k:Int)<(x.sites.length:Int):=ad;refine yd @HU.eq_1 @Cp.eq_1 @xl.eq_2 @Co.eq_1 ?_;grind[aD,au.refl]
 |j+1,k,m+1,H,E,hm,aO,aE=>by
  have o:=aE;obtain⟨_,v,b1,b',R,T,w,ah,ai,ax,aM⟩:=aE;cases v;cases w;have G:k<x.sites.length:=ad;obtain⟨L,n,ro,els,S,O,_,g,e,rfl⟩:=aM.at_ (K:=m5) fH (j:=(k:Int)) (a:=x.sites[k]) ad al;have U:=ae.bq g;have V:=ae.bq aO;have y:H.get L=A (.row ro 4 els):=g;rw[cb]at e;have on:=MD (x:=x) (a:=a) (b:=b) (cc:=cc) (d:=d) (zX:=zX) B (N:=N) j (k+1) m;rw[List.drop_eq_getElem_cons G,List.all_cons];generalize x.sites[k]=z at*;have t:=au.push H (.row I 4 [[D F z.f,D F z.ty.b,D F z.ty.r,D F z.ty.d]]);have aT:=fB (show k<=1000000000 by omega);refine gm @xl.eq_2 @Cp.eq_1 O y e aO ?_
  refine bw (zk (o.aB t) z.ty) λH1 p=> ?_
  have q:=t.trans p;have l:H1.get H.next=A (.row I 4 [[D F z.f,D F z.ty.b,D F z.ty.r,D F z.ty.d]]):=p.get (ae.a2 _ _)
  cases aa:eD x.b_.length z.ty with
  |false=>
   refine mX ?_;grind[aD,jz]
  |true=>
   refine p8 l ?_;refine cT (EI z.ty) λu s=> ?_
   have i:=q.trans s;have h:=s.get l;have c:=i.get aO;cases ar:kH z.ty with
   |false=>
    refine mX ?_;grind[aD,jz]
   |true=>
    by_cases br:z.f<0
    ·simp-implicitDefEqProofs(disch:=try exact aW)only[reduceAdd,reduceLeDiff,reduceIte,eU,Bool.not_true,h,br,decide_true];grind[aD,jz]
    by_cases a1:(x.ay.length:Int)<=z.f
    ·simp-implicitDefEqProofs(disch:=try exact aW)only[reduceAdd,reduceLeDiff,reduceIte,eU,Bool.not_true,h,c,ax.len cD,br,a1,decide_true,decide_false];grind[aD,jz]
    have aC:decide (0<=z.f/\z.f<(x.ay.length:Int))=true:=al;simp-implicitDefEqProofs(disch:=try exact aW)only[reduceAdd,reduceLeDiff,reduceIte,eU,Bool.not_true,h,c,ax.len cD,br,a1,decide_false,aT];refine(on u ad ad c (o.aB i)).mono ?_;rintro r Q ⟨rfl,M⟩;exact⟨by grind[jz],i.trans M⟩
def ZS{x:bC}{v:af}(aE:cA H ok x v)(e:x.sites.length<=1000000000):W (aK P aG 75 [v] H) λr H'=>r= C (x.sites.all (jz x))/\au H H':=by
 obtain⟨_,rfl,a,b,cc,d,rfl,ah,ai,ax,aM⟩:=aE;refine aft (x.sites.length+1) ?_;have c:=au.push H (.row I 5 [[a,b,cc,d,D F x.main]]);refine bh @Co.eq_1 ad @eM.eq_1 (dV ah ai ax aM) (oc (ae.a2 H (.row I 5 [[a,b,cc,d,D F x.main]]))) (aM.bg fH) ?_;refine(MD (x:=x) e x.sites.length 0 (x.sites.length+1) _ ad ad (ae.a2 _ _) ⟨_,rfl,a,b,cc,d,rfl,ah.aB c,ai.aB c,ax.aB c,aM.aB c⟩).mono ?_;rintro r g ⟨rfl,f⟩;exact⟨aX,c.trans f⟩
