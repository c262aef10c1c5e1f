/-
  Texts of one proof, laid together: Ne Nf Ng Nh Ni ShB Oa Ob.
-/
import Derived.Test.YtmhhnnklfcbgfaaGreatMG
set_option linter.unusedVariables false
set_option linter.unusedSimpArgs false
set_option linter.defProp false
open Option renaming some→A
open Bool renaming true→J,false→I
open Go.cv.af renaming int→D,bool→C
open Go.IntKind renaming i64→F
namespace Go.Proofs.YtmhhnnklfcbgfaaGreat
open Go.cv
open Nat (reduceAdd reduceLeDiff)
section
open Go.a2
set_option maxRecDepth 2000
def aI.rd{α:Type}{K:e0 α}{H:ae}{ok:Nat->Prop}{l:List α}{v:af}(h:aI K H ok l v):af.beq v v=true:=by
 rcases h with⟨rfl,_⟩|⟨L,i,cap,ro,els,rfl,_⟩|⟨L,i,cap,rfl,_⟩<;>simp[af.beq]
section
variable {H:ae}{ok:Nat->Prop}
def cL(c:bQ)(v w:af):List af:=[D F c.params,v,C c.has,D F c.res.b,D F c.res.r,D F c.res.d,w]
def vl(i:In)(v:af):List af:=[D F i.op,D F i.a,D F i.b,D F i.c,D F i.n,v]
def lu{H:ae}{c:bQ}{v w:af}{L:Nat}(h:H.get L=A (.row I 7 [cL c v w])):aJ P H 49 (.ptr L 0 0)=A (.agg (cL c v w)):=
 hA (n:=7) (i:=0) (c:=0) aG aG h rfl b0
def GR{c:bQ}{v w:af}(ah:aI fc H ok c.vars v)(ai:aI fJ H ok c.ins w):bG (A (.agg (cL c v w))) (.agg (cL c v w))=true:=by
 simp[bG,cL,af.beq,e9.beq,ah.rd,ai.rd]
def dD{α:Type}{K:e0 α}{l:List α}{v:af}(h:aI K H ok l v):bG (A v) v=true:=h.rd
def sQ(c g:bQ)(i:In):Bool:=i.a== -1||(g.has&&decide (a7 c i.a≠bw/\a7 c i.a=g.res))
theorem Wl{c g:bQ}{i:In}{c9 k t u wi:af}{zC zI G:Nat}(gc:H.get zC=A (.row I 7 [cL c c9 k]))(q:H.get zI=A (.row I 6 [vl i wi]))(o:H.get G=A (.row I 7 [cL g t u]))
  (ah:aI fc H ok c.vars c9) (ai:aI fJ H ok c.ins k) (s:c.vars.length<=1000000000) {N:Nat}:
  W (wb (aK P aD) N (.ptr zC 0 0) (.ptr zI 0 0) (.ptr G 0 0) H) λr H'=>r= C (sQ c g i)/\aw H H':=by
 have h:=q;rw[vl]at h;cases m:(i.a== -1)with
 |true=>
  refine gE @wb.eq_1 @tD.eq_1 @rI.eq_2 @m_.eq_1 h m ?_;grind[aE,sQ,aw.refl]
 |false=>
  have l:=gc;rw[cL]at l;refine gE @wb.eq_1 @tD.eq_1 @rI.eq_2 @m_.eq_1 h (ag l m) ?_;refine bz (vG ⟨_,rfl,c9,k,rfl,ah,ai⟩ i.a s) λK p=> ?_
  have e:=p.get o;rw[cL]at e;have v:=ae.bm e;have j:aw H (K.push (.row I 3 [cj (a7 c i.a)])):=p.eO _;have aL:∀z,bx P .neq 46 z (.agg [D F (a7 c i.a).b,D F (a7 c i.a).r,D F (a7 c i.a).d]) (.agg [D F 0,D F 0,D F 0])=A (C (decide (a7 c i.a≠bw))):=λz=>iW _ bw z
  have he:∀z,bx P .eql 46 z (.agg [D F (a7 c i.a).b,D F (a7 c i.a).r,D F (a7 c i.a).d]) (.agg [D F g.res.b,D F g.res.r,D F g.res.d])=A (C (decide (a7 c i.a=g.res))):=λz=>dC _ g.res z
  cases n:g.has with
  |false=>
   rw[n]at e;refine o7 @c8.eq_1 @cj.eq_1 e ?_;exact aE.2 ⟨by grind[sQ],j⟩
  |true=>
   rw[n]at e;by_cases w:a7 c i.a=bw
   ·have f:decide (a7 c i.a≠bw)=false:=al;refine yX @c8.eq_1 @cj.eq_1 e aL f ?_;exact aE.2 ⟨by grind[sQ],j⟩
   ·have f:decide (a7 c i.a≠bw)=true:=al;refine gE @c8.eq_1 @cj.eq_1 e aL he f ?_;exact aE.2 ⟨by grind[sQ],j⟩
theorem Le{c g:bQ}{i:In}{c9 M S ao wi:af}{zC zI G:Nat}(B:c.vars.length<=1000000000)(V:g.vars.length<=1000000000)(ad:i.args.length<=g.vars.length){N:Nat}:∀(j k m:Nat) (H:ae),k+j=i.args.length->j<m->H.get zC=A (.row I 7 [cL c c9 M])->H.get zI=A (.row I 6 [vl i wi])->H.get G=A (.row I 7 [cL g S ao])->
  aI fc H ok c.vars c9->aI fJ H ok c.ins M->aI fc H ok g.vars S->aI aN H ok i.args wi->
  W (rI (aK P aD) N m (.ptr zC 0 0) (.ptr zI 0 0) (.ptr G 0 0) (D F k) H) λr H'=>r= C (lg c g (i.args.drop k) k&&sQ c g i)/\aw H H'
 |_,_,0,_,_,hm,_,_,_,_,_,_,_=>aa
 |0,k,m+1,H,ab,_,gc,q,u,ah,ai,ay,aM=>by
  have E:¬(k:Int)<(i.args.length:Int):=aa;have l:=q;rw[vl]at l;rw[List.drop_of_length_le aa,lg,Bool.true_and];have e:=Wl (i:=i) (g:=g) gc q u ah ai B (N:=N);simp-implicitDefEqProofs(disch:=try exact aY)only[tD,rI,m_,reduceAdd,reduceLeDiff,reduceIte,e3,l,aM.len bV,E,decide_false];exact e
 |j+1,k,m+1,H,ab,hm,gc,q,u,ah,ai,ay,aM=>by
  have E:(k:Int)<(i.args.length:Int):=aa;have aj:k<i.args.length:=aa;have aA:k<g.vars.length:=aa;have l:=q;rw[vl]at l;have o:=gc;rw[cL]at o;obtain⟨L,n,ro,els,ar,am,_,U,e,rfl⟩:=aM.at_ (K:=aN) bV (j:=(k:Int)) (a:=i.args[k]) aa al;have t:H.get L=A (.row ro 1 els):=U;simp-implicitDefEqProofs(disch:=try exact aY)only[tD,rI,m_,reduceAdd,reduceLeDiff,reduceIte,e3,l,o,aM.len bV,E,decide_true,am,t,e];refine bz (vG ⟨_,rfl,c9,M,rfl,ah,ai⟩ i.args[k] B) λK p=> ?_
  have v:=p.get u;rw[cL]at v;have av:=ae.bm v;have f:aw H (K.push (.row I 3 [cj (a7 c i.args[k])])):=p.eO _;have w:=GR ah ai;rw[cL]at w;obtain⟨L2,aF,an,T,au,R,_,O,x,rfl⟩:=(ay.aC p).at_ (K:=fc) cW (j:=(k:Int)) (a:=g.vars[k]) aa al;have Q:K.get L2=A (.row an 3 T):=O;have ax:=ae.bm O;rw[cj]at x;have aL:∀z,bx P .neq 46 z (.agg [D F (a7 c i.args[k]).b,D F (a7 c i.args[k]).r,D F (a7 c i.args[k]).d]) (.agg [D F g.vars[k].b,D F g.vars[k].r,D F g.vars[k].d])=A (C (decide (a7 c i.args[k]≠g.vars[k]))):=λz=>iW _ g.vars[k] z
  have he:∀z,bx P .eql 46 z (.agg [D F (a7 c i.args[k]).b,D F (a7 c i.args[k]).r,D F (a7 c i.args[k]).d]) (.agg [D F 0,D F 0,D F 0])=A (C (decide (a7 c i.args[k]=bw))):=λz=>dC _ bw z
  rw[List.drop_eq_getElem_cons aj,lg];have Y:g.vars[k]? =A g.vars[k]:=al;rw[Y];by_cases aB:a7 c i.args[k]=bw
  ·have s:decide (a7 c i.args[k]=bw)=true:=al;refine gE l o t e w (ag (dD aM) (ag @c8.eq_1 (ag @cj.eq_1 (ag he s)))) ?_;exact aE.2 ⟨al,f⟩
  ·have s:decide (a7 c i.args[k]=bw)=false:=al;by_cases aH:a7 c i.args[k]=g.vars[k]
   ·have y:decide (a7 c i.args[k]≠g.vars[k])=false:=al;refine gE l o t e w (ag (dD aM) (ag @c8.eq_1 (ag @cj.eq_1 (ag he (ag aL (ag s (ag y (ag v (ag R (ag Q x)))))))))) ?_;have:=Le B V ad (N:=N) j (k+1) m (K.push (.row I 3 [cj (a7 c i.args[k])])) aa aa (f.get gc) (f.get q) (f.get u) (ah.aC f) (ai.aC f) (ay.aC f) (aM.aC f);refine this.mono ?_;rintro r ap ⟨rfl,ak⟩;refine⟨?_,f.trans ak⟩;grind
   ·have y:decide (a7 c i.args[k]≠g.vars[k])=true:=al;refine gE l o t e w (ag (dD aM) (ag @c8.eq_1 (ag @cj.eq_1 (ag he (ag aL (ag s (ag y (ag v (ag R (ag Q x)))))))))) ?_;refine aE.2 ⟨?_,f⟩;have:¬g.vars[k]=a7 c i.args[k]:=λh=>aH h.symm
    simp[this]
theorem Wm{x:bq}{c:bQ}{i:In}{v c9 z:af}(aF:cE H ok x v)(aA:J0 H ok c c9)(aP:zb H ok i z)(M:c.vars.length<=1000000000)(O:∀g∈x.ax,g.vars.length<=1000000000):W (aK P aD 110 [v,c9,z] H) λr H'=>r= C (mI x c i)/\aw H H':=by
 obtain⟨_,rfl,a,b,cc,d,rfl,ah,ai,ay,aM⟩:=aF;obtain⟨_,rfl,b6,ww,rfl,a6,bd⟩:=aA;obtain⟨_,rfl,wi,rfl,i1⟩:=aP;refine aeX (i.args.length+1) ?_;have f:=dQ ah ai ay aM x.main;have h:=E2 a6 bd c.params c.res.b c.res.r c.res.d c.has;have k:=zB i1 i.op i.a i.b i.c i.n;have T:=(((aw.refl H).eO (.row I 5 [[a,b,cc,d,D F x.main]])).eO (.row I 7 [[D F c.params,b6,C c.has,D F c.res.b,D F c.res.r,D F c.res.d,ww]])).eO (.row I 6 [[D F i.op,D F i.a,D F i.b,D F i.c,D F i.n,wi]]);by_cases l:i.c<0
 ·simp-implicitDefEqProofs(disch:=try exact aY)only[m_,reduceAdd,reduceLeDiff,reduceIte,e3,f,h,k,l,decide_true];grind[aE,mI,gz]
 by_cases bS:(x.ax.length:Int)<=i.c
 ·simp-implicitDefEqProofs(disch:=try exact aY)only[m_,reduceAdd,reduceLeDiff,reduceIte,e3,f,h,k,l,bS,ay.len cG,decide_true,decide_false];grind[aE,mI,gz]
 have R:i.c.toNat<x.ax.length:=aa;have aR:eR x.ax i.c=A x.ax[i.c.toNat]:=by grind[jW]
 obtain⟨L,n,ro,els,Y,u,_,g,e,gv,gw,rfl,m,E⟩:=ay.at_ (K:=fO) cG (j:=i.c) (a:=x.ax[i.c.toNat]) aa al;have Q:=O _ (List.getElem_mem R);generalize x.ax[i.c.toNat]=G at*;have ab:=ae.bm g;have p:H.get L=A (.row ro 7 els):=g;have q:=m.one;have s:=E.one;have o:=T.eO (.row I 7 [[D F G.params,gv,C G.has,D F G.res.b,D F G.res.r,D F G.res.d,gw]]);rw[mI,aR];simp only[];have bad:¬(0<=G.params/\G.params<=G.vars.length/\(i.args.length:Int)=G.params)->(decide (0<=G.params/\G.params<=G.vars.length/\(i.args.length:Int)=G.params)&&(lg c G i.args 0&&(i.a== -1||G.has&&decide (a7 c i.a≠bw/\a7 c i.a=G.res))))=false:=al
 by_cases t:G.params<0
 ·simp-implicitDefEqProofs(disch:=try exact aY)only[m_,reduceAdd,reduceLeDiff,reduceIte,e3,f,h,k,l,bS,ay.len cG,u,p,e,q,s,t,decide_true,decide_false];grind[aE]
 by_cases y:(G.vars.length:Int)<G.params
 ·simp-implicitDefEqProofs(disch:=try exact aY)only[m_,reduceAdd,reduceLeDiff,reduceIte,e3,f,h,k,l,bS,ay.len cG,m.len cW,u,p,e,q,s,t,y,decide_true,decide_false];grind[aE]
 by_cases ad:(i.args.length:Int)=G.params
 ·have w:((i.args.length:Int) != G.params)=false:=al;simp-implicitDefEqProofs(disch:=try exact aY)only[m_,reduceAdd,reduceLeDiff,reduceIte,e3,f,h,k,l,bS,ay.len cG,m.len cW,i1.len bV,u,p,e,q,s,t,y,w,decide_false];have S:decide (0<=G.params/\G.params<=G.vars.length/\(i.args.length:Int)=G.params)=true:=al;rw[S,Bool.true_and];have gt:∀{zA B zC zD:bA},((((H.push zA).push B).push zC).push zD).get (H.next+1)=A B/\((((H.push zA).push B).push zC).push zD).get (H.next+1+1)=A zC/\((((H.push zA).push B).push zC).push zD).get (H.next+1+1+1)=A zD:=by
   intro zA B zC zD;refine⟨?_,?_,?_⟩<;>simp[ae.j2]<;>omega
  have key:=Le (c:=c) (g:=G) (i:=i) M Q aa (N:=i.args.length+1) i.args.length 0 (i.args.length+1) _ aa aa gt.1 gt.2.1 gt.2.2 (a6.aC o) (bd.aC o) (m.aC o) (i1.aC o);refine key.mono ?_;rintro r V ⟨rfl,U⟩;exact⟨by rw[List.drop_zero];rfl,o.trans U⟩
 ·have w:((i.args.length:Int) != G.params)=true:=al;simp-implicitDefEqProofs(disch:=try exact aY)only[m_,reduceAdd,reduceLeDiff,reduceIte,e3,f,h,k,l,bS,ay.len cG,m.len cW,i1.len bV,u,p,e,q,s,t,y,w,decide_false];grind[aE]
end
end
section
open Go.a2
set_option maxRecDepth 2000
section
variable {H:ae}{ok:Nat->Prop}
def o{H:ae}{i:In}{w:af}{zI:Nat}(h:H.get zI=A (.row I 6 [[D F i.op,D F i.a,D F i.b,D F i.c,D F i.n,w]])):
  aJ P H 3 (.ptr zI 0 1)=A (D F i.a)/\aJ P H 3 (.ptr zI 0 2)=A (D F i.b)/\aJ P H 3 (.ptr zI 0 3)=A (D F i.c)/\aJ P H 3 (.ptr zI 0 4)=A (D F i.n):=by
 exact kP h
def cq{H:ae}{a b c d:af}{m:Int}{zX:Nat}(h:H.get zX=A (.row I 5 [[a,b,c,d,D F m]])):aJ P H 27 (.ptr zX 0 0)=A (.agg [a,b,c,d,D F m]):=
 hA (n:=5) (i:=0) (c:=0) aG aG h rfl b0
def Oy{H:ae}{i:In}{w:af}{zI:Nat}(h:H.get zI=A (.row I 6 [[D F i.op,D F i.a,D F i.b,D F i.c,D F i.n,w]])):aJ P H 89 (.ptr zI 0 0)=A (.agg [D F i.op,D F i.a,D F i.b,D F i.c,D F i.n,w]):=
 hA (n:=6) (i:=0) (c:=0) aG aG h rfl b0
def rm{H:ae}{c:bQ}{v w:af}{zC:Nat}(h:H.get zC=A (.row I 7 [[D F c.params,v,C c.has,D F c.res.b,D F c.res.r,D F c.res.d,w]])):
  aJ P H 4 (.ptr zC 0 2)=A (C c.has)/\aJ P H 47 (.ptr zC 0 6)=A w/\aJ P H 46 (.ptr zC 0 3)=A (c8 c.res):=by
 refine⟨?_,?_,?_⟩
 ·exact kP h
 ·exact kP h
 ·exact hA (n:=3) (i:=0) (c:=3) aG aG h rfl b0
def Ap{H:ae}{a b c d:af}{m:Int}{zX:Nat}(h:H.get zX=A (.row I 5 [[a,b,c,d,D F m]])):aJ P H 23 (.ptr zX 0 1)=A b:=by
 exact kP h
def j7{H:ae}{t:cS}{zA:Nat}(h:H.get zA=A (.row I 3 [cj t])):aJ P H 3 (.ptr zA 0 0)=A (D F t.b)/\aJ P H 3 (.ptr zA 0 2)=A (D F t.d):=by
 rw[cj]at h;exact kP h
theorem ajn{x:bq}{i:In}{v be:af}(aF:cE H ok x v)(aP:zb H ok i be)(f:Nat){c:bQ}(aB:x.ax[f]? =A c)(bb:∀g∈x.ax,g.vars.length<=1000000000)(hm:c.vars.all (eK x.ca.length)=J):W (aK P aD 51 [v,D F f,be] H) λr H'=>r= C (dM x f c i)/\aw H H':=by
 obtain⟨_,rfl,a,b,cc,d,rfl,ah,ai,ay,aM⟩:=aF;obtain⟨_,rfl,wi,rfl,i1⟩:=aP;have cl:=(List.getElem?_eq_some_iff.1 aB).1;have aH:c.vars.length<=1000000000:=bb c (List.mem_of_getElem? aB);refine agH 0 ?_;have bg:=dQ ah ai ay aM x.main;have bh:=zB i1 i.op i.a i.b i.c i.n;have bc:=((aw.refl H).eO (.row I 5 [[a,b,cc,d,D F x.main]])).eO (.row I 6 [[D F i.op,D F i.a,D F i.b,D F i.c,D F i.n,wi]]);have f0:¬(f:Int)<0:=aa;have f1:¬(x.ax.length:Int)<=(f:Int):=aa;simp-implicitDefEqProofs(disch:=try exact aY)only[Sl,reduceAdd,reduceLeDiff,reduceIte,e3,bg,bh,f0,f1,ay.len cG,decide_false]
 refine cY (acY (i:=i) ⟨_,rfl,wi,rfl,i1.aC bc⟩) λK aN=> ?_
 have aR:=bc.trans aN;unfold dM;cases aL:named i with
 |false=>
  refine ahr ?_;exact aE.2 ⟨aW,aR⟩
 |true=>
  have ao:K.get (H.next+1)=A (.row I 6 [[D F i.op,D F i.a,D F i.b,D F i.c,D F i.n,wi]]):=aN.get (by simp[ae.j2]);have aU:K.get H.next=A (.row I 5 [[a,b,cc,d,D F x.main]]):=aN.get (by simp[ae.j2])
  obtain⟨L,n,ro,els,cd,bp,_,g,e,gv,gw,rfl,bS,b2⟩:=(ay.aC aR).at_ (K:=fO) cG (j:=(f:Int)) (a:=c) aa (fH aB);have cg:=ae.bm g;have bj:K.get L=A (.row ro 7 els):=g;have ch:L≠K.next:=aa
  have bn:=bS.one;have bo:=b2.one;have cf:H.next+1<K.next:=by have:=aN.1;simp at this;omega
  have n5:H.next+1≠K.next:=aa
  have cu:H.next+1≠K.next+1:=aa
  have cs:H.next≠K.next:=aa
  have ct:H.next≠K.next+1:=aa
  refine DV @Bool.not_true @Bool.true_and aU ao bp (ag bj (ag e (ag bn bo))) ?_;have cw:=(aR.eO (.row I 7 [[D F c.params,gv,C c.has,D F c.res.b,D F c.res.r,D F c.res.d,gw]])).eO (.row I 3 [[D F 0,D F 0,D F 0]]);have a2:=((aw.refl K).eO (.row I 7 [[D F c.params,gv,C c.has,D F c.res.b,D F c.res.r,D F c.res.d,gw]])).eO (.row I 3 [[D F 0,D F 0,D F 0]]);refine bz (vG ⟨_,rfl,gv,gw,rfl,bS.aC a2,b2.aC a2⟩ i.a aH) λa9 k=> ?_
  have aO:=a2.trans k;have av:a9.get K.next=A (.row I 7 [[D F c.params,gv,C c.has,D F c.res.b,D F c.res.r,D F c.res.d,gw]]):=k.get (by simp[ae.j2])
  have a_:a9.get (K.next+1)=A (.row I 3 [[D F 0,D F 0,D F 0]]):=k.get (by simp[ae.j2]);have ap:=aO.get ao;refine Jl av ap ?_;refine bz (vG ⟨_,rfl,gv,gw,rfl,bS.aC aO,b2.aC aO⟩ i.b aH) λcb N=> ?_
  have a3:=aO.trans N;have aA:=N.get av;have ar:=N.get ap;refine Jl aA ar ?_;refine bz (vG ⟨_,rfl,gv,gw,rfl,bS.aC a3,b2.aC a3⟩ i.c aH) λy aI=> ?_
  have a4:=a3.trans aI;have aX:=aI.get aA;have au:=aI.get ar;have aZ:=aI.get (N.get a_);have bd:=GR bS b2;rw[cL]at bd;have cn:H.next+1<y.next:=ae.bm au
  have co:K.next<y.next:=ae.bm aX
  have cr:K.next+1<y.next:=ae.bm aZ
  have aV:=a4.get aU;have cm:H.next<y.next:=ae.bm aV
  have a1:∀v,(a7 c v).d<=1000:=λv=>by
   unfold a7;cases h:eR c.vars v with
   |none=>simp[bw]
   |some u=>
    have:=List.all_eq_true.1 hm u (List.mem_of_getElem? (KO.1 h).2);simp only[eK,Bool.and_eq_true,decide_eq_true_eq]at this;simp;omega
  have bk:=a1 i.a;have bl:=a1 i.b;have ck:=a1 i.c;generalize a7 c i.a=ta at*;generalize a7 c i.b=tb at*;generalize a7 c i.c=E at*;refine DV @c8.eq_1 @cj.eq_1 ao ap ar (ag au (ag av (ag aA bd))) ?_
  try rw[ae.fW H]
  try rw[ae.fW K]
  try rw[ae.fW (y.push _)]
  try rw[ae.fW y]
  have ad:aw y ((((((y.push (.row I 3 [[D F 0,D F 0,D F 0]])).push (.row I 3 [[D F 0,D F 0,D F 0]])).push (.row I 3 [[D F 0,D F 0,D F 0]])).set y.next (.row I 3 [[D F ta.b,D F ta.r,D F ta.d]])).set (y.next+1) (.row I 3 [[D F tb.b,D F tb.r,D F tb.d]])).set (y.next+1+1) (.row I 3 [[D F E.b,D F E.r,D F E.d]])):=
   (((((aw.refl y).eO _).eO _).eO _).pc (ds _) _).pc aa _|>.pc aa _
  have cp:((((((y.push (.row I 3 [[D F 0,D F 0,D F 0]])).push (.row I 3 [[D F 0,D F 0,D F 0]])).push (.row I 3 [[D F 0,D F 0,D F 0]])).set y.next (.row I 3 [[D F ta.b,D F ta.r,D F ta.d]])).set (y.next+1) (.row I 3 [[D F tb.b,D F tb.r,D F tb.d]])).set (y.next+1+1) (.row I 3 [[D F E.b,D F E.r,D F E.d]])).get y.next=A (.row I 3 [cj ta]):=by
   simp-implicitDefEqProofs(disch:=try exact aY)only[rb];rfl
  have M:((((((y.push (.row I 3 [[D F 0,D F 0,D F 0]])).push (.row I 3 [[D F 0,D F 0,D F 0]])).push (.row I 3 [[D F 0,D F 0,D F 0]])).set y.next (.row I 3 [[D F ta.b,D F ta.r,D F ta.d]])).set (y.next+1) (.row I 3 [[D F tb.b,D F tb.r,D F tb.d]])).set (y.next+1+1) (.row I 3 [[D F E.b,D F E.r,D F E.d]])).get (y.next+1)=A (.row I 3 [cj tb]):=by
   simp-implicitDefEqProofs(disch:=try exact aY)only[rb];rfl
  have ab:((((((y.push (.row I 3 [[D F 0,D F 0,D F 0]])).push (.row I 3 [[D F 0,D F 0,D F 0]])).push (.row I 3 [[D F 0,D F 0,D F 0]])).set y.next (.row I 3 [[D F ta.b,D F ta.r,D F ta.d]])).set (y.next+1) (.row I 3 [[D F tb.b,D F tb.r,D F tb.d]])).set (y.next+1+1) (.row I 3 [[D F E.b,D F E.r,D F E.d]])).get (y.next+1+1)=A (.row I 3 [cj E]):=by
   simp-implicitDefEqProofs(disch:=try exact aY)only[rb];rfl
  generalize ((((((y.push (.row I 3 [[D F 0,D F 0,D F 0]])).push (.row I 3 [[D F 0,D F 0,D F 0]])).push (.row I 3 [[D F 0,D F 0,D F 0]])).set y.next (.row I 3 [[D F ta.b,D F ta.r,D F ta.d]])).set (y.next+1) (.row I 3 [[D F tb.b,D F tb.r,D F tb.d]])).set (y.next+1+1) (.row I 3 [[D F E.b,D F E.r,D F E.d]]))=Y at*;have aQ:=ad.get aV;have U:=ad.get au;have b5:=ad.get aX;have O:Y.get (K.next+1)=A (.row I 3 [cj bw]):=ad.get aZ;have m:aw H Y:=(aR.trans a4).trans ad
  generalize y.next=zA at*
  generalize zA+1=B at*;generalize B+1=zD at*;clear aZ aV au aX ar aA ap av a_ ao aU;have T:bG (A (.agg [a,b,cc,d,D F x.main])) (.agg [a,b,cc,d,D F x.main])=true:=by simp[bG,af.beq,e9.beq,ah.rd,ai.rd,ay.rd,aM.rd]
  have al:cE Y ok x (.agg [a,b,cc,d,D F x.main]):=⟨_,rfl,a,b,cc,d,rfl,ah.aC m,ai.aC m,ay.aC m,aM.aC m⟩;have aj:aw K Y:=a4.trans ad;have S:bG (A gw) gw=true:=dD b2;have rs:=λH' (p:aw Y H')=>ag (R (p.get cp)) (ag (R (p.get M)) (ag (R (p.get ab)) (ag (R (p.get O)) (ag (o (p.get U)) (ag (j7 (p.get cp)) (ag (j7 (p.get M)) (ag (j7 (p.get ab)) (ag (cq (p.get aQ)) (ag (rm (p.get b5)) (ag eY (ag fz (ag T S))))))))))))
  split
  case h_1 heq=>
   have t:∀j:Int,(i.op==j)=(1==j):=λj=>by rw[heq]
   simp-implicitDefEqProofs(disch:=try exact aY)only[ez,c0,t,Int.reduceBEq];refine bz k2 λah k=> ?_
   have ce:=k.get U;by_cases l:ta=di
   ·refine qy (R (k.get cp)) @dC l @decide_true ?_;refine lT (l5 aG ?_) (aE.2 ⟨aW,m.trans k⟩);subst l;refine mq ?_ ?_
    ·simp only[ia,cv.K.heap,List.forall_mem_cons]
     repeat' first|exact aw.refl _|exact k|(intro _ h;cases h;done)|refine ag ?_ ?_
    ·simp only[List.forall_mem_cons]
     repeat' first|(intro v s;cases s;done)|(intro v s;cases s;intro H' p;simp only[Nat.zero_add,rs H' p,eY,fz,T,S];done)|(intro _ h;cases h;done)|refine ag ?_ ?_
   ·refine qy (R (k.get cp)) @dC l @decide_false ?_;refine cY pb λai N=> ?_
    have z:=k.trans N;have ba:=z.get U;by_cases Q:ta=eG
    ·subst Q;cases dL:(i.n==0)with
     |true=>
      refine g7 @dG @Nat.zero_add (R (z.get cp)) (o ba) @dC (ag @decide_true (ag dL @c0)) ?_;refine dy rs (aE.2 ⟨by simp[dL],m.trans z⟩)
     |false=>
      refine g7 @dG @Nat.zero_add (R (z.get cp)) (o ba) @dC (ag @decide_true (ag dL @c0)) ?_;refine dy rs (aE.2 ⟨by simp[dL,l],m.trans z⟩)
    ·refine qy (R (z.get cp)) @dC Q @decide_false ?_;refine dy rs (aE.2 ⟨aW,m.trans z⟩)
  case h_2 heq=>
   have t:∀j:Int,(i.op==j)=(2==j):=λj=>by rw[heq]
   simp-implicitDefEqProofs(disch:=try exact aY)only[ez,c0,dG,Nat.zero_add,t,Int.reduceBEq,ea,dX,d_,dY,dZ,R cp,R O,iW];by_cases l:ta=bw
   ·have q:decide (ta≠bw)=false:=by simp[l]
    refine k0 q ?_;exact aE.2 ⟨aW,m⟩
   ·have q:decide (ta≠bw)=true:=by simp[l]
    refine uC (R cp) q ?_;refine cY (GU ta) λah k=> ?_
    refine k0 q ?_;exact aE.2 ⟨aW,m.trans k⟩
  case h_3 heq=>
   have t:∀j:Int,(i.op==j)=(3==j):=λj=>by rw[heq]
   simp-implicitDefEqProofs(disch:=try exact aY)only[ez,c0,dG,Nat.zero_add,t,Int.reduceBEq,ea,dX,d_,dY,dZ,R cp,R O,iW];by_cases l:ta=bw
   ·have q:decide (ta≠bw)=false:=by simp[l]
    refine k0 q ?_;exact aE.2 ⟨by simp[l],m⟩
   ·have q:decide (ta≠bw)=true:=by simp[l]
    refine qy (R cp) (R M) @dC q ?_;exact aE.2 ⟨by simp[l],m⟩
  case h_4 heq=>
   have t:∀j:Int,(i.op==j)=(4==j):=λj=>by rw[heq]
   simp-implicitDefEqProofs(disch:=try exact aY)only[ez,c0,dG,Nat.zero_add,t,Int.reduceBEq,ea,dX,d_,dY,dZ,o U,R cp,R M,R ab];refine bz (V3 i.n ta tb E) λah k=> ?_
   exact aE.2 ⟨rfl,m.trans k⟩
  case h_5 heq=>
   have t:∀j:Int,(i.op==j)=(5==j):=λj=>by rw[heq]
   simp-implicitDefEqProofs(disch:=try exact aY)only[ez,c0,dG,Nat.zero_add,t,Int.reduceBEq,ea,dX,d_,dY,dZ,o U];cases dL:(i.n==12)with
   |true=>
    have cX:(i.n==13)=false:=by
     have:i.n=12:=fH dL;rw[this];rfl
    refine SH ?_;refine cY k2 λah k=> ?_
    by_cases l:ta=di
    ·subst l;refine r8 (R (k.get cp)) @dC @decide_true ?_;refine cY k2 λai N=> ?_
     have z:=k.trans N;by_cases Q:tb=di
     ·subst Q;refine r8 (R (z.get M)) @dC @decide_true ?_;refine dy rs (aE.2 ⟨aW,m.trans z⟩)
     ·refine g7 @dG @Nat.zero_add (R (z.get M)) (o (z.get U)) cX (ag @dC (ag Q (ag @decide_false @c0))) ?_;refine dy rs (aE.2 ⟨by simp[cX],m.trans z⟩)
    ·refine g7 @dG @Nat.zero_add (R (k.get cp)) (o (k.get U)) cX (ag @dC (ag l (ag @decide_false @c0))) ?_;refine dy rs (aE.2 ⟨by simp[cX],m.trans k⟩)
   |false=>
    cases cX:(i.n==13)with
    |true=>
     refine o5 @dG @Nat.zero_add (o U) cX @c0 ?_;refine cY pb λah k=> ?_
     by_cases l:ta=eG
     ·subst l;refine r8 (R (k.get cp)) @dC @decide_true ?_;refine cY pb λai N=> ?_
      have z:=k.trans N;refine uC (R (z.get M)) @dC ?_;refine dy rs (aE.2 ⟨aW,m.trans z⟩)
     ·refine qy (R (k.get cp)) @dC l @decide_false ?_;refine dy rs (aE.2 ⟨aW,m.trans k⟩)
    |false=>
     refine o5 @dG @Nat.zero_add (o U) cX @c0 ?_;refine dy rs (aE.2 ⟨aW,m⟩)
  case h_6 heq=>
   have t:∀j:Int,(i.op==j)=(6==j):=λj=>by rw[heq]
   simp-implicitDefEqProofs(disch:=try exact aY)only[ez,c0,dG,Nat.zero_add,t,Int.reduceBEq,ea,dX,d_,dY,dZ,R cp,R O,iW];by_cases l:ta=bw
   ·have q:decide (ta≠bw)=false:=by simp[l]
    refine k0 q ?_;refine dy rs (aE.2 ⟨by simp[l],m⟩)
   ·have q:decide (ta≠bw)=true:=by simp[l]
    refine g7 @dG @Nat.zero_add (R M) (cq aQ) (o U) q ?_;refine cY (MG al tb i.c) λah k=> ?_
    refine r8 (R (k.get cp)) @dC q ?_;refine dy rs (aE.2 ⟨by simp[l],m.trans k⟩)
  case h_7 heq=>
   have t:∀j:Int,(i.op==j)=(7==j):=λj=>by rw[heq]
   simp-implicitDefEqProofs(disch:=try exact aY)only[ez,c0,dG,Nat.zero_add,t,Int.reduceBEq,ea,dX,d_,dY,dZ,R M,R O,iW];by_cases l:tb=bw
   ·have q:decide (tb≠bw)=false:=by simp[l]
    refine k0 q ?_;refine dy rs (aE.2 ⟨by simp[l],m⟩)
   ·have q:decide (tb≠bw)=true:=by simp[l]
    refine g7 @dG @Nat.zero_add (R cp) (cq aQ) (o U) q ?_;refine cY (MG al ta i.c) λah k=> ?_
    refine r8 (R (k.get M)) @dC q ?_;refine dy rs (aE.2 ⟨by simp[l],m.trans k⟩)
  case h_8 heq=>
   have t:∀j:Int,(i.op==j)=(8==j):=λj=>by rw[heq]
   simp-implicitDefEqProofs(disch:=try exact aY)only[ez,c0,dG,Nat.zero_add,t,Int.reduceBEq,ea,dX,d_,dY,dZ,R cp,R O,iW];by_cases l:ta=bw
   ·have q:decide (ta≠bw)=false:=by simp[l]
    refine k0 q ?_;refine dy rs (aE.2 ⟨by simp[l],m⟩)
   ·have q:decide (ta≠bw)=true:=by simp[l]
    by_cases G:0<tb.d
    ·refine g7 @dG @Nat.zero_add (j7 M) q G (ag @decide_true @c0) ?_;refine cY k2 λah k=> ?_
     by_cases V:E=di
     ·refine o5 (R (k.get ab)) (R (k.get M)) @dC V @decide_true ?_;refine cY (OD tb G bl) λai N=> ?_
      have z:=k.trans N;refine r8 (R (z.get cp)) @dC q ?_;refine lT (l5 aG ?_) (aE.2 ⟨by simp[l,G],m.trans z⟩);simp only[V]at rs;refine mq ?_ ?_
      ·simp only[ia,cv.K.heap,List.forall_mem_cons]
       repeat' first|exact aw.refl _|exact k|exact z|(intro _ h;cases h;done)|refine ag ?_ ?_
      ·simp only[List.forall_mem_cons]
       repeat' first|(intro v s;cases s;done)|(intro v s;cases s;intro H' p;simp only[Nat.zero_add,rs H' p,eY,fz,T,S];done)|(intro _ h;cases h;done)|refine ag ?_ ?_
     ·refine o5 (R (k.get ab)) @dC q V @decide_false ?_;refine dy rs (aE.2 ⟨by simp[V],m.trans k⟩)
    ·refine g7 @dG @Nat.zero_add (j7 M) q G (ag @decide_false @c0) ?_;refine dy rs (aE.2 ⟨by simp[G],m⟩)
  case h_9 heq=>
   have t:∀j:Int,(i.op==j)=(9==j):=λj=>by rw[heq]
   simp-implicitDefEqProofs(disch:=try exact aY)only[ez,c0,dG,Nat.zero_add,t,Int.reduceBEq,ea,dX,d_,dY,dZ,R ab,R O,iW];by_cases l:E=bw
   ·have q:decide (E≠bw)=false:=by simp[l]
    refine k0 q ?_;refine dy rs (aE.2 ⟨by simp[l],m⟩)
   ·have q:decide (E≠bw)=true:=by simp[l]
    by_cases G:0<ta.d
    ·refine g7 @dG @Nat.zero_add (j7 cp) q G (ag @decide_true @c0) ?_;refine cY k2 λah k=> ?_
     by_cases V:tb=di
     ·refine o5 (R (k.get M)) (R (k.get cp)) @dC V @decide_true ?_;refine cY (OD ta G bk) λai N=> ?_
      have z:=k.trans N;refine r8 (R (z.get ab)) @dC q ?_;refine lT (l5 aG ?_) (aE.2 ⟨by simp[l,G],m.trans z⟩);simp only[V]at rs;refine mq ?_ ?_
      ·simp only[ia,cv.K.heap,List.forall_mem_cons]
       repeat' first|exact aw.refl _|exact k|exact z|(intro _ h;cases h;done)|refine ag ?_ ?_
      ·simp only[List.forall_mem_cons]
       repeat' first|(intro v s;cases s;done)|(intro v s;cases s;intro H' p;simp only[Nat.zero_add,rs H' p,eY,fz,T,S];done)|(intro _ h;cases h;done)|refine ag ?_ ?_
     ·refine o5 (R (k.get M)) @dC q V @decide_false ?_;refine dy rs (aE.2 ⟨by simp[V],m.trans k⟩)
    ·refine g7 @dG @Nat.zero_add (j7 cp) q G (ag @decide_false @c0) ?_;refine dy rs (aE.2 ⟨by simp[G],m⟩)
  case h_10 heq=>
   have t:∀j:Int,(i.op==j)=(10==j):=λj=>by rw[heq]
   simp-implicitDefEqProofs(disch:=try exact aY)only[ez,c0,dG,Nat.zero_add,t,Int.reduceBEq,Bool.and_true,Bool.and_self,hk,jG,jH,iX,ea,dX,d_,dY,dZ];refine bz k2 λah k=> ?_
   by_cases l:ta=di
   ·refine g7 @dG @Nat.zero_add (R (k.get cp)) (j7 (k.get M)) @dC (ag l (ag @decide_true @c0)) ?_;refine lT (l5 aG ?_) (aE.2 ⟨aW,m.trans k⟩);simp only[l]at rs;refine mq ?_ ?_
    ·simp only[ia,cv.K.heap,List.forall_mem_cons]
     repeat' first|exact aw.refl _|exact k|(intro _ h;cases h;done)|refine ag ?_ ?_
    ·simp only[List.forall_mem_cons]
     repeat' first|(intro v s;cases s;done)|(intro v s;cases s;intro H' p;simp only[Nat.zero_add,rs H' p,eY,fz,T,S];done)|(intro _ h;cases h;done)|refine ag ?_ ?_
   ·refine qy (R (k.get cp)) @dC l @decide_false ?_;refine dy rs (aE.2 ⟨by simp[l],m.trans k⟩)
  case h_11 heq=>
   have t:∀j:Int,(i.op==j)=(11==j):=λj=>by rw[heq]
   simp-implicitDefEqProofs(disch:=try exact aY)only[ez,c0,dG,Nat.zero_add,t,Int.reduceBEq,Bool.and_true,Bool.and_self,hk,jG,jH,iX,ea,dX,d_,dY,dZ,R cp,R O,iW];by_cases l:ta=bw
   ·have q:decide (ta≠bw)=false:=by simp[l]
    refine k0 q ?_;exact aE.2 ⟨by simp[l],m⟩
   ·have q:decide (ta≠bw)=true:=by simp[l]
    cases ak:(ta.b==3)with
    |false=>
     have aS:¬ta.b=3:=fH ak;refine g7 @dG @Nat.zero_add (j7 cp) q ak @c0 ?_;exact aE.2 ⟨by simp[aS],m⟩
    |true=>
     have aS:ta.b=3:=fH ak;cases an:(ta.d==0)with
     |false=>
      have aT:¬ta.d=0:=fH an;refine g7 @dG @Nat.zero_add (j7 cp) q ak (ag an @c0) ?_;exact aE.2 ⟨by simp[aT],m⟩
     |true=>
      have aT:ta.d=0:=fH an;refine g7 @dG @Nat.zero_add (j7 cp) (R cp) (cq aQ) (ag (o U) (ag q (ag ak (ag an @c0)))) ?_;refine cY (Ks al f i.n ta) λah k=> ?_
      refine SH ?_;exact aE.2 ⟨by simp[l,aS,aT],m.trans k⟩
  case h_12 heq=>
   have t:∀j:Int,(i.op==j)=(12==j):=λj=>by rw[heq]
   simp-implicitDefEqProofs(disch:=try exact aY)only[ez,c0,dG,Nat.zero_add,t,Int.reduceBEq,Bool.and_true,Bool.and_self,hk,jG,jH,iX,ea,dX,d_,dY,dZ,j7 cp];by_cases G:0<ta.d
   ·refine uC G @decide_true ?_;refine cY k2 λah k=> ?_
    by_cases Q:tb=di
    ·refine g7 @dG @Nat.zero_add (R (k.get M)) (R (k.get cp)) (cq (k.get aQ)) (ag (o (k.get U)) (ag @dC (ag G (ag Q @decide_true)))) ?_;refine cY (Ks (al.aC k) f i.n ta) λai N=> ?_
     have z:=k.trans N;refine uC G @decide_true ?_;refine lT (l5 aG ?_) (aE.2 ⟨by simp[G],m.trans z⟩);simp only[Q]at rs;refine mq ?_ ?_
     ·simp only[ia,cv.K.heap,List.forall_mem_cons]
      repeat' first|exact aw.refl _|exact k|exact z|(intro _ h;cases h;done)|refine ag ?_ ?_
     ·simp only[List.forall_mem_cons]
      repeat' first|(intro v s;cases s;done)|(intro v s;cases s;intro H' p;simp only[Nat.zero_add,rs H' p,eY,fz,T,S];done)|(intro _ h;cases h;done)|refine ag ?_ ?_
    ·refine g7 (R (k.get M)) @dC G Q @decide_true @decide_false ?_;refine dy rs (aE.2 ⟨by simp[Q],m.trans k⟩)
   ·refine uC G @decide_false ?_;refine dy rs (aE.2 ⟨by simp[G],m⟩)
  case h_13 heq=>
   have t:∀j:Int,(i.op==j)=(13==j):=λj=>by rw[heq]
   simp-implicitDefEqProofs(disch:=try exact aY)only[ez,c0,dG,Nat.zero_add,t,Int.reduceBEq,Bool.and_true,Bool.and_self,hk,jG,jH,iX,ea,dX,d_,dY,dZ,cq aQ,lu (c:=c) (v:=gv) (w:=gw) b5,Oy U];refine bz (Wm al ⟨_,rfl,gv,gw,rfl,bS.aC aj,b2.aC aj⟩ ⟨_,rfl,wi,rfl,i1.aC m⟩ aH bb) λah k=> ?_
   exact aE.2 ⟨rfl,m.trans k⟩
  case h_14 heq=>
   have t:∀j:Int,(i.op==j)=(14==j):=λj=>by rw[heq]
   simp-implicitDefEqProofs(disch:=try exact aY)only[ez,c0,dG,Nat.zero_add,t,Int.reduceBEq,Bool.and_true,Bool.and_self,hk,jG,jH,iX,ea,dX,d_,dY,dZ];refine bz k2 λah k=> ?_
   refine o5 @Bool.and_self (R (k.get cp)) (R cp) eY @dC ?_;exact aE.2 ⟨rfl,m.trans k⟩
  case h_15 heq=>
   have t:∀j:Int,(i.op==j)=(15==j):=λj=>by rw[heq]
   simp-implicitDefEqProofs(disch:=try exact aY)only[ez,c0,dG,Nat.zero_add,t,Int.reduceBEq,Bool.and_true,Bool.and_self,hk,jG,jH,iX,ea,dX,d_,dY,dZ];refine bz k2 λah k=> ?_
   refine o5 @Bool.and_self (R (k.get cp)) (R cp) eY @dC ?_;exact aE.2 ⟨rfl,m.trans k⟩
  case h_16 heq=>
   have t:∀j:Int,(i.op==j)=(16==j):=λj=>by rw[heq]
   simp-implicitDefEqProofs(disch:=try exact aY)only[ez,c0,dG,Nat.zero_add,t,Int.reduceBEq,Bool.and_true,Bool.and_self,hk,jG,jH,iX,ea,dX,d_,dY,dZ,o U];by_cases dL:0<=i.n
   ·refine g7 @dG @Nat.zero_add (o U) (rm b5) ((b2.aC aj).bf eJ) (ag dL (ag @decide_true @c0)) ?_;exact aE.2 ⟨by simp[within,dL],m⟩
   ·refine uC dL @decide_false ?_;exact aE.2 ⟨by simp[within,dL],m⟩
  case h_17 heq=>
   have t:∀j:Int,(i.op==j)=(17==j):=λj=>by rw[heq]
   simp-implicitDefEqProofs(disch:=try exact aY)only[ez,c0,dG,Nat.zero_add,t,Int.reduceBEq,Bool.and_true,Bool.and_self,hk,jG,jH,iX,ea,dX,d_,dY,dZ];refine bz pb λah k=> ?_
   by_cases l:ta=eG
   ·by_cases dL:0<=i.n
    ·by_cases cX:i.n<(c.ins.length:Int)
     ·by_cases bu:0<=i.c
      ·simp-implicitDefEqProofs(disch:=try exact aY)only[ez,c0,dG,Nat.zero_add,t,Int.reduceBEq,Bool.and_true,Bool.and_self,hk,jG,jH,iX,ea,dX,d_,dY,dZ,R (k.get cp),o (k.get U),rm (k.get b5),(b2.aC aj).len eJ,dC,l,decide_true,dL,cX,bu];refine lT (l5 aG ?_) (aE.2 ⟨by simp[within,dL,cX,bu],m.trans k⟩);simp only[l]at rs;refine mq ?_ ?_
       ·simp only[ia,cv.K.heap,List.forall_mem_cons]
        repeat' first|exact aw.refl _|exact k|(intro _ h;cases h;done)|refine ag ?_ ?_
       ·simp only[List.forall_mem_cons]
        repeat' first|(intro v s;cases s;done)|(intro v s;cases s;intro H' p;simp only[Nat.zero_add,rs H' p,eY,fz,T,S];done)|(intro _ h;cases h;done)|refine ag ?_ ?_
      ·simp-implicitDefEqProofs(disch:=try exact aY)only[ez,c0,dG,Nat.zero_add,t,Int.reduceBEq,Bool.and_true,Bool.and_self,hk,jG,jH,iX,ea,dX,d_,dY,dZ,R (k.get cp),o (k.get U),rm (k.get b5),(b2.aC aj).len eJ,dC,l,decide_true,dL,cX,bu,decide_false];refine lT (l5 aG ?_) (aE.2 ⟨by simp[within,dL,cX,bu],m.trans k⟩);simp only[l]at rs;refine mq ?_ ?_
       ·simp only[ia,cv.K.heap,List.forall_mem_cons]
        repeat' first|exact aw.refl _|exact k|(intro _ h;cases h;done)|refine ag ?_ ?_
       ·simp only[List.forall_mem_cons]
        repeat' first|(intro v s;cases s;done)|(intro v s;cases s;intro H' p;simp only[Nat.zero_add,rs H' p,eY,fz,T,S];done)|(intro _ h;cases h;done)|refine ag ?_ ?_
     ·refine g7 @dG @Nat.zero_add (R (k.get cp)) (o (k.get U)) (rm (k.get b5)) (ag ((b2.aC aj).bf eJ) (ag @dC (ag l (ag @decide_true (ag dL (ag cX (ag @decide_false @c0))))))) ?_;refine lT (l5 aG ?_) (aE.2 ⟨by simp[within,dL,cX],m.trans k⟩);simp only[l]at rs;refine mq ?_ ?_
      ·simp only[ia,cv.K.heap,List.forall_mem_cons]
       repeat' first|exact aw.refl _|exact k|(intro _ h;cases h;done)|refine ag ?_ ?_
      ·simp only[List.forall_mem_cons]
       repeat' first|(intro v s;cases s;done)|(intro v s;cases s;intro H' p;simp only[Nat.zero_add,rs H' p,eY,fz,T,S];done)|(intro _ h;cases h;done)|refine ag ?_ ?_
    ·refine g7 @dG @Nat.zero_add (R (k.get cp)) (o (k.get U)) @dC (ag l (ag @decide_true (ag dL (ag @decide_false @c0)))) ?_;refine lT (l5 aG ?_) (aE.2 ⟨by simp[within,dL],m.trans k⟩);simp only[l]at rs;refine mq ?_ ?_
     ·simp only[ia,cv.K.heap,List.forall_mem_cons]
      repeat' first|exact aw.refl _|exact k|(intro _ h;cases h;done)|refine ag ?_ ?_
     ·simp only[List.forall_mem_cons]
      repeat' first|(intro v s;cases s;done)|(intro v s;cases s;intro H' p;simp only[Nat.zero_add,rs H' p,eY,fz,T,S];done)|(intro _ h;cases h;done)|refine ag ?_ ?_
   ·refine qy (R (k.get cp)) @dC l @decide_false ?_;refine dy rs (aE.2 ⟨by simp[l],m.trans k⟩)
  case h_18 heq=>
   have t:∀j:Int,(i.op==j)=(18==j):=λj=>by rw[heq]
   simp-implicitDefEqProofs(disch:=try exact aY)only[ez,c0,dG,Nat.zero_add,t,Int.reduceBEq,Bool.and_true,Bool.and_self,hk,jG,jH,iX,ea,dX,d_,dY,dZ,rm b5];cases ci:c.has with
   |false=>
    refine o5 @dG @Nat.zero_add @Bool.not_false (o U) @c0 ?_;exact aE.2 ⟨aW,m⟩
   |true=>
    refine qy @Bool.not_true (R cp) (R O) @iW ?_;by_cases l:ta=bw
    ·have q:decide (ta≠bw)=false:=by simp[l]
     refine k0 q ?_;exact aE.2 ⟨by simp[l],m⟩
    ·have q:decide (ta≠bw)=true:=by simp[l]
     refine g7 @dG @Nat.zero_add (R cp) (rm b5) @dC q ?_;exact aE.2 ⟨by simp[l],m⟩
  case h_19 heq=>
   have t:∀j:Int,(i.op==j)=(19==j):=λj=>by rw[heq]
   simp-implicitDefEqProofs(disch:=try exact aY)only[ez,c0,dG,Nat.zero_add,t,Int.reduceBEq,Bool.and_true,Bool.and_self,hk,jG,jH,iX,ea,dX,d_,dY,dZ,R cp,R O,iW];by_cases l:ta=bw
   ·have q:decide (ta≠bw)=false:=by simp[l]
    refine k0 q ?_;exact aE.2 ⟨aW,m⟩
   ·have q:decide (ta≠bw)=true:=by simp[l]
    by_cases dL:0<=i.n
    ·by_cases cX:i.n<(x.globals.length:Int)
     ·have am:i.n.toNat<x.globals.length:=aa;have a0:eR x.globals i.n=A x.globals[i.n.toNat]:=by rw[jW dL];simp[am]
      obtain⟨pp,bi,a5,a6,rfl⟩:=(ai.aC m).agg (K:=fc) cW uG (j:=i.n) (a:=x.globals[i.n.toNat]) dL (by simp[am]);have a8:aJ P Y 46 pp=A (c8 x.globals[i.n.toNat]):=a6;refine g7 @dG @Nat.zero_add (R cp) (o U) (Ap aQ) (ag ((ai.aC m).bf cW) (ag @dC (ag q (ag dL (ag cX (ag a5 (ag a8 (ag @decide_true @c0)))))))) ?_;exact aE.2 ⟨by rw[a0];simp[eq_comm],m⟩
     ·refine g7 @dG @Nat.zero_add (o U) (Ap aQ) ((ai.aC m).bf cW) (ag q (ag dL (ag cX (ag @decide_true (ag @decide_false @c0))))) ?_;exact aE.2 ⟨by rw[gz.2 (.inr aa)];simp,m⟩
    ·refine g7 @dG @Nat.zero_add (o U) q dL (ag @decide_false @c0) ?_;exact aE.2 ⟨by rw[gz.2 (.inl aa)];simp,m⟩
  case h_20 heq=>
   have t:∀j:Int,(i.op==j)=(20==j):=λj=>by rw[heq]
   simp-implicitDefEqProofs(disch:=try exact aY)only[ez,c0,dG,Nat.zero_add,t,Int.reduceBEq,Bool.and_true,Bool.and_self,hk,jG,jH,iX,ea,dX,d_,dY,dZ,R cp,R O,iW];by_cases l:ta=bw
   ·have q:decide (ta≠bw)=false:=by simp[l]
    refine k0 q ?_;exact aE.2 ⟨aW,m⟩
   ·have q:decide (ta≠bw)=true:=by simp[l]
    by_cases dL:0<=i.n
    ·by_cases cX:i.n<(x.globals.length:Int)
     ·have am:i.n.toNat<x.globals.length:=aa;have a0:eR x.globals i.n=A x.globals[i.n.toNat]:=by rw[jW dL];simp[am]
      obtain⟨pp,bi,a5,a6,rfl⟩:=(ai.aC m).agg (K:=fc) cW uG (j:=i.n) (a:=x.globals[i.n.toNat]) dL (by simp[am]);have a8:aJ P Y 46 pp=A (c8 x.globals[i.n.toNat]):=a6;refine g7 @dG @Nat.zero_add (R cp) (o U) (Ap aQ) (ag ((ai.aC m).bf cW) (ag @dC (ag q (ag dL (ag cX (ag a5 (ag a8 (ag @decide_true @c0)))))))) ?_;exact aE.2 ⟨by rw[a0];simp[eq_comm],m⟩
     ·refine g7 @dG @Nat.zero_add (o U) (Ap aQ) ((ai.aC m).bf cW) (ag q (ag dL (ag cX (ag @decide_true (ag @decide_false @c0))))) ?_;exact aE.2 ⟨by rw[gz.2 (.inr aa)];simp,m⟩
    ·refine g7 @dG @Nat.zero_add (o U) q dL (ag @decide_false @c0) ?_;exact aE.2 ⟨by rw[gz.2 (.inl aa)];simp,m⟩
  case h_21 bT b6 z3 z4 z5 b8 b9 b_ z9 bU bV bW bX bY bZ b0 b1 b3 b4 b7=>
   have br:(i.op==1)=false:=beq_eq_false_iff_ne.2 bT;have bI:(i.op==2)=false:=beq_eq_false_iff_ne.2 b6;have bK:(i.op==3)=false:=beq_eq_false_iff_ne.2 z3;have bL:(i.op==4)=false:=beq_eq_false_iff_ne.2 z4;have bM:(i.op==5)=false:=beq_eq_false_iff_ne.2 z5;have bN:(i.op==6)=false:=beq_eq_false_iff_ne.2 b8;have bO:(i.op==7)=false:=beq_eq_false_iff_ne.2 b9;have bP:(i.op==8)=false:=beq_eq_false_iff_ne.2 b_;have bR:(i.op==9)=false:=beq_eq_false_iff_ne.2 z9;have bs:(i.op==10)=false:=beq_eq_false_iff_ne.2 bU;have bt:(i.op==11)=false:=beq_eq_false_iff_ne.2 bV;have bv:(i.op==12)=false:=beq_eq_false_iff_ne.2 bW
   have bx:(i.op==13)=false:=beq_eq_false_iff_ne.2 bX;have bA:(i.op==14)=false:=beq_eq_false_iff_ne.2 bY;have bC:(i.op==15)=false:=beq_eq_false_iff_ne.2 bZ;have bD:(i.op==16)=false:=beq_eq_false_iff_ne.2 b0;have bE:(i.op==17)=false:=beq_eq_false_iff_ne.2 b1;have bF:(i.op==18)=false:=beq_eq_false_iff_ne.2 b3;have bH:(i.op==19)=false:=beq_eq_false_iff_ne.2 b4;have bJ:(i.op==20)=false:=beq_eq_false_iff_ne.2 b7;refine g7 @jG.eq_1 @jH.eq_1 @iX.eq_1 br bI (ag bK (ag bL (ag bM (ag bN (ag bO (ag bP (ag bR (ag bs (ag bt (ag bv (ag bx (ag bA (ag bC (ag bD (ag bE (ag bF (ag bH (ag bJ @c0)))))))))))))))))) ?_
   exact aE.2 ⟨rfl,m⟩
end
end
section
open Go.a2
set_option maxRecDepth 2000
section
variable {H:ae}{ok:Nat->Prop}
def oN{H:ae}{a b c d:af}{m:Int}{zX:Nat}(h:H.get zX=A (.row I 5 [[a,b,c,d,D F m]])):
  aJ P H 22 (.ptr zX 0 0)=A a/\aJ P H 23 (.ptr zX 0 1)=A b/\aJ P H 24 (.ptr zX 0 2)=A c/\aJ P H 25 (.ptr zX 0 3)=A d/\aJ P H 3 (.ptr zX 0 4)=A (D F m):=by
 exact kP h
theorem aev{x:bq}{a b c d:af}{zX:Nat}(aQ:H.get zX=A (.row I 5 [[a,b,c,d,D F x.main]]))(ay:aI fO H ok x.ax c){N:Nat}:
  W (mf (aK P aD) N (.ptr zX 0 0) H) λr H'=>r= C (jA x)/\H'=H:=by
 by_cases f:0<=x.main
 ·by_cases h:x.main<(x.ax.length:Int)
  ·have p:x.main.toNat<x.ax.length:=aa;have m:eR x.ax x.main=A x.ax[x.main.toNat]:=by grind[jW]
   obtain⟨L,n,ro,els,o,l,_,g,e,gv,gw,rfl,bS,b2⟩:=ay.at_ (K:=fO) cG (j:=x.main) (a:=x.ax[x.main.toNat]) f al;have k:H.get L=A (.row ro 7 els):=g;rw[jA,m];generalize x.ax[x.main.toNat]=zC at*;cases i:(zC.params==0)with
   |false=>
    refine DV @mf.eq_1 aQ (ay.bf cG) f h (ag l (ag k (ag e (ag i @decide_true)))) ?_;grind[aE]
   |true=>
    refine DV @mf.eq_1 aQ (ay.bf cG) f h (ag l (ag k (ag e (ag i @decide_true)))) ?_;grind[aE]
  ·refine yX @mf.eq_1 aQ (ay.bf cG) f h ?_;grind[aE,jA,gz]
 ·refine o7 @mf.eq_1 aQ f ?_;grind[aE,jA,gz]
theorem Q1{x:bq}{v:af}{f:Nat}{c:bQ}(aB:x.ax[f]? =A c)(n:∀g∈x.ax,g.vars.length<=1000000000)(hm:c.vars.all (eK x.ca.length)=J)(hlen:c.ins.length<=1000000000){a b cc d:af}{zX:Nat}{L4:af->af->ae->O}{Q:af->ae->Prop}{N:Nat}:
  ∀(j k m:Nat) (H:ae),k+j=c.ins.length->j<m->H.get zX=A (.row I 5 [[a,b,cc,d,D F x.main]])->cE H ok x (.agg [a,b,cc,d,D F x.main])->aI fJ H ok c.ins v->
  ((c.ins.drop k).all (dM x f c)=I->∀H',aw H H'->Q (C I) H')->((c.ins.drop k).all (dM x f c)=J->∀H',aw H H'->W (qn (aK P aD) N L4 (.ptr zX 0 0) (D F f) v H') Q)->
  W (xn (aK P aD) N L4 m (.ptr zX 0 0) (D F f) v (D F k) H) Q
 |_,_,0,_,_,r,_,_,_,_,_=>aa
 |0,k,m+1,H,q,_,aQ,aF,e,l,dU=>by
  have i:¬(k:Int)<(c.ins.length:Int):=aa;have:=dU al H (aw.refl _);simp-implicitDefEqProofs(disch:=try exact aY)only[mf,n0,Cm,xn,ue,rV,ug,na,rW,xm,qm,o4,rT,uf,ud,rU,rS,qo,o3,ez,c0,eU,e.len eJ,i,decide_false];omega
 |j+1,k,m+1,H,q,r,aQ,aF,e,l,dU=>by
  have i:(k:Int)<(c.ins.length:Int):=aa;have y:k<c.ins.length:=aa;obtain⟨p,w,s,t,u⟩:=e.agg (K:=fJ) eJ Tv (j:=(k:Int)) (a:=c.ins[k]) aa al;simp-implicitDefEqProofs(disch:=try exact aY)only[mf,n0,Cm,xn,ue,rV,ug,na,rW,xm,qm,o4,rT,uf,ud,rU,rS,qo,o3,ez,c0,eU,e.len eJ,i,decide_true,s,t,cq aQ];refine bz (ajn aF ⟨_,rfl,u⟩ f aB n hm) λH1 h=> ?_
  cases z:dM x f c c.ins[k]with
  |false=>
   refine bM ?_;grind[aE,List.drop_eq_getElem_cons]
  |true=>
   refine bM ?_;refine Q1 aB n hm hlen j (k+1) m H1 aa aa (h.get aQ) (aF.aC h) (e.aC h) (λo H' p=>l (by grind[List.drop_eq_getElem_cons]) H' (h.trans p)) λo H' p=>dU ?_ H' (h.trans p)
   grind[List.drop_eq_getElem_cons]
theorem aeu{c:bQ}{v:af}{zX f:Nat}{L4:af->af->ae->O}{Q:af->ae->Prop}{N:Nat}(b:aI fJ H ok c.ins v)(ah:1<=c.ins.length)(hlen:c.ins.length<=1000000000)(p:kN (lr c.ins)=I->Q (C I) H)(aB:f<=1000000)(dU:kN (lr c.ins)=J->W (L4 (.ptr zX 0 0) (D F ((f+1:Nat):Int)) H) Q):
  W (qn (aK P aD) N L4 (.ptr zX 0 0) (D F f) v H) Q:=by
 have k:IntKind.i64.wrap ((c.ins.length:Int)-1)=((c.ins.length-1:Nat):Int):=by grind[wrap_i64]
 have m:c.ins.length-1<c.ins.length:=aa;have q:lr c.ins=(c.ins[c.ins.length-1]'m).op:=by
  grind[lr]
 obtain⟨L,n,ro,els,r,i,_,g,e,w,rfl,_⟩:=b.at_ (K:=fJ) eJ (j:=((c.ins.length-1:Nat):Int)) (a:=c.ins[c.ins.length-1]'m) aa aW;have h:H.get L=A (.row ro 6 els):=g;rw[q]at p dU;generalize (c.ins[c.ins.length-1]'m)=z at*;have t1:∀j:Int,(z.op != j)= !(z.op==j):=λ_=>rfl
 cases s:(z.op==16)with
 |true=>
  have d:(z.op != 16)=false:=al;refine gE @qn.eq_1 @n0.eq_1 (b.bf eJ) k i (ag h (ag e d)) ?_;grind[kN]
 |false=>
  have d:(z.op != 16)=true:=al;cases t:(z.op==17)with
  |true=>
   have l:(z.op != 17)=false:=al;refine gE @qn.eq_1 @n0.eq_1 (b.bf eJ) k i (ag h (ag e (ag d l))) ?_;grind[kN]
  |false=>
   have l:(z.op != 17)=true:=al;cases u:(z.op==18)with
   |true=>
    have o:(z.op != 18)=false:=al;refine gE @qn.eq_1 @n0.eq_1 (b.bf eJ) k i (ag h (ag e (ag d (ag l o)))) ?_;grind[kN]
   |false=>
    have o:(z.op != 18)=true:=al;refine gE @qn.eq_1 @n0.eq_1 (b.bf eJ) k i (ag h (ag e (ag d (ag l o)))) ?_;grind[aE,kN]
def mj(x:bq):List bQ->Nat->Bool
 |[],_=>J
 |c::cs,f=>(c.ins.all (dM x f c)&&kN (lr c.ins))&&mj x cs (f+1)
theorem Q0{x:bq}{a b cc d:af}{zX:Nat}(t:∀g∈x.ax,g.vars.length<=1000000000)(hm:∀c∈x.ax,c.vars.all (eK x.ca.length)=J)(hlen:∀c∈x.ax,1<=c.ins.length/\c.ins.length<=1000000000)(z:x.ax.length<=1000000){N:Nat}(q:∀c∈x.ax,c.ins.length<N):
  ∀(j k m:Nat) (H:ae),k+j=x.ax.length->j<m->H.get zX=A (.row I 5 [[a,b,cc,d,D F x.main]])->cE H ok x (.agg [a,b,cc,d,D F x.main])->
  W (rV (aK P aD) N m (.ptr zX 0 0) (D F k) H) λr H'=>r= C (mj x (x.ax.drop k) k&&jA x)/\aw H H'
 |_,_,0,_,_,E,_,_=>aa
 |0,k,m+1,H,B,_,aQ,aF=>by
  have o:=aF;obtain⟨_,i,bY,b',v,w,l,ah,ai,ay,aM⟩:=aF;cases i;cases l;have R:¬(k:Int)<(x.ax.length:Int):=aa;rw[List.drop_of_length_le aa,mj,Bool.true_and];refine bb @rV.eq_2 @ue.eq_1 aa @eU.eq_1 (oN aQ) (ay.bf cG) ?_;refine(aev aQ ay).mono ?_;grind[aw.refl]
 |j+1,k,m+1,H,B,E,aQ,aF=>by
  have o:=aF;obtain⟨_,i,bY,b',v,w,l,ah,ai,ay,aM⟩:=aF;cases i;cases l;have u:k<x.ax.length:=aa;have h:=List.getElem_mem u;obtain⟨L,n,ro,els,Q,M,_,g,e,gv,gw,rfl,bS,b2⟩:=ay.at_ (K:=fO) cG (j:=(k:Int)) (a:=x.ax[k]) aa al;have li:aJ P H 47 (.ptr L n 6)=A gw:=by
   have y:H.get L=A (.row ro 7 els):=g;exact te y e
  refine bb @rV.eq_2 @ue.eq_1 aa @eU.eq_1 (oN aQ) (ag (ay.bf cG) (ag M li)) ?_;rw[List.drop_eq_getElem_cons u,mj];refine Q1 (c:=x.ax[k]) (f:=k) al t (hm _ h) (hlen _ h).2 x.ax[k].ins.length 0 N H aa (q _ h) aQ o b2 (λs H' p=> ?_) λs H' p=> ?_
  ·grind
  ·refine aeu (b2.aC p) (hlen _ h).1 (hlen _ h).2 (λar=> ?_) aa λar=> ?_
   ·grind
   ·refine(Q0 t hm hlen z q j (k+1) m H' aa aa (p.get aQ) (o.aC p)).mono ?_;rintro r O ⟨rfl,G⟩;rw[List.drop_zero]at s;exact⟨al,p.trans G⟩
end
end
section
open Go.a2
set_option maxRecDepth 2000
section
variable {H:ae}{ok:Nat->Prop}
def head(x:bq)(c:bQ):Bool:=decide (0<=c.params/\c.params<=6/\c.params<=c.vars.length/\c.vars.length<=4000/\1<=c.ins.length)&&(c.vars.all (eK x.ca.length)&&(bif c.has then eK x.ca.length c.res else decide (c.res=bw)))
def mN(x:bq):List bQ->Nat->Bool
 |[],_=>J
 |c::cs,s=>(decide (s+c.ins.length<=2500)&&head x c)&&mN x cs (s+c.ins.length)
theorem aet{x:bq}{a b cc d:af}{zX k s:Nat}{c:bQ}{L8:af->af->af->ae->O}{Q:af->ae->Prop}{N:Nat}(Y:x.ax[k]? =A c)(av:k<=1000000)(aG:s<=2500)(T:c.vars.length<=1000000000)(ar:c.ins.length<=1000000000)
  (aQ:H.get zX=A (.row I 5 [[a,b,cc,d,D F x.main]])) (aF:cE H ok x (.agg [a,b,cc,d,D F x.main]))
  (w:(decide (s+c.ins.length<=2500)&&head x c)=I->∀H',aw H H'->Q (C I) H') (dU:(decide (s+c.ins.length<=2500)&&head x c)=J->∀H',aw H H'->W (L8 (.ptr zX 0 0) (D F ((s+c.ins.length:Nat):Int)) (D F ((k+1:Nat):Int)) H') Q):
  W (na (aK P aD) N L8 (.ptr zX 0 0) (D F s) (D F k) H) Q:=by
 have B:=aF;obtain⟨_,R,bY,b',aj,am,f,ah,ai,ay,aM⟩:=aF;cases R;cases f;have aA:=(List.getElem?_eq_some_iff.1 Y).1;have l:(k:Int)<(x.ax.length:Int):=aa;obtain⟨L,n,ro,els,ak,t,_,g,e,gv,gw,rfl,bS,b2⟩:=ay.at_ (K:=fO) cG (j:=(k:Int)) (a:=c) aa al;have ap:=ae.bm g;have au:=ae.bm aQ;have i:H.get L=A (.row ro 7 els):=g;have m:=bS.one;have o:=b2.one;have E:=aw.push H (.row I 7 [[D F c.params,gv,C c.has,D F c.res.b,D F c.res.r,D F c.res.d,gw]]);have u:IntKind.i64.wrap ((s:Int)+(c.ins.length:Int))=((s+c.ins.length:Nat):Int):=by grind[wrap_i64]
 have bad:∀{H'},aw H H'->(decide (s+c.ins.length<=2500)&&head x c)=I->W (A (af.bool I,H')) Q:=λp h=>aE.2 (w h _ p)
 by_cases bu:(4000:Int)<(c.vars.length:Int)
 ·simp-implicitDefEqProofs(disch:=try exact aY)only[na,reduceAdd,reduceLeDiff,reduceIte,e3,aQ,ay.len cG,l,t,i,e,m,o,bS.len cW,b2.len eJ,u,bu,decide_true];grind[head]
 by_cases a6:c.params<0
 ·simp-implicitDefEqProofs(disch:=try exact aY)only[na,reduceAdd,reduceLeDiff,reduceIte,e3,aQ,ay.len cG,l,t,i,e,m,o,bS.len cW,b2.len eJ,u,bu,a6,decide_true,decide_false];grind[head]
 by_cases bd:(6:Int)<c.params
 ·simp-implicitDefEqProofs(disch:=try exact aY)only[na,reduceAdd,reduceLeDiff,reduceIte,e3,aQ,ay.len cG,l,t,i,e,m,o,bS.len cW,b2.len eJ,u,bu,a6,bd,decide_true,decide_false];grind[head]
 by_cases bo:(c.vars.length:Int)<c.params
 ·simp-implicitDefEqProofs(disch:=try exact aY)only[na,reduceAdd,reduceLeDiff,reduceIte,e3,aQ,ay.len cG,l,t,i,e,m,o,bS.len cW,b2.len eJ,u,bu,a6,bd,bo,decide_true,decide_false];grind[head]
 simp-implicitDefEqProofs(disch:=try exact aY)only[na,reduceAdd,reduceLeDiff,reduceIte,e3,aQ,ay.len cG,l,t,i,e,m,o,bS.len cW,b2.len eJ,u,bu,a6,bd,bo,decide_true,decide_false];refine cY (TP (B.aC E) (bS.aC E) T) λH1 G=> ?_
 have q:=E.trans G;have b5:H1.get H.next=A (.row I 7 [[D F c.params,gv,C c.has,D F c.res.b,D F c.res.r,D F c.res.d,gw]]):=G.get (ae.a1 _ _)
 have v:=q.get aQ;have ab:=B.aC q;clear aQ B;cases a_:c.vars.all (eK x.ca.length)with
 |false=>
  refine nh ?_;grind[head]
 |true=>
  by_cases bO:(c.ins.length:Int)<1
  ·simp-implicitDefEqProofs(disch:=try exact aY)only[reduceAdd,reduceLeDiff,reduceIte,e3,Bool.not_true,b5,b2.len eJ,bO,decide_true];grind[head]
  by_cases b3:(2500:Int)<((s+c.ins.length:Nat):Int)
  ·simp-implicitDefEqProofs(disch:=try exact aY)only[reduceAdd,reduceLeDiff,reduceIte,e3,Bool.not_true,b5,b2.len eJ,bO,b3,decide_true,decide_false];grind
  have U:decide (s+c.ins.length<=2500)=true:=al;have V:decide (0<=c.params/\c.params<=6/\c.params<=c.vars.length/\c.vars.length<=4000/\1<=c.ins.length)=true:=al;rw[U,Bool.true_and,head,V,Bool.true_and,a_,Bool.true_and]at w dU bad;have aT:=e8 (show k<=1000000000 by omega);have ao:=cq v;cases y:c.has with
  |false=>
   rw[y,pC]at w dU bad;rw[y]at b5;have aL:∀z,bx P .neq 46 z (.agg [D F c.res.b,D F c.res.r,D F c.res.d]) (.agg [D F 0,D F 0,D F 0])=A (C (decide (c.res≠bw))):=λz=>iW _ bw z
   by_cases an:c.res=bw
   ·have f:decide (c.res≠bw)=false:=al;simp-implicitDefEqProofs(disch:=try exact aY)only[reduceAdd,reduceLeDiff,reduceIte,e3,Bool.not_true,Bool.not_false,b5,v,b2.len eJ,bO,b3,aL,f,aT,decide_false];grind
   ·have f:decide (c.res≠bw)=true:=al;simp-implicitDefEqProofs(disch:=try exact aY)only[reduceAdd,reduceLeDiff,reduceIte,e3,Bool.not_true,Bool.not_false,b5,v,b2.len eJ,bO,b3,aL,f,aT,decide_false];grind
  |true=>
   rw[y,hk]at w dU bad;rw[y]at b5;simp-implicitDefEqProofs(disch:=try exact aY)only[reduceAdd,reduceLeDiff,reduceIte,e3,Bool.not_true,Bool.not_false,b5,v,b2.len eJ,bO,b3,decide_false];refine cY (Ax ab c.res) λad M=> ?_
   have aH:=q.trans M;have S:=M.get b5;cases aB:eK x.ca.length c.res with
   |false=>
    refine nh ?_;grind
   |true=>
    refine Jr S aT ?_;grind
theorem Nn{x:bq}{c:bQ}(h:head x c=J):c.vars.all (eK x.ca.length)=J/\1<=c.ins.length:=by
 grind[head]
theorem No{x:bq}{a b cc d:af}{zX:Nat}(e:∀g∈x.ax,g.vars.length<=1000000000)(hlen:∀c∈x.ax,c.ins.length<=1000000000)(i:x.ax.length<=1000000){N:Nat}(f:∀c∈x.ax,c.ins.length<N)(h:x.ax.length<N):
  ∀(j k m s:Nat) (H:ae),k+j=x.ax.length->j<m->s<=2500->(∀c∈x.ax.take k,head x c=J)->H.get zX=A (.row I 5 [[a,b,cc,d,D F x.main]])->cE H ok x (.agg [a,b,cc,d,D F x.main])->
  W (rW (aK P aD) N m (.ptr zX 0 0) (D F s) (D F k) H) λr H'=>r= C (mN x (x.ax.drop k) s&&(mj x x.ax 0&&jA x))/\aw H H'
 |_,_,0,_,_,_,w,_,_,_,_=>aa
 |0,k,m+1,s,H,v,_,o,aP,aQ,aF=>by
  have y:=aF;obtain⟨_,t,bY,b',E,G,u,ah,ai,ay,aM⟩:=aF;cases t;cases u;rw[List.take_of_length_le aa]at aP;rw[List.drop_of_length_le aa,mN,Bool.true_and];refine bb @rW.eq_2 @na.eq_1 @ug.eq_1 aa @eU.eq_1 (ag (oN aQ) (ay.bf cG)) ?_;exact Q0 e (by grind[Nn]) (λc aA=>⟨(Nn (aP c aA)).2,hlen c aA⟩) i f x.ax.length 0 N H aa h aQ y
 |j+1,k,m+1,s,H,v,w,o,aP,aQ,aF=>by
  have l:k<x.ax.length:=aa;have n:=List.getElem_mem l;rw[rW];rw[List.drop_eq_getElem_cons l,mN];refine aet (c:=x.ax[k]) al aa o (e _ n) (hlen _ n) aQ aF (λaB H' p=> ?_) λa_ H' p=> ?_
  ·grind
  ·have q:=a_;simp only[Bool.and_eq_true,decide_eq_true_eq]at q;refine(No e hlen i f h j (k+1) m (s+x.ax[k].ins.length) H' aa aa q.1 ?_ (p.get aQ) (aF.aC p)).mono ?_
   ·grind[List.take_succ_eq_append_getElem]
   ·rintro r B ⟨rfl,z⟩;exact⟨al,p.trans z⟩
theorem SW{x:bq}{a b cc d:af}{zX:Nat}(O:∀g∈x.ax,g.vars.length<=1000000000)(hlen:∀c∈x.ax,c.ins.length<=1000000000)(Q:x.ax.length<=1000000)(U:x.sites.length<=1000000){N:Nat}(G:∀c∈x.ax,c.ins.length<N)(M:x.ax.length<N):
  ∀(j k m:Nat) (H:ae),k+j=x.sites.length->j<m->H.get zX=A (.row I 5 [[a,b,cc,d,D F x.main]])->cE H ok x (.agg [a,b,cc,d,D F x.main])->
  W (o4 (aK P aD) N m (.ptr zX 0 0) (D F k) H) λr H'=>r= C ((x.sites.drop k).all (jJ x)&&(mN x x.ax 0&&(mj x x.ax 0&&jA x)))/\aw H H'
 |_,_,0,_,_,T,_,_=>aa
 |0,k,m+1,H,R,_,aQ,aF=>by
  have p:=aF;obtain⟨_,i,bY,b',y,B,l,ah,ai,ay,aM⟩:=aF;cases i;cases l;have h:¬(k:Int)<(x.sites.length:Int):=aa;rw[List.drop_of_length_le aa,List.all_nil,Bool.true_and];simp-implicitDefEqProofs(disch:=try exact aY)only[o4,qm,xm,ez,c0,dG,Nat.zero_add,eU,oN aQ,aM.len fV,h,decide_false];grind[No]
 |j+1,k,m+1,H,R,T,aQ,aF=>by
  have p:=aF;obtain⟨_,i,bY,b',y,B,l,ah,ai,ay,aM⟩:=aF;cases i;cases l;have h:(k:Int)<(x.sites.length:Int):=aa;have S:k<x.sites.length:=aa;obtain⟨L,n,ro,els,ad,s,_,g,e,rfl⟩:=aM.at_ (K:=nx) fV (j:=(k:Int)) (a:=x.sites[k]) aa al;have aj:=ae.bm g;have ak:=ae.bm aQ;have o:H.get L=A (.row ro 4 els):=g;rw[cj]at e;rw[List.drop_eq_getElem_cons S,List.all_cons];have on:=SW (x:=x) (a:=a) (b:=b) (cc:=cc) (d:=d) (zX:=zX) O hlen Q U G M j (k+1) m;generalize x.sites[k]=z at*;have v:=aw.push H (.row I 4 [[D F z.f,D F z.ty.b,D F z.ty.r,D F z.ty.d]]);have aT:=e8 (show k<=1000000000 by omega)
  by_cases bu:z.f<0
  ·simp-implicitDefEqProofs(disch:=try exact aY)only[o4,qm,reduceAdd,reduceLeDiff,reduceIte,e3,aQ,aM.len fV,h,s,o,e,bu,decide_true];grind[aE,jJ]
  by_cases a6:(x.ax.length:Int)<=z.f
  ·simp-implicitDefEqProofs(disch:=try exact aY)only[o4,qm,reduceAdd,reduceLeDiff,reduceIte,e3,aQ,aM.len fV,ay.len cG,h,s,o,e,bu,a6,decide_true,decide_false];grind[aE,jJ]
  simp-implicitDefEqProofs(disch:=try exact aY)only[o4,qm,reduceAdd,reduceLeDiff,reduceIte,e3,aQ,aM.len fV,ay.len cG,h,s,o,e,bu,a6,decide_true,decide_false];refine cY (Ax (p.aC v) z.ty) λH1 u=> ?_
  have q:=v.trans u;have E:H1.get H.next=A (.row I 4 [[D F z.f,D F z.ty.b,D F z.ty.r,D F z.ty.d]]):=u.get (ae.a1 _ _)
  have aB:decide (0<=z.f/\z.f<(x.ax.length:Int))=true:=al;rw[jJ,aB,Bool.true_and];cases am:eK x.ca.length z.ty with
  |false=>
   refine nh ?_;grind[aE]
  |true=>
   refine qC E ?_;refine cY (GU z.ty) λw V=> ?_
   have t:=q.trans V;cases au:kZ z.ty with
   |false=>
    refine nh ?_;grind[aE]
   |true=>
    refine qC aT ?_;refine(on w aa aa (t.get aQ) (p.aC t)).mono ?_;rintro r ab ⟨rfl,Y⟩;exact⟨aW,t.trans Y⟩
end
end
section
open Go.a2
set_option maxRecDepth 2000
section
variable {H:ae}{ok:Nat->Prop}
theorem MH{x:bq}{l:List cS}{v:af}{a b cc d:af}{zX r:Nat}(au:r<=1000000)(t:l.length<=1000000){L10:af->af->ae->O}{Q:af->ae->Prop}{N:Nat}:
  ∀(j k m:Nat) (H:ae),k+j=l.length->j<m->H.get zX=A (.row I 5 [[a,b,cc,d,D F x.main]])->cE H ok x (.agg [a,b,cc,d,D F x.main])->aI mv H ok l v->
  ((l.drop k).all (eK x.ca.length)=I->∀H',aw H H'->Q (C I) H')->((l.drop k).all (eK x.ca.length)=J->∀H',aw H H'->W (L10 (.ptr zX 0 0) (D F ((r+1:Nat):Int)) H') Q)->
  W (rU (aK P aD) N L10 m (.ptr zX 0 0) (D F r) v (D F k) H) Q
 |_,_,0,_,_,w,_,_,_,_,_=>aa
 |0,k,m+1,H,u,_,aQ,aF,f,o,dU=>by
  have E:¬(k:Int)<(l.length:Int):=aa;have:=dU al H (aw.refl _);refine dd @rU.eq_2 @ud.eq_1 @uf.eq_1 @eU.eq_1 (f.bf jz) ?_;omega
 |j+1,k,m+1,H,u,w,aQ,aF,f,o,dU=>by
  have G:k<l.length:=aa;obtain⟨L,n,ro,els,B,z,_,g,e,s,rfl⟩:=f.at_ (K:=mv) jz (j:=(k:Int)) (a:=l[k]) aa al;have y:aJ P H 46 (.ptr L n 1)=A (c8 l[k]):=hA (n:=3) (i:=n) (c:=1) aG aG g e b0;refine bb @rU.eq_2 @ud.eq_1 aa @eU.eq_1 (f.bf jz) (ag z (ag y (cq aQ))) ?_;refine bz (Ax aF l[k]) λH1 h=> ?_
  cases M:eK x.ca.length l[k]with
  |false=>
   refine bM ?_;grind[aE,List.drop_eq_getElem_cons]
  |true=>
   refine bM ?_;refine MH au t j (k+1) m H1 aa aa (h.get aQ) (aF.aC h) (f.aC h) (λq H' p=>o (by grind[List.drop_eq_getElem_cons]) H' (h.trans p)) λq H' p=>dU ?_ H' (h.trans p)
   grind[List.drop_eq_getElem_cons]
def nS(x:bq)(l:List cS):Bool:=decide (l.length<=8)&&l.all (eK x.ca.length)
theorem QP{x:bq}{a b cc d:af}{zX:Nat}(O:∀g∈x.ax,g.vars.length<=1000000000)(hlen:∀c∈x.ax,c.ins.length<=1000000000)(Q:x.ax.length<=1000000)(V:x.sites.length<=1000000)(U:x.ca.length<=1000000){N:Nat}(B:∀c∈x.ax,c.ins.length<N)(G:x.ax.length<N)(M:x.sites.length<N)(E:8<N):
  ∀(j k m:Nat) (H:ae),k+j=x.ca.length->j<m->H.get zX=A (.row I 5 [[a,b,cc,d,D F x.main]])->cE H ok x (.agg [a,b,cc,d,D F x.main])->
  W (qo (aK P aD) N m (.ptr zX 0 0) (D F k) H) λr H'=>r= C ((x.ca.drop k).all (nS x)&&(x.sites.all (jJ x)&&(mN x x.ax 0&&(mj x x.ax 0&&jA x))))/\aw H H'
 |_,_,0,_,_,T,_,_=>aa
 |0,k,m+1,H,R,_,aQ,aF=>by
  have o:=aF;obtain⟨_,f,bY,b',v,w,h,ah,ai,ay,aM⟩:=aF;cases f;cases h;have i:¬(k:Int)<(x.ca.length:Int):=aa;rw[List.drop_of_length_le aa,List.all_nil,Bool.true_and];refine bb @qo.eq_2 @rS.eq_1 @rT.eq_1 aa @eU.eq_1 (ag (oN aQ) (ah.bf fx)) ?_;grind[SW]
 |j+1,k,m+1,H,R,T,aQ,aF=>by
  have o:=aF;obtain⟨_,f,bY,b',v,w,h,ah,ai,ay,aM⟩:=aF;cases f;cases h;have i:(k:Int)<(x.ca.length:Int):=aa;have S:k<x.ca.length:=aa;obtain⟨L,n,ro,els,ad,u,_,g,e,s,fv,rfl,aB⟩:=ah.at_ (K:=nw) fx (j:=(k:Int)) (a:=x.ca[k]) aa al;have t:aJ P H 93 (.ptr L n 1)=A fv:=by
   have y:H.get L=A (.row ro 2 els):=g;exact te y e
  rw[List.drop_eq_getElem_cons S,List.all_cons,nS];by_cases gp:(8:Int)<(x.ca[k].length:Int)
  ·simp-implicitDefEqProofs(disch:=try exact aY)only[qo,rS,ez,c0,dG,Nat.zero_add,eU,oN aQ,ah.len fx,i,decide_true,u,t,aB.len jz,gp];grind[aE,aw.refl]
  ·have z:decide (x.ca[k].length<=8)=true:=al;simp-implicitDefEqProofs(disch:=try exact aY)only[qo,rS,ez,c0,dG,Nat.zero_add,eU,oN aQ,ah.len fx,i,decide_true,decide_false,u,t,aB.len jz,gp];rw[z,Bool.true_and];refine MH (x:=x) (l:=x.ca[k]) aa aa x.ca[k].length 0 N H aa aa aQ o aB (λq H' p=> ?_) λq H' p=> ?_
   ·grind
   ·rw[List.drop_zero]at q;refine(QP O hlen Q V U B G M E j (k+1) m H' aa aa (p.get aQ) (o.aC p)).mono ?_;rintro r ab ⟨rfl,Y⟩;exact⟨al,p.trans Y⟩
theorem Np(x:bq):∀(cs:List bQ) (s f:Nat),s<=2500->(mN x cs s&&mj x cs f)=(decide (s+hz cs<=2500)&&kI x cs f)
 |[],s,f,h=>by simp[mN,mj,hz,kI,h]
 |c::cs,s,f,h=>by
  have aA:codeOk x f c=(head x c&&(c.ins.all (dM x f c)&&kN (lr c.ins))):=by
   grind[codeOk,head]
  rw[mN,mj,hz,kI,aA];by_cases ah:s+c.ins.length<=2500
  ·have a:=Np x cs (s+c.ins.length) (f+1) ah;grind
  grind
theorem aes(x:bq):(decide (x.ca.length<=12/\x.globals.length<=8/\1<=x.ax.length/\x.ax.length<=16/\x.sites.length<=60)&&(x.globals.all (eK x.ca.length)&&(x.ca.all (nS x)&&(x.sites.all (jJ x)&&(mN x x.ax 0&&(mj x x.ax 0&&jA x))))))=right x:=by
 have h:=Np x x.ax 0 0 aa;rw[Nat.zero_add]at h;have e:(mN x x.ax 0&&(mj x x.ax 0&&jA x))=(decide (hz x.ax<=2500)&&kI x x.ax 0&&jA x):=al;grind[nS,right]
theorem A0{x:bq}{v:af}(aF:cE H ok x v)(j:∀g∈x.ax,g.vars.length<=1000000000)(hlen:∀c∈x.ax,c.ins.length<=1000000000):W (aK P aD 24 [v] H) λr H'=>r= C (right x)/\aw H H':=by
 obtain⟨_,rfl,a,b,cc,d,rfl,ah,ai,ay,aM⟩:=aF;refine af2 1000000001 ?_;have e:=dQ ah ai ay aM x.main;have f:=aw.push H (.row I 5 [[a,b,cc,d,D F x.main]]);have aQ:(H.push (.row I 5 [[a,b,cc,d,D F x.main]])).get H.next=A (.row I 5 [[a,b,cc,d,D F x.main]]):=ae.a1 _ _
 rw[<-aes];by_cases bu:(12:Int)<(x.ca.length:Int)
 ·simp-implicitDefEqProofs(disch:=try exact aY)only[o3,reduceAdd,reduceLeDiff,reduceIte,e3,e,ah.len fx,bu,decide_true];grind[aE]
 by_cases a6:(8:Int)<(x.globals.length:Int)
 ·simp-implicitDefEqProofs(disch:=try exact aY)only[o3,reduceAdd,reduceLeDiff,reduceIte,e3,e,ah.len fx,ai.len cW,bu,a6,decide_true,decide_false];grind[aE]
 by_cases bd:(x.ax.length:Int)<1
 ·simp-implicitDefEqProofs(disch:=try exact aY)only[o3,reduceAdd,reduceLeDiff,reduceIte,e3,e,ah.len fx,ai.len cW,ay.len cG,bu,a6,bd,decide_true,decide_false];grind[aE]
 by_cases bo:(16:Int)<(x.ax.length:Int)
 ·simp-implicitDefEqProofs(disch:=try exact aY)only[o3,reduceAdd,reduceLeDiff,reduceIte,e3,e,ah.len fx,ai.len cW,ay.len cG,bu,a6,bd,bo,decide_true,decide_false];grind[aE]
 by_cases bO:(60:Int)<(x.sites.length:Int)
 ·simp-implicitDefEqProofs(disch:=try exact aY)only[o3,reduceAdd,reduceLeDiff,reduceIte,e3,e,ah.len fx,ai.len cW,ay.len cG,aM.len fV,bu,a6,bd,bo,bO,decide_true,decide_false];grind[aE]
 rw[decide_eq_true aa,Bool.true_and];simp-implicitDefEqProofs(disch:=try exact aY)only[o3,reduceAdd,reduceLeDiff,reduceIte,e3,e,ah.len fx,ai.len cW,ay.len cG,aM.len fV,bu,a6,bd,bo,bO,decide_true,decide_false];have i:cE (H.push (.row I 5 [[a,b,cc,d,D F x.main]])) ok x (.agg [a,b,cc,d,D F x.main]):=⟨_,rfl,a,b,cc,d,rfl,ah.aC f,ai.aC f,ay.aC f,aM.aC f⟩;refine cY (TP i (ai.aC f) aa) λH1 h=> ?_
 have q:=f.trans h;cases a_:x.globals.all (eK x.ca.length)with
 |false=>
  refine bM ?_;grind[aE]
 |true=>
  refine bM ?_;have key:=QP (x:=x) j hlen aa aa aa (N:=1000000001) al aa aa aa x.ca.length 0 1000000001 H1 aa aa (h.get aQ) (i.aC h);refine key.mono ?_;rintro r l ⟨rfl,k⟩;exact⟨al,q.trans k⟩
end
end
section
set_option maxRecDepth 100000
set_option maxHeartbeats 4000000
noncomputable section
def mg(G:ao):hr Tryz.f35 G:=⟨_,λN=>t1 an⟩
def ags(N:Nat):=eo Tryz.func35 λG=>(mg G).2 N
def x_(G:ao)(N:Nat):hX Tryz.f73 G N (·.ad.ad) (a8 Tryz.f73) []:=⟨_,v0 an⟩
def C_(G:ao)(N:Nat)(L1:ck):dO 1 8 9 10 Tryz.f73 G N (·.ad.aj.ad.aj.aj.ad.ad.ad) (bO L1 1 8 9 10) [(0,(bu (x_ G N)))]:=⟨_,v4 an⟩
def C9(G:ao)(N:Nat)(L1:ck)(L3:ei):gZ 1 8 9 10 19 20 21 Tryz.f73 G N (·.ad.aj.ad.aj.aj.ad.ad.aj.aj.ad.ad.ad.aj.aj) (dw L3 1 8 9 10 19 20 21) [(2,(bO (C_ G N L1) 1 8 9 10)),(1,(bO (C_ G N L1) 1 8 9 10)),(0,(bu (x_ G N)))]:=⟨_,hf an⟩
def ya(G:ao)(N:Nat)(L1:ck):Nat->ei
 |0=>k5
 |n+1=>C9 G N L1 (ya G N L1 n)
def x0(G:ao)(N:Nat)(L1:ck):dO 1 8 9 10 Tryz.f73 G N (·.ad.aj.ad.aj.aj) (bO L1 1 8 9 10) [(0,(bu (x_ G N)))]:=⟨_,v4 (ak (ak (ak ((C_ G N L1).2) (bh (ak (ak (ak (bh (bH (λm=>(C9 G N L1 (ya G N L1 m)).2))) an) an) an))) an) an)⟩
def uq(G:ao)(N:Nat):Nat->ck
 |0=>fB
 |n+1=>x0 G N (uq G N n)
def IV(G:ao)(N:Nat):f_ Tryz.f73 G N:=⟨_,t1 (ak (ak ((x_ G N).2) (ak (bh (bH (λm=>(x0 G N (uq G N m)).2))) an)) an)⟩
def agN(N:Nat):=eo Tryz.func73 λG=>(IV G N).2
def IW(G:ao)(N:Nat):hX Tryz.f74 G N (·.ad.ad) (a8 Tryz.f74) []:=⟨_,v0 an⟩
def Db(G:ao)(N:Nat)(L1:ck):dO 2 7 8 9 Tryz.f74 G N (·.ad.aj.ad.aj.aj) (bO L1 2 7 8 9) [(0,(bu (IW G N)))]:=⟨_,v4 an⟩
def yb(G:ao)(N:Nat):Nat->ck
 |0=>fB
 |n+1=>Db G N (yb G N n)
def Da(G:ao)(N:Nat):gn Tryz.f74 G N:=⟨_,t2 (ak (ak ((IW G N).2) (ak (bh (bH (λm=>(Db G N (yb G N m)).2))) an)) an)⟩
def agO(N:Nat):=c6 Tryz.func74 λG=>(Da G N).2
def IX(G:ao)(N:Nat):hX Tryz.f75 G N (·.ad.ad) (a8 Tryz.f75) []:=⟨_,v0 an⟩
def Dd(G:ao)(N:Nat)(L1:ck):dO 1 6 7 8 Tryz.f75 G N (·.ad.aj.ad.aj.aj) (bO L1 1 6 7 8) [(0,(bu (IX G N)))]:=⟨_,v4 an⟩
def yc(G:ao)(N:Nat):Nat->ck
 |0=>fB
 |n+1=>Dd G N (yc G N n)
def Dc(G:ao)(N:Nat):f_ Tryz.f75 G N:=⟨_,t1 (ak (ak ((IX G N).2) (ak (bh (bH (λm=>(Dd G N (yc G N m)).2))) an)) an)⟩
def agP(N:Nat):=eo Tryz.func75 λG=>(Dc G N).2
def IZ(G:ao)(N:Nat):hX Tryz.f76 G N (·.ad.ad.ad) (a8 Tryz.f76) []:=⟨_,v0 an⟩
def yd(G:ao)(N:Nat)(L1:cF):e6 1 3 7 8 9 Tryz.f76 G N (·.ad.ad.aj.ad.aj.aj) (b3 L1 1 3 7 8 9) [(0,(bu (IZ G N)))]:=⟨_,v5 an⟩
def ur(G:ao)(N:Nat):Nat->cF
 |0=>hW
 |n+1=>yd G N (ur G N n)
def IY(G:ao)(N:Nat):f_ Tryz.f76 G N:=⟨_,t1 (ak (ak (ak ((IZ G N).2) (ak (bh (bH (λm=>(yd G N (ur G N m)).2))) an)) an) an)⟩
def agQ(N:Nat):=eo Tryz.func76 λG=>(IY G N).2
def nX(G:ao):sy 2 3 Tryz.f124 G (·.ad.ad.ad) (a8 Tryz.f124) []:=⟨_,λN=>v2 an⟩
def qg(G:ao):jR 2 3 15 Tryz.f124 G (·.ad.ad.aj.ad.aj.ad) (bd (nX G) 2 3) [(0,(bd (nX G) 2 3))]:=⟨_,λN=>v3 an⟩
def o2(G:ao):eQ Tryz.f124 G:=⟨_,λN=>t2 (ak (ak (ak ((nX G).2 N) (ak (bh (ak ((qg G).2 N) an)) an)) an) an)⟩
def aeZ(N:Nat):=c6 Tryz.func124 λG=>(o2 G).2 N
def tF(G:ao)(N:Nat):eP 5 Tryz.f126 G N (·.ad.ad.ad.ad.ad) (a8 Tryz.f126) []:=⟨_,v1 an⟩
def Bc(G:ao)(N:Nat)(L1:cH):fQ 1 2 5 70 71 72 Tryz.f126 G N (·.ad.ad.ad.ad.aj.ad.aj.aj) (cm L1 1 2 5 70 71 72) [(0,(a6 (tF G N) 5))]:=⟨_,v6 an⟩
def tG(G:ao)(N:Nat):Nat->cH
 |0=>iK
 |n+1=>Bc G N (tG G N n)
def Hc(G:ao)(N:Nat):gn Tryz.f126 G N:=⟨_,pD (ak (ak (ak (ak (ak ((tF G N).2) (ak (bh (bH (λm=>(Bc G N (tG G N m)).2))) an)) an) an) an) an) (x:=trivial)⟩
def ae1(N:Nat):=c6 Tryz.func126 λG=>(Hc G N).2
def Hw(G:ao):uT Tryz.f167 G:=⟨_,λN=>t0 an⟩
def afl(N:Nat):=G2 Tryz.func167 λG=>(Hw G).2 N
def Hx(G:ao):jS Tryz.f168 G:=⟨_,λN=>vc an (x:=trivial)⟩
def afm(N:Nat):=hp Tryz.func168 λG=>(Hx G).2 N
def gk(G:ao):W0 Tryz.f217 G (·.ad.ad) (a8 Tryz.f217) []:=⟨_,λN=>v0 an⟩
def h8(G:ao):jR 1 4 29 Tryz.f217 G (·.ad.aj.ad.aj.ad.ad.ad.ad.ad.ad.ad.ad.ad) (bu (gk G)) [(0,(bu (gk G)))]:=⟨_,λN=>v3 an⟩
def h7(G:ao):jR 1 4 24 Tryz.f217 G (·.ad.aj.ad.aj.ad.ad.ad.ad.ad.ad.ad) (bu (gk G)) [(0,(bu (gk G)))]:=⟨_,λN=>v3 (c9 an (ak ((h8 G).2 N) an))⟩
def h6(G:ao):jR 1 4 19 Tryz.f217 G (·.ad.aj.ad.aj.ad.ad.ad.ad.ad) (bu (gk G)) [(0,(bu (gk G)))]:=⟨_,λN=>v3 (c9 an (ak ((h7 G).2 N) an))⟩
def h5(G:ao):jR 1 4 12 Tryz.f217 G (·.ad.aj.ad.aj.ad.ad.ad) (bu (gk G)) [(0,(bu (gk G)))]:=⟨_,λN=>v3 (c9 an (ak ((h6 G).2 N) an))⟩
def h4(G:ao):jR 1 4 5 Tryz.f217 G (·.ad.aj.ad.aj.ad) (bu (gk G)) [(0,(bu (gk G)))]:=⟨_,λN=>v3 (c9 an (ak ((h5 G).2 N) an))⟩
def hS(G:ao):hr Tryz.f217 G:=⟨_,λN=>t1 (ak (ak ((gk G).2 N) (ak (bh (ak ((h4 G).2 N) an)) an)) an)⟩
def afQ(N:Nat):=eo Tryz.func217 λG=>(hS G).2 N
def H4(G:ao):hr Tryz.f218 G:=⟨_,λN=>q3 an⟩
def afR(N:Nat):=eo Tryz.func218 λG=>(H4 G).2 N
def fL(G:ao):Kh Tryz.f240 G:=⟨_,λN=>t5 an⟩
def oZ(N:Nat):=Rc Tryz.func240 λG=>(fL G).2 N
def Ih(G:ao):eQ Tryz.f241 G:=⟨_,λN=>t2 an⟩
def af3(N:Nat):=c6 Tryz.func241 λG=>(Ih G).2 N
def Ii(G:ao):eQ Tryz.f242 G:=⟨_,λN=>t2 an⟩
def af4(N:Nat):=c6 Tryz.func242 λG=>(Ii G).2 N
def xk(G:ao):eQ Tryz.f243 G:=⟨_,λN=>t2 an⟩
def af5(N:Nat):=c6 Tryz.func243 λG=>(xk G).2 N
def Ik(G:ao)(N:Nat):eP 4 Tryz.f244 G N (·.ad.ad) (a8 Tryz.f244) []:=⟨_,q4 an⟩
def Ck(G:ao)(N:Nat)(L1:cF):e6 3 4 9 10 11 Tryz.f244 G N (·.ad.aj.ad.aj.aj) (b3 L1 3 4 9 10 11) [(0,(a6 (Ik G N) 4))]:=⟨_,nF an⟩
def xl(G:ao)(N:Nat):Nat->cF
 |0=>hW
 |n+1=>Ck G N (xl G N n)
def Ij(G:ao)(N:Nat):nA Tryz.f244 G N:=⟨_,t3 (ak (ak ((Ik G N).2) (ak (bh (bH (λm=>(Ck G N (xl G N m)).2))) an)) an)⟩
def af6(N:Nat):=hp Tryz.func244 λG=>(Ij G N).2
def nY(G:ao):W0 Tryz.f245 G (·.ad.ad.ad) (a8 Tryz.f245) []:=⟨_,λN=>v0 an⟩
def Cl(G:ao):jR 1 3 59 Tryz.f245 G (·.ad.ad.aj.ad.aj.ad.ad.ad.ad.ad.ad.ad) (bu (nY G)) [(0,(bu (nY G)))]:=⟨_,λN=>v3 an⟩
def ub(G:ao):oq 1 3 7 40 Tryz.f245 G (·.ad.ad.aj.ad.aj.ad.ad.ad.ad.ad) (bu (nY G)) [(0,(bu (nY G)))]:=⟨_,λN=>l6 (c9 an (ak ((Cl G).2 N) an)) (x:=trivial)⟩
def ql(G:ao):oq 1 3 7 23 Tryz.f245 G (·.ad.ad.aj.ad.aj.ad.ad.ad) (bu (nY G)) [(0,(bu (nY G)))]:=⟨_,λN=>v4 (c9 an (ak ((ub G).2 N) an))⟩
def lG(G:ao):oq 1 3 7 8 Tryz.f245 G (·.ad.ad.aj.ad.aj.ad) (bu (nY G)) [(0,(bu (nY G)))]:=⟨_,λN=>v4 (c9 an (ak ((ql G).2 N) an))⟩
def Il(G:ao):hr Tryz.f245 G:=⟨_,λN=>t1 (ak (ak (ak ((nY G).2 N) (ak (bh (ak ((lG G).2 N) an)) an)) an) an)⟩
def af7(N:Nat):=eo Tryz.func245 λG=>(Il G).2 N
def Im(G:ao):sC Tryz.f246 G:=⟨_,λN=>Xs an (x:=trivial)⟩
def af8(N:Nat):=oW Tryz.func246 λG=>(Im G).2 N
def Io(G:ao):jS Tryz.f247 G:=⟨_,λN=>t3 an⟩
def af9(N:Nat):=hp Tryz.func247 λG=>(Io G).2 N
def uc(G:ao):jS Tryz.f248 G:=⟨_,λN=>vc an (x:=trivial)⟩
def af_(N:Nat):=hp Tryz.func248 λG=>(uc G).2 N
def me(G:ao):sy 1 3 Tryz.f249 G (·.ad.ad.ad) (a8 Tryz.f249) []:=⟨_,λN=>v2 an⟩
def nZ(G:ao):oq 1 3 7 12 Tryz.f249 G (·.ad.ad.aj.ad.aj.ad.ad.ad) (bd (me G) 1 3) [(0,(bd (me G) 1 3))]:=⟨_,λN=>v4 an⟩
def Ip(G:ao):hr Tryz.f249 G:=⟨_,λN=>t1 (ak (ak (ak ((me G).2 N) (ak (bh (ak (c9 an (ak ((nZ G).2 N) an)) an)) an)) an) an)⟩
def aga(N:Nat):=eo Tryz.func249 λG=>(Ip G).2 N
def uh(G:ao)(N:Nat):ew 1 3 4 Tryz.f258 G N (·.ad.ad.ad.ad.ad.ad) (a8 Tryz.f258) []:=⟨_,v3 an⟩
def Co(G:ao)(N:Nat)(L1:cH):fQ 1 3 4 43 44 45 Tryz.f258 G N (·.ad.ad.ad.ad.ad.aj.ad.aj.aj) (cm L1 1 3 4 43 44 45) [(0,(bo (uh G N) 1 3 4))]:=⟨_,pE an⟩
def xr(G:ao)(N:Nat):Nat->cH
 |0=>iK
 |n+1=>Co G N (xr G N n)
def Iu(G:ao)(N:Nat):f_ Tryz.f258 G N:=⟨_,t1 (ak (ak (ak (ak (ak (ak ((uh G N).2) (ak (bh (bH (λm=>(Co G N (xr G N m)).2))) an)) an) an) an) an) an)⟩
def agh(N:Nat):=eo Tryz.func258 λG=>(Iu G N).2
def Cp(G:ao):eQ Tryz.f259 G:=⟨_,λN=>t2 an⟩
def agi(N:Nat):=c6 Tryz.func259 λG=>(Cp G).2 N
def xt(G:ao):jS Tryz.f260 G:=⟨_,λN=>vc an (x:=trivial)⟩
def agj(N:Nat):=hp Tryz.func260 λG=>(xt G).2 N
def Hb(G:ao):hr Tryz.f125 G:=⟨_,λN=>t1 an⟩
def ae0(N:Nat):=eo Tryz.func125 λG=>(Hb G).2 N
end
end
section
open Go.a2
set_option maxRecDepth 2000
section
variable {H:ae}{ok:Nat->Prop}
def Gv:W (aK P aD 167 [] H) λr H'=>r=c8 bw/\aw H H':=by
 refine afl 0 ?_;refine qC @Hw.eq_1 ?_;exact aE.2 ⟨rfl,(aw.refl _).eO _⟩
def FA(t:cS):W (aK P aD 125 [c8 t] H) λr H'=>r= C (kZ t)/\aw H H':=by
 refine ae0 0 ?_;refine o7 @Hb.eq_1 @kk @cj.eq_1 ?_;cases a:(t.b==3)with
 |true=>
  refine nh ?_;exact aE.2 ⟨by simp[kZ,a],(aw.refl _).eO _⟩
 |false=>
  refine nh ?_;exact aE.2 ⟨by simp[kZ,a],(aw.refl _).eO _⟩
theorem z8{x:bq}{v:af}(aF:cE H ok x v)(t:cS):W (aK P aD 124 [v,c8 t] H) λr H'=>r= C (eK x.ca.length t)/\aw H H':=by
 obtain⟨_,rfl,a,b,c,d,rfl,ah,ai,ay,aM⟩:=aF;refine aeZ 0 ?_;have k:aw H ((H.push (.row I 5 [[a,b,c,d,D F x.main]])).push (.row I 3 [[D F t.b,D F t.r,D F t.d]])):=((aw.refl _).eO _).eO _;unfold eK;by_cases e:t.d<0
 ·refine gE @nX.eq_1 @qg.eq_1 @o2.eq_1 @kk @cj.eq_1 (ag (dQ ah ai ay aM) e) ?_;grind[aE]
 ·by_cases f:3<t.d
  ·refine gE @nX.eq_1 @qg.eq_1 @o2.eq_1 @kk @cj.eq_1 (ag (dQ ah ai ay aM) (ag e f)) ?_;grind[aE]
  ·have j:decide (0<=t.d/\t.d<=3)=true:=al;rw[j];cases g:(t.b==1)with
   |true=>
    refine gE @nX.eq_1 @qg.eq_1 @o2.eq_1 @kk @cj.eq_1 (ag (dQ ah ai ay aM) (ag e (ag f g))) ?_;grind[aE]
   |false=>
    cases h:(t.b==2)with
    |true=>
     refine gE @nX.eq_1 @qg.eq_1 @o2.eq_1 @kk @cj.eq_1 (ag (dQ ah ai ay aM) (ag e (ag f (ag g h)))) ?_;grind[aE]
    |false=>
     cases i:(t.b==3)with
     |true=>
      by_cases au:0<=t.r
      ·refine gE @nX.eq_1 @qg.eq_1 @o2.eq_1 @kk @cj.eq_1 (ag (dQ ah ai ay aM) (ag e (ag f (ag g (ag h (ag i (ag au (ah.bf fx)))))))) ?_;grind[aE]
      ·refine gE @nX.eq_1 @qg.eq_1 @o2.eq_1 @kk @cj.eq_1 (ag (dQ ah ai ay aM) (ag e (ag f (ag g (ag h (ag i au)))))) ?_;grind[aE]
     |false=>
      refine gE @nX.eq_1 @qg.eq_1 @o2.eq_1 @kk @cj.eq_1 (ag (dQ ah ai ay aM) (ag e (ag f (ag g (ag h i))))) ?_;grind[aE]
end
end
section
open Go.a2
set_option maxRecDepth 2000
section
variable {H:ae}{ok:Nat->Prop}
theorem NP{x:bq}{l:List cS}{v:af}{a b cc d:af}{zX:Nat}(h:l.length<=1000000000){N:Nat}:∀(j k m:Nat) (H:ae),k+j=l.length->j<m->aI fc H ok l v->H.get zX=A (.row I 5 [[a,b,cc,d,D F x.main]])->cE H ok x (.agg [a,b,cc,d,D F x.main])->
  W (yb (aK P aD) N m (.ptr zX 0 0) v (D F l.length) (D F k) H) λr H'=>r= C ((l.drop k).all (eK x.ca.length))/\aw H H'
 |_,_,0,_,_,hm,_,_,_=>aa
 |0,k,m+1,H,i,_,ar,aQ,aF=>by
  have B:¬(k:Int)<(l.length:Int):=aa;refine yW @IW.eq_1 @Db.eq_1 @yb.eq_2 @Da.eq_1 ?_;grind[aE,aw.refl]
 |j+1,k,m+1,H,i,hm,ar,aQ,aF=>by
  have o:k<l.length:=aa;obtain⟨L,n,ro,els,w,t,_,g,e,rfl⟩:=ar.at_ (K:=fc) cW (j:=(k:Int)) (a:=l[k]) aa al;have y:=ae.bm g;have z:=ae.bm aQ;have f:H.get L=A (.row ro 3 els):=g;rw[cj]at e;have on:=NP (x:=x) (l:=l) (v:=v) (a:=a) (b:=b) (cc:=cc) (d:=d) (zX:=zX) h (N:=N) j (k+1) m;rw[List.drop_eq_getElem_cons o,List.all_cons];have c:=aw.push H (.row I 3 [cj l[k]]);refine gE @yb.eq_2 @Db.eq_1 t f e aQ ?_;refine bz (z8 (aF.aC c) l[k]) λH1 p=> ?_
  have q:=c.trans p;cases E:eK x.ca.length l[k]with
  |false=>
   refine bM ?_;grind[aE]
  |true=>
   refine bM ?_;refine(on H1 aa aa (ar.aC q) (q.get aQ) (aF.aC q)).mono ?_;rintro r u ⟨rfl,s⟩;exact⟨aW,q.trans s⟩
def NQ{x:bq}{l:List cS}{v w:af}(aF:cE H ok x v)(ar:aI fc H ok l w)(e:l.length<=1000000000):W (aK P aD 74 [v,w] H) λr H'=>r= C (l.all (eK x.ca.length))/\aw H H':=by
 obtain⟨_,rfl,a,b,cc,d,rfl,ah,ai,ay,aM⟩:=aF;refine agO (l.length+1) ?_;have c:=aw.push H (.row I 5 [[a,b,cc,d,D F x.main]]);refine cu @Da.eq_1 @eU.eq_1 (dQ ah ai ay aM) (ar.bf cW) ?_;refine(NP (x:=x) e l.length 0 (l.length+1) _ aa aa (ar.aC c) (ae.a1 _ _) ⟨_,rfl,a,b,cc,d,rfl,ah.aC c,ai.aC c,ay.aC c,aM.aC c⟩).mono ?_;rintro r g ⟨rfl,f⟩;exact⟨aW,c.trans f⟩
theorem NK{x:bq}{a b cc d:af}{zX:Nat}(B:x.sites.length<=1000000000){N:Nat}:∀(j k m:Nat) (H:ae),k+j=x.sites.length->j<m->H.get zX=A (.row I 5 [[a,b,cc,d,D F x.main]])->cE H ok x (.agg [a,b,cc,d,D F x.main])->
  W (yc (aK P aD) N m (.ptr zX 0 0) d (D F x.sites.length) (D F k) H) λr H'=>r= C ((x.sites.drop k).all (jJ x))/\aw H H'
 |_,_,0,_,_,hm,_,_=>aa
 |0,k,m+1,H,E,_,aQ,aF=>by
  have Y:¬(k:Int)<(x.sites.length:Int):=aa;refine yW @IX.eq_1 @Dd.eq_1 @yc.eq_2 @Dc.eq_1 ?_;grind[aE,aw.refl]
 |j+1,k,m+1,H,E,hm,aQ,aF=>by
  have o:=aF;obtain⟨_,v,bY,b',R,T,w,ah,ai,ay,aM⟩:=aF;cases v;cases w;have G:k<x.sites.length:=aa;obtain⟨L,n,ro,els,S,O,_,g,e,rfl⟩:=aM.at_ (K:=nx) fV (j:=(k:Int)) (a:=x.sites[k]) aa al;have U:=ae.bm g;have V:=ae.bm aQ;have y:H.get L=A (.row ro 4 els):=g;rw[cj]at e;have on:=NK (x:=x) (a:=a) (b:=b) (cc:=cc) (d:=d) (zX:=zX) B (N:=N) j (k+1) m;rw[List.drop_eq_getElem_cons G,List.all_cons];generalize x.sites[k]=z at*;have t:=aw.push H (.row I 4 [[D F z.f,D F z.ty.b,D F z.ty.r,D F z.ty.d]]);have aT:=e8 (show k<=1000000000 by omega);refine gE @yc.eq_2 @Dd.eq_1 O y e aQ ?_
  refine bz (z8 (o.aC t) z.ty) λH1 p=> ?_
  have q:=t.trans p;have l:H1.get H.next=A (.row I 4 [[D F z.f,D F z.ty.b,D F z.ty.r,D F z.ty.d]]):=p.get (ae.a1 _ _)
  cases ab:eK x.ca.length z.ty with
  |false=>
   refine nh ?_;grind[aE,jJ]
  |true=>
   refine qC l ?_;refine cY (FA z.ty) λu s=> ?_
   have i:=q.trans s;have h:=s.get l;have c:=i.get aQ;cases au:kZ z.ty with
   |false=>
    refine nh ?_;grind[aE,jJ]
   |true=>
    by_cases bu:z.f<0
    ·simp-implicitDefEqProofs(disch:=try exact aY)only[reduceAdd,reduceLeDiff,reduceIte,e3,Bool.not_true,h,bu,decide_true];grind[aE,jJ]
    by_cases a6:(x.ax.length:Int)<=z.f
    ·simp-implicitDefEqProofs(disch:=try exact aY)only[reduceAdd,reduceLeDiff,reduceIte,e3,Bool.not_true,h,c,ay.len cG,bu,a6,decide_true,decide_false];grind[aE,jJ]
    have aB:decide (0<=z.f/\z.f<(x.ax.length:Int))=true:=al;simp-implicitDefEqProofs(disch:=try exact aY)only[reduceAdd,reduceLeDiff,reduceIte,e3,Bool.not_true,h,c,ay.len cG,bu,a6,decide_false,aT];refine(on u aa aa c (o.aC i)).mono ?_;rintro r Q ⟨rfl,M⟩;exact⟨by grind[jJ],i.trans M⟩
def aa4{x:bq}{v:af}(aF:cE H ok x v)(e:x.sites.length<=1000000000):W (aK P aD 75 [v] H) λr H'=>r= C (x.sites.all (jJ x))/\aw H H':=by
 obtain⟨_,rfl,a,b,cc,d,rfl,ah,ai,ay,aM⟩:=aF;refine agP (x.sites.length+1) ?_;have c:=aw.push H (.row I 5 [[a,b,cc,d,D F x.main]]);refine bb @Dc.eq_1 aa @eU.eq_1 (dQ ah ai ay aM) (oN (ae.a1 H (.row I 5 [[a,b,cc,d,D F x.main]]))) (aM.bf fV) ?_;refine(NK (x:=x) e x.sites.length 0 (x.sites.length+1) _ aa aa (ae.a1 _ _) ⟨_,rfl,a,b,cc,d,rfl,ah.aC c,ai.aC c,ay.aC c,aM.aC c⟩).mono ?_;rintro r g ⟨rfl,f⟩;exact⟨aW,c.trans f⟩
