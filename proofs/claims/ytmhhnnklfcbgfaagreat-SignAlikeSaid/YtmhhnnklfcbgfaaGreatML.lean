/-
  Texts of one proof, laid together: Ob Oc Od Oe Of.
-/
import Derived.Test.YtmhhnnklfcbgfaaGreatMK
set_option linter.unusedVariables false
set_option linter.unusedSimpArgs false
set_option linter.defProp false
open Option renaming some→D
open Bool renaming true→C,false→Z
open Go.bo.aa renaming int→J,str→F,bool→y
open Go.IntKind renaming i64→X
namespace Go.Proofs.YtmhhnnklfcbgfaaGreat
open Go.bo
section
open Go.bp
section
variable {H:ad}{ok:Nat->Prop}
def Ew{x:bQ}{l:List cz}{v:aa}{a b cc d:aa}{zX:Nat}(p:l.length<=1000000000){N:Nat}:∀(j k m:Nat) (H:ad),k+j=l.length->j<m->aZ ei H ok l v->H.get zX=D (.row Z 5 [[a,b,cc,d,J X x.main]])->c2 H ok x (.agg [a,b,cc,d,J X x.main])->
  W (ny (aC P ax) N m (.ptr zX 0 0) v (J X l.length) (J X k) H) λr H'=>r= y ((l.drop k).all (dB x.b1.length))/\ay H H'
 |_,_,0,_,_,hm,_,_,_=>ai
 |0,k,m+1,H,s,_,az,aT,aD=>by
  have c:¬(k:Int)<(l.length:Int):=ai;simp-implicitDefEqProofs(disch:=try exact al)only[rL,u6,ny,bM,c,decide_false];refine aK.2 ⟨?_,ay.refl _⟩;rw[List.drop_of_length_le ai];rfl
 |j+1,k,m+1,H,s,hm,az,aT,aD=>by
  have c:(k:Int)<(l.length:Int):=ai;have f:k<l.length:=ai;obtain⟨L,n,ro,els,z,u,_,g,e,rfl⟩:=az.at_ (K:=ei) dh (j:=(k:Int)) (a:=l[k]) ai (by simp[f]);have A:=ad.b6 g;have B:=ad.b6 aT;have o:H.get L=D (.row ro 3 els):=g;have G:zX≠H.next:=ai
  rw[b7]at e;have on:=Ew (x:=x) (l:=l) (v:=v) (a:=a) (b:=b) (cc:=cc) (d:=d) (zX:=zX) p (N:=N) j (k+1) m;rw[List.drop_eq_getElem_cons f,List.all_cons];have i:=ay.push H (.row Z 3 [b7 l[k]]);simp-implicitDefEqProofs(disch:=try exact al)only[ny,u6,Nat.reduceAdd,bM,c,decide_true,u,o,e,aT];refine bk (we (aD.aI i) l[k]) ?_;rintro _ H1 ⟨rfl,h⟩;refine⟨h.1,?_⟩;have q:=i.trans h;cases E:dB x.b1.length l[k]with
  |false=>
   simp-implicitDefEqProofs(disch:=try exact al)only[aq,Bool.not_false];exact aK.2 ⟨by simp,q⟩
  |true=>
   simp-implicitDefEqProofs(disch:=try exact al)only[aq,aG,Bool.not_true,c3 (show k<=1000000000 by omega)];refine(on H1 ai ai (az.aI q) (q.get aT) (aD.aI q)).mono ?_;rintro r w ⟨rfl,t⟩;exact⟨by simp,q.trans t⟩
def Ex{x:bQ}{l:List cz}{v w:aa}(aD:c2 H ok x v)(az:aZ ei H ok l w)(e:l.length<=1000000000):W (aC P ax 74 [v,w] H) λr H'=>r= y (l.all (dB x.b1.length))/\ay H H':=by
 obtain⟨_,rfl,a,b,cc,d,rfl,ae,ah,ak,au⟩:=aD;refine bZ (λ_=>U0 (l.length+1)) ?_;have c:=ay.push H (.row Z 5 [[a,b,cc,d,J X x.main]]);simp-implicitDefEqProofs(disch:=try exact al)only[rK,aq,bf,dZ ae ah ak au,az.len dh];refine(Ew (x:=x) e l.length 0 (l.length+1) _ ai ai (az.aI c) (ad.bq _ _) ⟨_,rfl,a,b,cc,d,rfl,ae.aI c,ah.aI c,ak.aI c,au.aI c⟩).mono ?_;rintro r g ⟨rfl,f⟩;exact⟨by simp,c.trans f⟩
def Es{x:bQ}{a b cc d:aa}{zX:Nat}(S:x.sites.length<=1000000000){N:Nat}:∀(j k m:Nat) (H:ad),k+j=x.sites.length->j<m->H.get zX=D (.row Z 5 [[a,b,cc,d,J X x.main]])->c2 H ok x (.agg [a,b,cc,d,J X x.main])->
  W (nz (aC P ax) N m (.ptr zX 0 0) d (J X x.sites.length) (J X k) H) λr H'=>r= y ((x.sites.drop k).all (gV x))/\ay H H'
 |_,_,0,_,_,hm,_,_=>ai
 |0,k,m+1,H,T,_,aT,aD=>by
  have p:¬(k:Int)<(x.sites.length:Int):=ai;simp-implicitDefEqProofs(disch:=try exact al)only[rN,u7,nz,bM,p,decide_false];refine aK.2 ⟨?_,ay.refl _⟩;rw[List.drop_of_length_le ai];rfl
 |j+1,k,m+1,H,T,hm,aT,aD=>by
  have E:=aD;obtain⟨_,O,ck,b',ab,ag,Q,ae,ah,ak,au⟩:=aD;cases O;cases Q;have p:(k:Int)<(x.sites.length:Int):=ai;have w:k<x.sites.length:=ai;obtain⟨L,n,ro,els,af,V,_,g,e,rfl⟩:=au.at_ (K:=kc) e4 (j:=(k:Int)) (a:=x.sites[k]) ai (by simp[w]);have aj:=ad.b6 g;have am:=ad.b6 aT;have R:H.get L=D (.row ro 4 els):=g;have an:zX≠H.next:=ai
  rw[b7]at e;have on:=Es (x:=x) (a:=a) (b:=b) (cc:=cc) (d:=d) (zX:=zX) S (N:=N) j (k+1) m;rw[List.drop_eq_getElem_cons w,List.all_cons];generalize x.sites[k]=z at*;have G:=ay.push H (.row Z 4 [[J X z.f,J X z.ty.b,J X z.ty.r,J X z.ty.d]]);have aY:=c3 (show k<=1000000000 by omega);simp-implicitDefEqProofs(disch:=try exact al)only[nz,u7,Nat.reduceAdd,bM,p,decide_true,V,R,e,aT];refine bk (we (E.aI G) z.ty) ?_;rintro _ H1 ⟨rfl,s⟩;refine⟨s.1,?_⟩;have q:=G.trans s;have v:H1.get H.next=D (.row Z 4 [[J X z.f,J X z.ty.b,J X z.ty.r,J X z.ty.d]]):=s.get (ad.bq _ _)
  cases A:dB x.b1.length z.ty with
  |false=>
   simp-implicitDefEqProofs(disch:=try exact al)only[bM,Bool.not_false];exact aK.2 ⟨by simp[gV,A],q⟩
  |true=>
   simp-implicitDefEqProofs(disch:=try exact al)only[Nat.reduceAdd,bM,Bool.not_true,v];refine cE (zF z.ty) ?_;rintro _ M ⟨rfl,t⟩;refine⟨t.1,?_⟩;have c:=q.trans t;have l:=t.get v;have i:=c.get aT;cases B:h8 z.ty with
   |false=>
    simp-implicitDefEqProofs(disch:=try exact al)only[bM,Bool.not_false];exact aK.2 ⟨by simp[gV,B],c⟩
   |true=>
    by_cases h:z.f<0
    ·simp-implicitDefEqProofs(disch:=try exact al)only[bM,Bool.not_true,l,h,decide_true];exact aK.2 ⟨by simp[gV,show¬0<=z.f by omega],c⟩
    by_cases u:(x.o.length:Int)<=z.f
    ·simp-implicitDefEqProofs(disch:=try exact al)only[Nat.reduceAdd,bM,Bool.not_true,l,i,ak.len c0,h,u,decide_true,decide_false];exact aK.2 ⟨by simp[gV,show¬z.f<(x.o.length:Int) by omega],c⟩
    have aN:decide (0<=z.f/\z.f<(x.o.length:Int))=true:=by simp;omega
    simp-implicitDefEqProofs(disch:=try exact al)only[Nat.reduceAdd,bM,Bool.not_true,l,i,ak.len c0,h,u,decide_false,aY];refine(on M ai ai i (E.aI c)).mono ?_;rintro r Y ⟨rfl,U⟩;exact⟨by rw[gV,aN,A,B];simp,c.trans U⟩
def OM{x:bQ}{v:aa}(aD:c2 H ok x v)(e:x.sites.length<=1000000000):W (aC P ax 75 [v] H) λr H'=>r= y (x.sites.all (gV x))/\ay H H':=by
 obtain⟨_,rfl,a,b,cc,d,rfl,ae,ah,ak,au⟩:=aD;refine bZ (λ_=>U1 (x.sites.length+1)) ?_;have c:=ay.push H (.row Z 5 [[a,b,cc,d,J X x.main]]);simp-implicitDefEqProofs(disch:=try exact al)only[rM,aq,aM,Nat.zero_add,bf,dZ ae ah ak au,k7 (ad.bq H (.row Z 5 [[a,b,cc,d,J X x.main]])),au.len e4];refine(Es (x:=x) e x.sites.length 0 (x.sites.length+1) _ ai ai (ad.bq _ _) ⟨_,rfl,a,b,cc,d,rfl,ae.aI c,ah.aI c,ak.aI c,au.aI c⟩).mono ?_;rintro r g ⟨rfl,f⟩;exact⟨by simp,c.trans f⟩
end
end
section
open Go.bp
section
variable {H:ad}{ok:Nat->Prop}
def Ek{x:bQ}{l:List cz}{v rv:aa}{a b cc d:aa}{zX r n:Nat}(G:r<=1000000)(A:l.length<=1000000){L1:aa->aa->aa->aa->ad->O}{Q:aa->ad->Prop}{N:Nat}:
  ∀(j k m:Nat) (H:ad),k+j=l.length->j<m->H.get zX=D (.row Z 5 [[a,b,cc,d,J X x.main]])->c2 H ok x (.agg [a,b,cc,d,J X x.main])->aZ js H ok l v->
  ((l.drop k).all (dB x.b1.length)=Z->∀H',ay H H'->Q (y Z) H')->((l.drop k).all (dB x.b1.length)=C->∀H',ay H H'->W (L1 (.ptr zX 0 0) rv (J X n) (J X ((r+1:Nat):Int)) H') Q)->
  W (nx (aC P ax) N L1 m (.ptr zX 0 0) rv (J X n) (J X r) v (J X l.length) (J X k) H) Q
 |_,_,0,_,_,E,_,_,_,_,_=>ai
 |0,k,m+1,H,B,_,aT,aD,i,c,dp=>by
  have h:¬(k:Int)<(l.length:Int):=ai;have:=dp (by rw[List.drop_of_length_le ai];rfl) H (ay.refl _);simp-implicitDefEqProofs(disch:=try exact al)only[nx,u5,o9,aq,aG,h,decide_false,c3 (show r<=1000000000 by omega)];exact this
 |j+1,k,m+1,H,B,E,aT,aD,i,c,dp=>by
  have h:(k:Int)<(l.length:Int):=ai;have o:k<l.length:=ai;obtain⟨L,q,ro,els,R,M,_,g,e,s,rfl⟩:=i.at_ (K:=js) hs (j:=(k:Int)) (a:=l[k]) ai (by simp[o]);have S:=ad.b6 g;have T:=ad.b6 aT;have z:H.get L=D (.row ro 4 els):=g;have U:zX≠H.next:=ai
  rw[b7]at e;have on:=Ek (x:=x) (l:=l) (v:=v) (rv:=rv) (a:=a) (b:=b) (cc:=cc) (d:=d) (zX:=zX) (r:=r) (n:=n) G A (L1:=L1) (Q:=Q) (N:=N) j (k+1) m;rw[List.drop_eq_getElem_cons o,List.all_cons]at c dp;have w:=ay.push H (.row Z 4 [F s::b7 l[k]]);simp-implicitDefEqProofs(disch:=try exact al)only[nx,u5,Nat.reduceAdd,bM,h,decide_true,M,z,e,aT];refine bk (we (aD.aI w) l[k]) ?_;rintro _ H1 ⟨rfl,u⟩;refine⟨u.1,?_⟩;have q:=w.trans u;cases t:dB x.b1.length l[k]with
  |false=>
   simp-implicitDefEqProofs(disch:=try exact al)only[aq,Bool.not_false];exact aK.2 (c (by rw[t];rfl) H1 q)
  |true=>
   rw[t,Bool.true_and]at c dp;simp-implicitDefEqProofs(disch:=try exact al)only[aq,aG,Bool.not_true,c3 (show k<=1000000000 by omega)];exact on H1 ai ai (q.get aT) (aD.aI q) (i.aI q) (λf H' p=>c f H' (q.trans p)) λf H' p=>dp f H' (q.trans p)
def Ep{x:bQ}{a b cc d:aa}{zX:Nat}(O:x.b1.length<=1000000){N:Nat}(E:8<N):
  ∀(j k m:Nat) (H:ad),k+j=x.b1.length->j<m->H.get zX=D (.row Z 5 [[a,b,cc,d,J X x.main]])->c2 H ok x (.agg [a,b,cc,d,J X x.main])->
  W (lC (aC P ax) N m (.ptr zX 0 0) a (J X x.b1.length) (J X k) H) λr H'=>r= y ((x.b1.drop k).all (j1 x))/\ay H H'
 |_,_,0,_,_,M,_,_=>ai
 |0,k,m+1,H,G,_,aT,aD=>by
  have h:¬(k:Int)<(x.b1.length:Int):=ai;simp-implicitDefEqProofs(disch:=try exact al)only[lC,rJ,nw,aq,aG,h,decide_false];refine aK.2 ⟨?_,ay.refl _⟩;rw[List.drop_of_length_le ai];rfl
 |j+1,k,m+1,H,G,M,aT,aD=>by
  have v:=aD;obtain⟨_,z,ck,b',S,U,A,ae,ah,ak,au⟩:=aD;cases z;cases A;have h:(k:Int)<(x.b1.length:Int):=ai;have u:k<x.b1.length:=ai;obtain⟨L,n,ro,els,T,w,_,g,e,s,fv,rfl,aN⟩:=ae.at_ (K:=kb) en (j:=(k:Int)) (a:=x.b1[k]) ai (by simp[u]);have V:=ad.b6 g;have Y:=ad.b6 aT;have o:H.get L=D (.row ro 2 els):=g;have t:=aN.one;have on:=Ep (x:=x) (a:=a) (b:=b) (cc:=cc) (d:=d) (zX:=zX) O E j (k+1) m;rw[List.drop_eq_getElem_cons u,List.all_cons,j1];have c:=ay.push H (.row Z 2 [[F s,fv]]);by_cases i:(8:Int)<(x.b1[k].length:Int)
  ·simp-implicitDefEqProofs(disch:=try exact al)only[lC,rJ,Nat.reduceAdd,bM,h,decide_true,w,o,e,t,aN.len hs,i];exact aK.2 ⟨by simp[show¬x.b1[k].length<=8 by omega],c⟩
  ·have B:decide (x.b1[k].length<=8)=true:=by simp;omega
   simp-implicitDefEqProofs(disch:=try exact al)only[lC,rJ,Nat.reduceAdd,bM,h,decide_true,decide_false,w,o,e,t,aN.len hs,i];rw[B,Bool.true_and];refine Ek (x:=x) (l:=x.b1[k]) ai ai x.b1[k].length 0 N _ ai ai (c.get aT) (v.aI c) (aN.aI c) (λf H' p=> ?_) λf H' p=> ?_
   ·rw[List.drop_zero]at f;exact⟨by rw[f];simp,c.trans p⟩
   ·rw[List.drop_zero]at f;have q:=c.trans p;refine(on H' ai ai (q.get aT) (v.aI q)).mono ?_;rintro r R ⟨rfl,Q⟩;exact⟨by rw[f];simp,q.trans Q⟩
def ZJ{x:bQ}{v:aa}(aD:c2 H ok x v)(e:x.b1.length<=1000000):W (aC P ax 73 [v] H) λr H'=>r= y (x.b1.all (j1 x))/\ay H H':=by
 obtain⟨_,rfl,a,b,cc,d,rfl,ae,ah,ak,au⟩:=aD;refine bZ (λ_=>UZ (x.b1.length+9)) ?_;have c:=ay.push H (.row Z 5 [[a,b,cc,d,J X x.main]]);simp-implicitDefEqProofs(disch:=try exact al)only[rI,aq,aM,Nat.zero_add,bf,dZ ae ah ak au,k7 (ad.bq H (.row Z 5 [[a,b,cc,d,J X x.main]])),ae.len en];refine(Ep (ok:=ok) (x:=x) e (N:=x.b1.length+9) ai x.b1.length 0 (x.b1.length+9) _ ai ai (ad.bq _ _) ⟨_,rfl,a,b,cc,d,rfl,ae.aI c,ah.aI c,ak.aI c,au.aI c⟩).mono ?_;rintro r g ⟨rfl,f⟩;exact⟨by simp,c.trans f⟩
end
end
section
open Go.bp
def cf(i:In)(wi:aa):List aa:=[J X i.op,J X i.a,J X i.b,J X i.c,J X i.n,wi]
def cl(x:bQ)(f:Nat)(c:b3)(i:In)(a b cc d v w wi:aa):List aa:=[a,b,cc,d,J X x.main,J X f,J X c.params,v,y c.has,J X c.res.b,J X c.res.r,J X c.res.d,w,J X i.op,J X i.a,J X i.b,J X i.c,J X i.n,wi]
structure gb(H:ad)(ok:Nat->Prop)(x:bQ)(c:b3)(i:In)(a b cc d v w wi:aa):Prop where
 ae:aZ kb H ok x.b1 a
 ah:aZ ei H ok x.globals b
 ak:aZ fr H ok x.o cc
 au:aZ kc H ok x.sites d
 b8:aZ ei H ok c.vars v
 cg:aZ e7 H ok c.ins w
 i1:aZ bu H ok i.args wi
def gb.aI{H H':ad}{ok:Nat->Prop}{x:bQ}{c:b3}{i:In}{a b cc d v w wi:aa}(s:gb H ok x c i a b cc d v w wi)(p:ay H H'):gb H' ok x c i a b cc d v w wi:=
 ⟨s.ae.aI p,s.ah.aI p,s.ak.aI p,s.au.aI p,s.b8.aI p,s.cg.aI p,s.i1.aI p⟩
section
variable {H:ad}{ok:Nat->Prop}{x:bQ}{f:Nat}{c:b3}{i:In}{a b cc d v w wi:aa}
def gE(s:gb H ok x c i a b cc d v w wi)(f l:Nat):b0 l (.agg (cl x f c i a b cc d v w wi))=D (.ptr l 0 0,.row Z 19 [cl x f c i a b cc d v w wi]):=
 nV l _ (by have e:=s.ae.one;have g:=s.ah.one;have h:=s.ak.one;have j:=s.au.one;have k:=s.b8.one;have m:=s.cg.one;have n:=s.i1.one;simp[cl,e,g,h,j,k,m,n];simp[aa.one])
section
variable {zX:Nat}(g:H.get zX=D (.row Z 19 [cl x f c i a b cc d v w wi]))
include g
theorem cG:aj P H 280 (.ptr zX 0 0)=D (.agg (cl x f c i a b cc d v w wi)):=
 fY (n:=19) (i:=0) (c:=0) ag ag g rfl (by simp[])
theorem wJ:aj P H 89 (.ptr zX 0 13)=D (.agg (cf i wi)):=
 fY (n:=6) (i:=0) (c:=13) ag ag g rfl (by simp[])
theorem Pt:aj P H 46 (.ptr zX 0 9)=D (cX c.res):=
 fY (n:=3) (i:=0) (c:=9) ag ag g rfl (by simp[])
theorem fo:aj P H 3 (.ptr zX 0 5)=D (J X f)/\aj P H 22 (.ptr zX 0 0)=D a/\aj P H 23 (.ptr zX 0 1)=D b/\aj P H 24 (.ptr zX 0 2)=D cc/\aj P H 25 (.ptr zX 0 3)=D d
  /\aj P H 23 (.ptr zX 0 7)=D v/\aj P H 4 (.ptr zX 0 8)=D (y c.has)/\aj P H 47 (.ptr zX 0 12)=D w:=by
 rw[cl]at g;simp-implicitDefEqProofs(disch:=try exact al)only[bM,g]
end
def kP(s:gb H ok x c i a b cc d v w wi)(n:Int)(G:c.vars.length<=1000000000):W (aC P ax 243 [.agg (cl x f c i a b cc d v w wi),J X n] H) λr H'=>r=cX (a1 c n)/\ay H H':=by
 refine bZ (λ_=>Uv 0) ?_;have h:=gE s f;have q:ay (H.push (.row Z 19 [cl x f c i a b cc d v w wi])) ((H.push (.row Z 19 [cl x f c i a b cc d v w wi])).push (.row Z 3 [[J X 0,J X 0,J X 0]])):=ay.push _ _;have k:=(ay.push H (.row Z 19 [cl x f c i a b cc d v w wi])).trans q;have g:((H.push (.row Z 19 [cl x f c i a b cc d v w wi])).push (.row Z 3 [[J X 0,J X 0,J X 0]])).get (H.next+1)=D (.row Z 3 [b7 bt]):=ad.bq _ _;have aT:=q.get (ad.bq H (.row Z 19 [cl x f c i a b cc d v w wi]));have bad:a1 c n=bt->W (aU ((H.push (.row Z 19 [cl x f c i a b cc d v w wi])).push (.row Z 3 [[J X 0,J X 0,J X 0]])) (aC P ax 167 [] ((H.push (.row Z 19 [cl x f c i a b cc d v w wi])).push (.row Z 3 [[J X 0,J X 0,J X 0]]))) λE m=>bY m (bA P m 46 (.ptr (H.next+1) 0 0) E) λl=>af (aj P l 46 (.ptr (H.next+1) 0 0)) λr=>D (r,l)) λr H'=>r=cX (a1 c n)/\ay H H':=by
  intro aS;refine bk Av ?_;rintro _ K ⟨rfl,p⟩;refine⟨p.1,?_⟩;have fz:=p.get g;have t:=ad.b6 fz;simp-implicitDefEqProofs(disch:=try exact al)only[aq,yq fz,a_ (ad.dA t)];exact aK.2 ⟨by rw[aS],(k.trans p).lF ai _⟩
 by_cases e:n<0
 ·simp-implicitDefEqProofs(disch:=try exact al)only[m2,Nat.reduceAdd,aq,aO,aG,ad.ds,h,ad.ds,e,decide_true];exact bad (by rw[a1,eL.2 (.inl e)];rfl)
 ·by_cases az:(c.vars.length:Int)<=n
  ·simp-implicitDefEqProofs(disch:=try exact al)only[m2,Nat.reduceAdd,aq,aO,aG,aM,ad.ds,h,fo aT,e,az,s.b8.len dh,decide_true,decide_false];exact bad (by rw[a1,eL.2 (.inr az)];rfl)
  ·have o:n.toNat<c.vars.length:=ai;obtain⟨p,cs,z,A,rfl⟩:=(s.b8.aI k).agg (K:=ei) dh r_ (j:=n) (a:=c.vars[n.toNat]) ai (by simp[o]);have B:aj P ((H.push (.row Z 19 [cl x f c i a b cc d v w wi])).push (.row Z 3 [[J X 0,J X 0,J X 0]])) 46 p=D (cX c.vars[n.toNat]):=A;have u:=ad.b6 g;simp-implicitDefEqProofs(disch:=try exact al)only[m2,Nat.reduceAdd,aq,aO,aG,aM,ad.ds,h,fo aT,e,az,s.b8.len dh,z,B,yq g,a_ (ad.dA u),decide_false];refine aK.2 ⟨?_,k.lF ai _⟩;rw[a1,hj ai,List.getElem?_eq_getElem o];rfl
def ev(c:b3)(t:cz)(l:List Int):Bool:=l.all (λn=>decide (a1 c n=t))&&decide (t≠bt)
def Er(c:b3)(t:cz)(a:Int)(l:List Int):ev c t (a::l)=(decide (a1 c a=t)&&ev c t l):=by rw[ev,ev,List.all_cons,Bool.and_assoc]
def Jg{t:cz}{l:List Int}{lv:aa}{ok':Nat->Prop}{zX T:Nat}(n:c.vars.length<=1000000000)(u:l.length<=1000000000){N:Nat}:∀(j k m:Nat) (H:ad),k+j=l.length->j<m->H.get zX=D (.row Z 19 [cl x f c i a b cc d v w wi])->H.get T=D (.row Z 3 [b7 t])->gb H ok x c i a b cc d v w wi->aZ bu H ok' l lv->
  W (m3 (aC P ax) N m (.ptr zX 0 0) (.ptr T 0 0) lv (J X l.length) (J X k) H) λr H'=>r= y (ev c t (l.drop k))/\ay H H'
 |_,_,0,_,_,hm,_,_,_,_=>ai
 |0,k,m+1,H,q,_,aT,e,s,az=>by
  have h:¬(k:Int)<(l.length:Int):=ai;simp-implicitDefEqProofs(disch:=try exact al)only[m3,uH,ra,aq,aG,h,decide_false];refine bk Av ?_;rintro _ K ⟨rfl,p⟩;refine⟨p.1,?_⟩;simp-implicitDefEqProofs(disch:=try exact al)only[aq,aO,a_ (p.get e),a_ e,gK,br];refine aK.2 ⟨?_,p⟩;rw[List.drop_of_length_le ai,ev];simp
 |j+1,k,m+1,H,q,hm,aT,e,s,az=>by
  have h:(k:Int)<(l.length:Int):=ai;have o:k<l.length:=ai;obtain⟨p,A,B⟩:=az.int (j:=(k:Int)) (a:=l[k]) ai (by simp[o]);have on:=Jg (t:=t) (l:=l) (lv:=lv) (ok':=ok') (zX:=zX) (T:=T) n u (N:=N) j (k+1) m;rw[List.drop_eq_getElem_cons o];simp-implicitDefEqProofs(disch:=try exact al)only[m3,uH,aq,aG,h,decide_true,A,B,cG aT];refine bk (kP s l[k] n) ?_;rintro _ K ⟨rfl,p⟩;refine⟨p.1,?_⟩;by_cases he:a1 c l[k]=t
  ·have g:decide (a1 c l[k]≠t)=false:=by simp[he]
   simp-implicitDefEqProofs(disch:=try exact al)only[aq,aO,aG,a_ (p.get e),a_ e,gK,br,g,c3 (show k<=1000000000 by omega)];refine(on K ai ai (p.get aT) (p.get e) (s.aI p) (az.aI p)).mono ?_;rintro r E ⟨rfl,z⟩;exact⟨by rw[Er,decide_eq_true he,Bool.true_and],p.trans z⟩
  ·have g:decide (a1 c l[k]≠t)=true:=by simp[he]
   simp-implicitDefEqProofs(disch:=try exact al)only[aq,aO,a_ (p.get e),a_ e,gK,br,g];exact aK.2 ⟨by rw[Er,decide_eq_false he,Bool.false_and],p⟩
def jo(s:gb H ok x c i a b cc d v w wi){t:cz}{l:List Int}{lv:aa}{ok':Nat->Prop}(az:aZ bu H ok' l lv)(h:c.vars.length<=1000000000)(m:l.length<=1000000000):W (aC P ax 244 [.agg (cl x f c i a b cc d v w wi),cX t,lv] H) λr H'=>r= y (ev c t l)/\ay H H':=by
 refine bZ (λ_=>Uw (l.length+1)) ?_;have k:=gE s f;have j:=hH t;have g:ay (H.push (.row Z 19 [cl x f c i a b cc d v w wi])) ((H.push (.row Z 19 [cl x f c i a b cc d v w wi])).push (.row Z 3 [b7 t])):=ay.push _ _;have e:=(ay.push H (.row Z 19 [cl x f c i a b cc d v w wi])).trans g;simp-implicitDefEqProofs(disch:=try exact al)only[q_,bf,aq,ad.ds,k,j,bf,az.len cU];refine(Jg (ok:=ok) (ok':=ok') (t:=t) (l:=l) h m l.length 0 (l.length+1) _ ai ai (g.get (ad.bq _ _)) (ad.bq _ _) (s.aI e) (az.aI e)).mono ?_;rintro r o ⟨rfl,n⟩;exact⟨by simp,e.trans n⟩
def hT(s:gb H ok x c i a b cc d v w wi){l:List Int}{lv:aa}{ok':Nat->Prop}(az:aZ bu H ok' l lv)(g:c.vars.length<=1000000000)(h:l.length<=1000000000):W (aC P ax 241 [.agg (cl x f c i a b cc d v w wi),lv] H) λr H'=>r= y (ev c cN l)/\ay H H':=by
 refine bZ (λ_=>Ut 0) ?_;have e:=ay.push H (.row Z 19 [cl x f c i a b cc d v w wi]);simp-implicitDefEqProofs(disch:=try exact al)only[q8,aq,gE s f,cG (ad.bq H (.row Z 19 [cl x f c i a b cc d v w wi]))];refine bk (jo (s.aI e) (t:=cN) (az.aI e) g h) ?_;rintro _ K ⟨rfl,p⟩;exact⟨p.1,aK.2 ⟨rfl,e.trans p⟩⟩
def lH(s:gb H ok x c i a b cc d v w wi){l:List Int}{lv:aa}{ok':Nat->Prop}(az:aZ bu H ok' l lv)(g:c.vars.length<=1000000000)(h:l.length<=1000000000):W (aC P ax 242 [.agg (cl x f c i a b cc d v w wi),lv] H) λr H'=>r= y (ev c dI l)/\ay H H':=by
 refine bZ (λ_=>Uu 0) ?_;have e:=ay.push H (.row Z 19 [cl x f c i a b cc d v w wi]);simp-implicitDefEqProofs(disch:=try exact al)only[q9,aq,gE s f,cG (ad.bq H (.row Z 19 [cl x f c i a b cc d v w wi]))];refine bk (jo (s.aI e) (t:=dI) (az.aI e) g h) ?_;rintro _ K ⟨rfl,p⟩;exact⟨p.1,aK.2 ⟨rfl,e.trans p⟩⟩
end
end
section
open Go.bp
section
variable {H:ad}{ok:Nat->Prop}{x:bQ}{f:Nat}{c:b3}{i:In}{a b cc d v w wi:aa}
def hV(v:aa)(b:bL)(k:bo.K->O):fG (D (v,b)) k=k (.new v b):=rfl
def fU(H:ad)(ok:Nat->Prop)(h:ok H.next)(n:Int):aZ bu (H.push (.row Z 1 [[J X n]])) ok [n] (.aJ H.next 0 1 1 (D 1)):=
 .inr (.inl ⟨H.next,0,D 1,Z,_,rfl,h,ad.bq _ _,by simp,λj a b=>by
  rcases j with _|j
  ·cases b;exact⟨_,rfl,rfl⟩
  ·simp at b⟩)
def yo(H:ad)(ok:Nat->Prop)(h:ok H.next)(n m:Int):aZ bu (H.push (.row Z 1 [[J X n],[J X m]])) ok [n,m] (.aJ H.next 0 2 1 (D 2)):=
 .inr (.inl ⟨H.next,0,D 2,Z,_,rfl,h,ad.bq _ _,by simp,λj a b=>by
  rcases j with _|_|j
  ·cases b;exact⟨_,rfl,rfl⟩
  ·cases b;exact⟨_,rfl,rfl⟩
  ·simp at b⟩)
def pe(H:ad)(ok:Nat->Prop)(h:ok H.next)(n m q:Int):aZ bu (H.push (.row Z 1 [[J X n],[J X m],[J X q]])) ok [n,m,q] (.aJ H.next 0 3 1 (D 3)):=
 .inr (.inl ⟨H.next,0,D 3,Z,_,rfl,h,ad.bq _ _,by simp,λj a b=>by
  rcases j with _|_|_|j
  ·cases b;exact⟨_,rfl,rfl⟩
  ·cases b;exact⟨_,rfl,rfl⟩
  ·cases b;exact⟨_,rfl,rfl⟩
  ·simp at b⟩)
def yn(l:Nat)(n m:Int):cv P l 30 2 [(0,J X n),(1,J X m)]=D (.aJ l 0 2 1 (D 2),.row Z 1 [[J X n],[J X m]]):=by
 obtain⟨z,a,c,d⟩:=cU.y7;have b:e1 P 3=D (J X 0):=ag;rw[b]at a;cases a;simp[cv,cU.un,cU.ts,b,jB,aa.cells,aa.one]
def pd(l:Nat)(n m q:Int):cv P l 30 3 [(0,J X n),(1,J X m),(2,J X q)]=D (.aJ l 0 3 1 (D 3),.row Z 1 [[J X n],[J X m],[J X q]]):=by
 have a:e1 P 3=D (J X 0):=ag;simp[cv,cU.un,cU.ts,a,jB,aa.cells,aa.one]
def aZ.vy{α:Type}{K:ej α}{t e:Nat}(y:eC t e K.esz)(c:dN P e=D C){l:List α}{v:aa}(h:aZ K H ok l v){j:Int}{a:α}(b:0<=j)(d:l[j.toNat]? =D a):∃p cs,a6 P t v (J X j)=D p/\(∀H',ay H H'->aj P H' e p=D (.agg cs))/\K.V H ok a cs:=by
 obtain⟨L,i,ro,els,cs,ae,_,ah,ak,au⟩:=h.at_ y b d;refine⟨_,cs,ae,λH' p=> ?_,au⟩;rw[fY c y.ts (p.get ah) ak ai,List.drop_zero,List.take_of_length_le (by have:=(K.len au).1;omega)]
def aZ.yA{l:List cz}{v:aa}(h:aZ ei H ok l v){j:Int}{t:cz}(a:0<=j)(b:l[j.toNat]? =D t):∃p,a6 P 23 v (J X j)=D p/\∀H',ay H H'->aj P H' 46 p=D (cX t):=by
 obtain⟨p,cs,c,d,rfl⟩:=h.vy (K:=ei) dh r_ a b;exact⟨p,c,d⟩
def aZ.ZO{l:List px}{v:aa}(h:aZ kc H ok l v){j:Int}{z:px}(a:0<=j)(b:l[j.toNat]? =D z):∃L n,a6 P 25 v (J X j)=D (.ptr L n 0)/\∀H',ay H H'->aj P H' 3 (.ptr L n 0)=D (J X z.f)/\aj P H' 46 (.ptr L n 1)=D (cX z.ty):=by
 obtain⟨L,n,ro,els,cs,ae,_,ah,ak,rfl⟩:=h.at_ (K:=kc) e4 a b;refine⟨L,n,ae,λH' p=>⟨?_,?_⟩⟩
 ·have g:H'.get L=D (.row ro 4 els):=p.get ah;simp-implicitDefEqProofs(disch:=try exact al)only[bM,g,ak]
 ·exact fY (n:=3) (c:=1) ag ag (p.get ah) ak (by exact b4 4)
def aZ.Td{l:List (List cz)}{v:aa}(h:aZ kb H ok l v){j:Int}{fs:List cz}(a:0<=j)(b:l[j.toNat]? =D fs):∃L n fv,a6 P 22 v (J X j)=D (.ptr L n 0)/\(∀H',ay H H'->aj P H' 93 (.ptr L n 1)=D fv)/\aZ js H ok fs fv:=by
 obtain⟨L,n,ro,els,cs,ae,_,ah,ak,s,fv,rfl,aN⟩:=h.at_ (K:=kb) en a b;refine⟨L,n,fv,ae,λH' p=> ?_,aN⟩;have g:H'.get L=D (.row ro 2 els):=p.get ah;simp-implicitDefEqProofs(disch:=try exact al)only[bM,g,ak]
def aZ.NJ{l:List cz}{v:aa}(h:aZ js H ok l v){j:Int}{t:cz}(a:0<=j)(b:l[j.toNat]? =D t):∃L n,a6 P 93 v (J X j)=D (.ptr L n 0)/\∀H',ay H H'->aj P H' 46 (.ptr L n 1)=D (cX t):=by
 obtain⟨L,n,ro,els,cs,ae,_,ah,ak,s,rfl⟩:=h.at_ (K:=js) hs a b;exact⟨L,n,ae,λH' p=>fY (n:=3) (c:=1) ag ag (p.get ah) ak (by exact b4 4)⟩
def sO(c:b3)(t:cz)(n:Int):ev c t [n]=(decide (a1 c n=t)&&decide (t≠bt)):=by simp[ev]
def Jb(s:gb H ok x c i a b cc d v w wi)(k n:Int)(g:c.vars.length<=1000000000)(B:(a1 c k).d<=1000):W (aC P ax 247 [.agg (cl x f c i a b cc d v w wi),J X k,J X n] H) λr H'=>r= y (decide (0<(a1 c k).d)&&ev c (less (a1 c k)) [n])/\ay H H':=by
 refine bZ (λ_=>Uz 0) ?_;have h:=ay.push H (.row Z 19 [cl x f c i a b cc d v w wi]);have aT:=ad.bq H (.row Z 19 [cl x f c i a b cc d v w wi]);simp-implicitDefEqProofs(disch:=try exact al)only[rf,aq,gE s f,cG aT];refine bk (kP (s.aI h) k g) ?_;rintro _ K ⟨rfl,p⟩;refine⟨p.1,?_⟩;have q:=h.trans p;have E:=ad.b6 (p.get aT);generalize a1 c k=t at*;have A:=ad.bq K (.row Z 3 [b7 bt]);have G:ay K (K.push (.row Z 3 [b7 t])):=ay.push _ _;by_cases e:t.d<=0
 ·simp-implicitDefEqProofs(disch:=try exact al)only[Nat.reduceAdd,bM,cX,b7,e,decide_true];exact aK.2 ⟨by rw[decide_eq_false ai];rfl,q.trans (ay.push _ _)⟩
 ·have m:=p.get aT;simp-implicitDefEqProofs(disch:=try exact al)only[cl]at m;have fz:=p.get aT;have o:(cl x f c i a b cc d v w wi).take 19=cl x f c i a b cc d v w wi:=rfl;have u:=wrap_i64 (show 0<=t.d-1 by omega) (show t.d-1<=9223372036854775807 by omega);simp-implicitDefEqProofs(disch:=try exact al)only[Nat.reduceAdd,bM,cX,b7,e,decide_false,u,fz,o,eW];refine bk (jo (((s.aI q).aI (ay.push _ _)).aI (ay.push _ _)) (t:=less t) (l:=[n]) (fU _ bH trivial n) g (by simp)) ?_;rintro _ z ⟨rfl,j⟩;exact⟨j.1,aK.2 ⟨by rw[decide_eq_true ai];rfl,((q.trans (ay.push _ _)).trans (ay.push _ _)).trans j⟩⟩
def BF(s:gb H ok x c i a b cc d v w wi)(n:Int):W (aC P ax 259 [.agg (cl x f c i a b cc d v w wi),J X n] H) λr H'=>r= y (within n c.ins.length)/\ay H H':=by
 refine bZ (λ_=>UI 0) ?_;have g:=ay.push H (.row Z 19 [cl x f c i a b cc d v w wi]);have aT:=ad.bq H (.row Z 19 [cl x f c i a b cc d v w wi]);by_cases e:0<=n
 ·simp-implicitDefEqProofs(disch:=try exact al)only[o5,Nat.reduceAdd,aq,aO,aG,aM,gE s f,fo aT,s.cg.len eb,e,decide_true];exact aK.2 ⟨by simp[within,e],g⟩
 ·simp-implicitDefEqProofs(disch:=try exact al)only[o5,aq,aG,gE s f,e,decide_false];exact aK.2 ⟨by simp[within,e],g⟩
def jZ(s:gb H ok x c i a b cc d v w wi)(f:Nat):aV (D (.agg (cl x f c i a b cc d v w wi))) (.agg (cl x f c i a b cc d v w wi))=true:=by
 simp[aV,cl,aa.beq,eE.beq,s.ae.rd,s.ah.rd,s.ak.rd,s.au.rd,s.b8.rd,s.cg.rd,s.i1.rd]
def wa(x:bQ)(c:b3)(n k:Int):Bool:=match dE x.globals n with
 |some t=>ev c t [k]
 |none=>Z
def Jf(s:gb H ok x c i a b cc d v w wi)(n k:Int)(A:c.vars.length<=1000000000):W (aC P ax 260 [.agg (cl x f c i a b cc d v w wi),J X n,J X k] H) λr H'=>r= y (wa x c n k)/\ay H H':=by
 refine bZ (λ_=>UJ 0) ?_;have m:=ay.push H (.row Z 19 [cl x f c i a b cc d v w wi]);have aT:=ad.bq H (.row Z 19 [cl x f c i a b cc d v w wi]);rw[wa];by_cases g:0<=n
 ·by_cases ae:n<(x.globals.length:Int)
  ·have o:n.toNat<x.globals.length:=ai;have z:dE x.globals n=D x.globals[n.toNat]:=by rw[hj g];simp[o]
   obtain⟨pp,B,u⟩:=(s.ah.aI m).yA (j:=n) (t:=x.globals[n.toNat]) g (by simp[o]);rw[z];generalize x.globals[n.toNat]=t at*;simp-implicitDefEqProofs(disch:=try exact al)only[nc,aq,aO,aG,aM,ad.ds,gE s f,fo aT,cG aT,s.ah.len dh,g,ae,B,u _ (ay.refl _),decide_true,c1,hV,eW];refine cE (jo ((s.aI m).aI (ay.push _ _)) (t:=t) (l:=[k]) (fU _ bH trivial k) A (by simp)) ?_;rintro _ K ⟨rfl,p⟩;refine⟨p.1,?_⟩;have q:=(ay.push (H.push (.row Z 19 [cl x f c i a b cc d v w wi])) (.row Z 1 [[J X k]])).trans p;simp-implicitDefEqProofs(disch:=try exact al)only[aq];refine cI (cJ ag ?_) (aK.2 ⟨rfl,m.trans q⟩)
   refine cY ?_ ?_
   ·simp only[cw,bo.K.heap,List.forall_mem_cons]
    repeat' first|exact ay.refl _|exact ay.push _ _|exact q|(intro _ h;cases h;done)|refine aL ?_ ?_
   ·simp only[List.forall_mem_cons]
    repeat' first|(intro v e;cases e;done)|(intro v e;cases e;intro H' p;simp only[cG (p.get aT),fo (p.get aT),jZ s,br,eA s.ah,u H' p];done)|(intro _ h;cases h;done)|refine aL ?_ ?_
  ·simp-implicitDefEqProofs(disch:=try exact al)only[nc,aq,aO,aG,aM,gE s f,fo aT,s.ah.len dh,g,ae,decide_true,decide_false,c1,dQ];refine cI (cJ ag ?_) (aK.2 ⟨by rw[eL.2 (.inr ai)],m⟩);refine cY ?_ ?_
   ·simp only[cw,bo.K.heap,List.forall_mem_cons]
    repeat' first|exact ay.refl _|(intro _ h;cases h;done)|refine aL ?_ ?_
   ·simp only[List.forall_mem_cons]
    repeat' first|(intro v e;cases e;done)|(intro v e;cases e;intro H' p;simp only[fo (p.get aT),eA s.ah];done)|(intro _ h;cases h;done)|refine aL ?_ ?_
 ·simp-implicitDefEqProofs(disch:=try exact al)only[nc,aq,aG,gE s f,g,decide_false,dQ];refine cI (cJ ag ?_) (aK.2 ⟨by rw[eL.2 (.inl ai)],m⟩);refine cY ?_ ?_
  ·simp only[cw,bo.K.heap,List.forall_mem_cons]
   repeat' first|exact ay.refl _|(intro _ h;cases h;done)|refine aL ?_ ?_
  ·simp only[List.forall_mem_cons]
   repeat' first|(intro v e;cases e;done)|(intro v e;cases e;intro H' p;simp only[Nat.zero_add,Nat.reduceAdd,cG (p.get aT),fo (p.get aT),jZ s,bK,br,eA s.ae,eA s.ah,eA s.ak,eA s.au];done)|(intro _ h;cases h;done)|refine aL ?_ ?_
def ym(x:bQ)(f:Nat)(c:b3)(n k:Int):Bool:=match dE x.sites n with
 |some z=>z.f==(f:Int)&&ev c z.ty [k]
 |none=>Z
def Ji(s:gb H ok x c i a b cc d v w wi)(n k:Int)(G:c.vars.length<=1000000000):W (aC P ax 248 [.agg (cl x f c i a b cc d v w wi),J X n,J X k] H) λr H'=>r= y (ym x f c n k)/\ay H H':=by
 refine bZ (λ_=>UA 0) ?_;have o:=ay.push H (.row Z 19 [cl x f c i a b cc d v w wi]);have aT:=ad.bq H (.row Z 19 [cl x f c i a b cc d v w wi]);rw[ym];by_cases g:0<=n
 ·by_cases ae:n<(x.sites.length:Int)
  ·have u:n.toNat<x.sites.length:=ai;have E:dE x.sites n=D x.sites[n.toNat]:=by rw[hj g];simp[u]
   obtain⟨L,m,B,q⟩:=(s.au.aI o).ZO (j:=n) (z:=x.sites[n.toNat]) g (by simp[u]);rw[E];generalize x.sites[n.toNat]=z at*;simp only[];cases aN:(z.f==(f:Int))with
   |true=>
    simp-implicitDefEqProofs(disch:=try exact al)only[ly,aq,aO,aG,aM,ad.ds,gE s f,fo aT,cG aT,s.au.len e4,g,ae,B,q _ (ay.refl _),aN,decide_true,c1,hV,eW];refine cE (jo ((s.aI o).aI (ay.push _ _)) (t:=z.ty) (l:=[k]) (fU _ bH trivial k) G (by simp)) ?_;rintro _ K ⟨rfl,p⟩;refine⟨p.1,?_⟩;have A:=(ay.push (H.push (.row Z 19 [cl x f c i a b cc d v w wi])) (.row Z 1 [[J X k]])).trans p;simp-implicitDefEqProofs(disch:=try exact al)only[aq];refine cI (cJ ag ?_) (aK.2 ⟨by rw[Bool.true_and],o.trans A⟩);refine cY ?_ ?_
    ·simp only[cw,bo.K.heap,List.forall_mem_cons]
     repeat' first|exact ay.refl _|exact ay.push _ _|exact A|(intro _ h;cases h;done)|refine aL ?_ ?_
    ·simp only[List.forall_mem_cons]
     repeat' first|(intro v e;cases e;done)|(intro v e;cases e;intro H' p;simp only[cG (p.get aT),fo (p.get aT),jZ s,bK,br,eA s.au,q H' p];done)|(intro _ h;cases h;done)|refine aL ?_ ?_
   |false=>
    simp-implicitDefEqProofs(disch:=try exact al)only[ly,aq,aO,aG,aM,gE s f,fo aT,s.au.len e4,g,ae,B,q _ (ay.refl _),aN,decide_true,c1,dQ];refine cI (cJ ag ?_) (aK.2 ⟨by rw[Bool.false_and],o⟩);refine cY ?_ ?_
    ·simp only[cw,bo.K.heap,List.forall_mem_cons]
     repeat' first|exact ay.refl _|(intro _ h;cases h;done)|refine aL ?_ ?_
    ·simp only[List.forall_mem_cons]
     repeat' first|(intro v e;cases e;done)|(intro v e;cases e;intro H' p;simp only[fo (p.get aT),bK,eA s.au,q H' p];done)|(intro _ h;cases h;done)|refine aL ?_ ?_
  ·simp-implicitDefEqProofs(disch:=try exact al)only[ly,aq,aO,aG,aM,gE s f,fo aT,s.au.len e4,g,ae,decide_true,decide_false,c1,dQ];refine cI (cJ ag ?_) (aK.2 ⟨by rw[eL.2 (.inr ai)],o⟩);refine cY ?_ ?_
   ·simp only[cw,bo.K.heap,List.forall_mem_cons]
    repeat' first|exact ay.refl _|(intro _ h;cases h;done)|refine aL ?_ ?_
   ·simp only[List.forall_mem_cons]
    repeat' first|(intro v e;cases e;done)|(intro v e;cases e;intro H' p;simp only[fo (p.get aT),eA s.au];done)|(intro _ h;cases h;done)|refine aL ?_ ?_
 ·simp-implicitDefEqProofs(disch:=try exact al)only[ly,aq,aG,gE s f,g,decide_false,dQ];refine cI (cJ ag ?_) (aK.2 ⟨by rw[eL.2 (.inl ai)],o⟩);refine cY ?_ ?_
  ·simp only[cw,bo.K.heap,List.forall_mem_cons]
   repeat' first|exact ay.refl _|(intro _ h;cases h;done)|refine aL ?_ ?_
  ·simp only[List.forall_mem_cons]
   repeat' first|(intro v e;cases e;done)|(intro v e;cases e;intro H' p;simp only[Nat.zero_add,Nat.reduceAdd,cG (p.get aT),fo (p.get aT),jZ s,bK,br,eA s.ae,eA s.ah,eA s.ak,eA s.au];done)|(intro _ h;cases h;done)|refine aL ?_ ?_
end
end
section
open Go.bp
section
variable {H:ad}{ok:Nat->Prop}{x:bQ}{f:Nat}{c:b3}{i:In}{a b cc d v w wi:aa}
def r4{H:ad}{i:In}{w:aa}{L:Nat}{r:List aa}(h:H.get L=D (.row Z 6 [r]))(hw:w.one=C)(a:r.length=6:=by rfl):bA P H 89 (.ptr L 0 0) (.agg (cf i w))=D (H.set L (.row Z 6 [cf i w])):=by
 rw[fN (n:=6) ag h rfl rfl (by simp[cf,aa.cells,hw];simp[aa.one]) b_];simp[cf,aa.cells,eI,List.drop_of_length_le (Nat.le_of_eq a)]
def eP{H:ad}{i:In}{w:aa}{I:Nat}(h:H.get I=D (.row Z 6 [[J X i.op,J X i.a,J X i.b,J X i.c,J X i.n,w]])):aj P H 3 (.ptr I 0 0)=D (J X i.op)/\aj P H 30 (.ptr I 0 5)=D w:=by
 simp-implicitDefEqProofs(disch:=try exact al)only[bM,h]
def hq(c:b3)(l:List Int):ev c cN l=l.all (λn=>decide (a1 c n=cN)):=by rw[ev,decide_eq_true aaH,Bool.and_true]
def iv(c:b3)(l:List Int):ev c dI l=l.all (λn=>decide (a1 c n=dI)):=by rw[ev,decide_eq_true aaF,Bool.and_true]
def Je(s:gb H ok x c i a b cc d v w wi)(k q n:Int)(ak:c.vars.length<=1000000000):W (aC P ax 246 [.agg (cl x f c i a b cc d v w wi),J X k,J X q,J X n] H) λr H'=>r= y (ev c (dW x (a1 c k) q) [n])/\ay H H':=by
 refine bZ (λ_=>Uy 0) ?_;have ar:=ay.push H (.row Z 19 [cl x f c i a b cc d v w wi]);have af:=ad.bq H (.row Z 19 [cl x f c i a b cc d v w wi]);simp-implicitDefEqProofs(disch:=try exact al)only[re,aq,gE s f,cG af];refine bk (kP (s.aI ar) k ak) ?_;rintro _ K ⟨rfl,V⟩;refine⟨V.1,?_⟩;have aD:=ar.trans V;have ah:=V.get af;have aF:=ad.b6 ah;generalize a1 c k=t at*;have st:=yq (t:=bt) (u:=t) (ad.bq K (.row Z 3 [b7 bt]));have ao:ay K (K.push (.row Z 3 [b7 t])):=ay.push _ _;have aT:=ao.get ah;have ab:(K.push (.row Z 3 [b7 t])).get K.next=D (.row Z 3 [b7 t]):=ad.bq _ _
 have Y:=aD.trans ao;have av:=s.aI Y;have B:=b5 ab;have G:aj P (K.push (.row Z 3 [b7 t])) 3 (.ptr K.next 0 1)=D (J X t.r):=by
  rw[b7]at ab ⊢;simp-implicitDefEqProofs(disch:=try exact al)only[bM]
 have no:∀{e:Bool},dW x t q=bt->ev c (dW x t q) [n]=false:=λh=>by rw[h,sO];simp
 have z:bA P (K.push (.row Z 3 [[J X 0,J X 0,J X 0]])) 46 (.ptr K.next 0 0) (cX t)=D ((K.push (.row Z 3 [b7 bt])).set K.next (.row Z 3 [b7 t])):=st;rw[ad.jd]at z;have bad:dW x t q=bt->W (D (aa.bool Z,K.push (.row Z 3 [b7 t]))) λr H'=>r= y (ev c (dW x t q) [n])/\ay H H':=λh=>aK.2 ⟨by rw[no (e:=true) h],Y⟩
 cases O:(t.b==3)with
 |false=>
  have o:(t.b != 3)=true:=by simpa using O
  have T:¬t.b=3:=by simpa using O
  simp-implicitDefEqProofs(disch:=try exact al)only[Nat.reduceAdd,aq,aO,aG,aM,z,B,o];exact bad (by rw[dW,j0,if_neg (λh=>T h.1)];rfl)
 |true=>
  have o:(t.b != 3)=false:=by simpa using O
  cases Q:(t.d==0)with
  |false=>
   have A:(t.d != 0)=true:=by simpa using Q
   have T:¬t.d=0:=by simpa using Q
   simp-implicitDefEqProofs(disch:=try exact al)only[Nat.reduceAdd,aq,aO,aG,aM,z,B,o,A];exact bad (by rw[dW,j0,if_neg (λh=>T h.2)];rfl)
  |true=>
   have A:(t.d != 0)=false:=by simpa using Q
   have U:j0 x t=dE x.b1 t.r:=by rw[j0,if_pos ⟨by simpa using O,by simpa using Q⟩]
   by_cases E:t.r<0
   ·simp-implicitDefEqProofs(disch:=try exact al)only[Nat.reduceAdd,aq,aO,aG,aM,z,B,G,o,A,E,decide_true];exact bad (by rw[dW,U,eL.2 (.inl E)];rfl)
   by_cases N:(x.b1.length:Int)<=t.r
   ·simp-implicitDefEqProofs(disch:=try exact al)only[Nat.reduceAdd,aq,aO,aG,aM,z,B,G,o,A,E,N,fo aT,s.ae.len en,decide_true,decide_false];exact bad (by rw[dW,U,eL.2 (.inr N)];rfl)
   have au:t.r.toNat<x.b1.length:=ai;have az:dE x.b1 t.r=D x.b1[t.r.toNat]:=by rw[hj ai];simp[au]
   obtain⟨L,m,fv,i1,i2,i3⟩:=av.ae.Td (j:=t.r) (fs:=x.b1[t.r.toNat]) ai (by simp[au]);generalize x.b1[t.r.toNat]=fs at*;have S:dW x t q=(dE fs q).getD bt:=by rw[dW,U,az,Option.bind_some]
   have base:=[46];by_cases R:0<=q
   ·by_cases b8:q<(fs.length:Int)
    ·have an:q.toNat<fs.length:=ai;obtain⟨M,e,aA,am⟩:=i3.NJ (j:=q) (t:=fs[q.toNat]) ai (by simp[an]);have aw:dW x t q=fs[q.toNat]:=by rw[S,hj R];simp[an]
     rw[aw];generalize fs[q.toNat]=u at*;simp-implicitDefEqProofs(disch:=try exact al)only[Nat.reduceAdd,aq,aO,aG,aM,ad.ds,c1,hV,z,B,G,o,A,E,N,R,b8,fo aT,cG aT,s.ae.len en,i3.len hs,i1,i2 _ (ay.refl _),aA,am _ (ay.refl _),eW,decide_true,decide_false];refine cE (jo (av.aI (ay.push _ _)) (t:=u) (l:=[n]) (fU _ bH trivial n) ak (by simp)) ?_;rintro _ aE ⟨rfl,p⟩;refine⟨p.1,?_⟩;have ap:=(ay.push (K.push (.row Z 3 [b7 t])) (.row Z 1 [[J X n]])).trans p;simp-implicitDefEqProofs(disch:=try exact al)only[aq];refine cI (cJ ag ?_) (aK.2 ⟨rfl,Y.trans ap⟩);refine cY ?_ ?_
     ·simp only[cw,bo.K.heap,List.forall_mem_cons]
      repeat' first|exact ay.refl _|exact ay.push _ _|exact ap|(intro _ h;cases h;done)|refine aL ?_ ?_
     ·simp only[List.forall_mem_cons]
      repeat' first|(intro v g;cases g;done)|(intro v g;cases g;intro H' p;simp only[cG (p.get aT),jZ s,br,am H' p];done)|(intro _ h;cases h;done)|refine aL ?_ ?_
    ·simp-implicitDefEqProofs(disch:=try exact al)only[Nat.reduceAdd,aq,aO,aG,aM,c1,dQ,z,B,G,o,A,E,N,R,b8,fo aT,s.ae.len en,i3.len hs,i1,i2 _ (ay.refl _),decide_true,decide_false];refine cI (cJ ag ?_) (bad (by rw[S,eL.2 (.inr ai)];rfl));refine cY ?_ ?_
     ·simp only[cw,bo.K.heap,List.forall_mem_cons]
      repeat' first|exact ay.refl _|(intro _ h;cases h;done)|refine aL ?_ ?_
     ·simp only[List.forall_mem_cons]
      repeat' first|(intro v g;cases g;done)|(intro v g;cases g;intro H' p;simp only[Nat.zero_add,Nat.reduceAdd,i3.len hs,bK];done)|(intro _ h;cases h;done)|refine aL ?_ ?_
   ·simp-implicitDefEqProofs(disch:=try exact al)only[Nat.reduceAdd,aq,aO,aG,aM,dQ,z,B,G,o,A,E,N,R,fo aT,s.ae.len en,i1,i2 _ (ay.refl _),decide_false];refine cI (cJ ag ?_) (bad (by rw[S,eL.2 (.inl ai)];rfl));refine cY ?_ ?_
    ·simp only[cw,bo.K.heap,List.forall_mem_cons]
     repeat' first|exact ay.refl _|(intro _ h;cases h;done)|refine aL ?_ ?_
    ·simp only[List.forall_mem_cons]
     repeat' first|(intro v g;cases g;done)|(intro v g;cases g;intro H' p;simp only[Nat.zero_add,Nat.reduceAdd,bK];done)|(intro _ h;cases h;done)|refine aL ?_ ?_
def abq(s:gb H ok x c i a b cc d v w wi)(m:c.vars.length<=1000000000):W (aC P ax 245 [.agg (cl x f c i a b cc d v w wi)] H) λr H'=>r= y (fH i.n (a1 c i.a) (a1 c i.b) (a1 c i.c))/\ay H H':=by
 refine bZ (λ_=>Ux 0) ?_;have st:=r4 (i:=i) (w:=wi) (ad.bq (H.push (.row Z 19 [cl x f c i a b cc d v w wi])) (.row Z 6 [[J X 0,J X 0,J X 0,J X 0,J X 0,.aB]])) s.i1.one;simp only[jc]at st;have o:ay H ((H.push (.row Z 19 [cl x f c i a b cc d v w wi])).push (.row Z 6 [cf i wi])):=(ay.push _ _).trans (ay.push _ _);have aT:((H.push (.row Z 19 [cl x f c i a b cc d v w wi])).push (.row Z 6 [cf i wi])).get H.next=D (.row Z 19 [cl x f c i a b cc d v w wi]):=(ay.push _ _).get (ad.bq _ _)
 have aQ:((H.push (.row Z 19 [cl x f c i a b cc d v w wi])).push (.row Z 6 [cf i wi])).get (H.next+1)=D (.row Z 6 [[J X i.op,J X i.a,J X i.b,J X i.c,J X i.n,wi]]):=ad.bq _ _;have aw:=eP aQ;simp-implicitDefEqProofs(disch:=try exact al)only[rb,Nat.reduceAdd,aq,aO,aM,ad.ds,gE s f,wJ (ad.bq H (.row Z 19 [cl x f c i a b cc d v w wi])),st,ad.fE];have q:=s.aI o;generalize ((H.push (.row Z 19 [cl x f c i a b cc d v w wi])).push (.row Z 6 [cf i wi]))=H0 at*;have av:=ad.b6 aT;have au:=ad.b6 aQ;generalize H.next+1=I at*
 generalize H.next=zX at*
 by_cases S:i.n=14
 ·have aS:∀j:Int,(i.n==j)=(14==j):=λj=>by rw[S]
  rw[S];simp-implicitDefEqProofs(disch:=try exact al)only[gy,aq,aO,aG,aM,cG aT,bg aQ,aS,Int.reduceBEq,pd];refine bk (hT (q.aI (ay.push _ _)) (pe _ bH trivial i.a i.b i.c) m (by simp)) ?_;rintro _ K ⟨rfl,p⟩;exact⟨p.1,aK.2 ⟨by rw[hq];simp[fH],o.trans ((ay.push _ _).trans p)⟩⟩
 have ab:(i.n==14)=false:=beq_eq_false_iff_ne.2 S;by_cases T:i.n=15
 ·have aS:∀j:Int,(i.n==j)=(15==j):=λj=>by rw[T]
  rw[T];simp-implicitDefEqProofs(disch:=try exact al)only[gy,aq,aO,aG,aM,cG aT,bg aQ,aS,Int.reduceBEq,pd];refine bk (hT (q.aI (ay.push _ _)) (pe _ bH trivial i.a i.b i.c) m (by simp)) ?_;rintro _ K ⟨rfl,p⟩;exact⟨p.1,aK.2 ⟨by rw[hq];simp[fH],o.trans ((ay.push _ _).trans p)⟩⟩
 have ae:(i.n==15)=false:=beq_eq_false_iff_ne.2 T;by_cases U:i.n=16
 ·have aS:∀j:Int,(i.n==j)=(16==j):=λj=>by rw[U]
  rw[U];simp-implicitDefEqProofs(disch:=try exact al)only[gy,aq,aO,aG,aM,cG aT,bg aQ,aS,Int.reduceBEq,pd];refine bk (hT (q.aI (ay.push _ _)) (pe _ bH trivial i.a i.b i.c) m (by simp)) ?_;rintro _ K ⟨rfl,p⟩;exact⟨p.1,aK.2 ⟨by rw[hq];simp[fH],o.trans ((ay.push _ _).trans p)⟩⟩
 have af:(i.n==16)=false:=beq_eq_false_iff_ne.2 U;by_cases V:i.n=17
 ·have aS:∀j:Int,(i.n==j)=(17==j):=λj=>by rw[V]
  rw[V];simp-implicitDefEqProofs(disch:=try exact al)only[gy,aq,aO,aG,aM,cG aT,bg aQ,aS,Int.reduceBEq,pd];refine bk (hT (q.aI (ay.push _ _)) (pe _ bH trivial i.a i.b i.c) m (by simp)) ?_;rintro _ K ⟨rfl,p⟩;exact⟨p.1,aK.2 ⟨by rw[hq];simp[fH],o.trans ((ay.push _ _).trans p)⟩⟩
 have ah:(i.n==17)=false:=beq_eq_false_iff_ne.2 V;by_cases Y:i.n=18
 ·have aS:∀j:Int,(i.n==j)=(18==j):=λj=>by rw[Y]
  rw[Y];simp-implicitDefEqProofs(disch:=try exact al)only[gy,aq,aO,aG,aM,cG aT,bg aQ,aS,Int.reduceBEq,pd];refine bk (hT (q.aI (ay.push _ _)) (pe _ bH trivial i.a i.b i.c) m (by simp)) ?_;rintro _ K ⟨rfl,p⟩;exact⟨p.1,aK.2 ⟨by rw[hq];simp[fH],o.trans ((ay.push _ _).trans p)⟩⟩
 have aj:(i.n==18)=false:=beq_eq_false_iff_ne.2 Y;by_cases L:i.n=19
 ·have aS:∀j:Int,(i.n==j)=(19==j):=λj=>by rw[L]
  rw[L];simp-implicitDefEqProofs(disch:=try exact al)only[gy,ji,aq,aO,aG,aM,cG aT,bg aQ,aS,Int.reduceBEq,eW];refine bk (lH (q.aI (ay.push _ _)) (fU _ bH trivial i.a) m (by simp)) ?_;rintro _ K ⟨rfl,p⟩;refine⟨p.1,?_⟩;have k:=(ay.push H0 (.row Z 1 [[J X i.a]])).trans p;cases g:ev c dI [i.a]with
  |false=>
   simp-implicitDefEqProofs(disch:=try exact al)only[aq];exact aK.2 ⟨by rw[iv]at g;simp at g;simp[fH,g],o.trans k⟩
  |true=>
   simp-implicitDefEqProofs(disch:=try exact al)only[aq,aO,aM,cG (k.get aT),bg (k.get aQ),yn,hV];refine cE (hT ((q.aI k).aI (ay.push _ _)) (yo _ bH trivial i.b i.c) m (by simp)) ?_;rintro _ A ⟨rfl,z⟩;refine⟨z.1,?_⟩;simp-implicitDefEqProofs(disch:=try exact al)only[aq];exact aK.2 ⟨by rw[iv]at g;simp at g;rw[hq];simp[fH,g],o.trans (k.trans ((ay.push _ _).trans z))⟩
 have ak:(i.n==19)=false:=beq_eq_false_iff_ne.2 L;by_cases M:i.n=20
 ·have aS:∀j:Int,(i.n==j)=(20==j):=λj=>by rw[M]
  rw[M];simp-implicitDefEqProofs(disch:=try exact al)only[gy,ji,aq,aO,aG,aM,cG aT,bg aQ,aS,Int.reduceBEq,eW];refine bk (lH (q.aI (ay.push _ _)) (fU _ bH trivial i.a) m (by simp)) ?_;rintro _ K ⟨rfl,p⟩;refine⟨p.1,?_⟩;have k:=(ay.push H0 (.row Z 1 [[J X i.a]])).trans p;cases g:ev c dI [i.a]with
  |false=>
   simp-implicitDefEqProofs(disch:=try exact al)only[aq];exact aK.2 ⟨by rw[iv]at g;simp at g;simp[fH,g],o.trans k⟩
  |true=>
   simp-implicitDefEqProofs(disch:=try exact al)only[aq,aO,aM,cG (k.get aT),bg (k.get aQ),yn,hV];refine cE (hT ((q.aI k).aI (ay.push _ _)) (yo _ bH trivial i.b i.c) m (by simp)) ?_;rintro _ A ⟨rfl,z⟩;refine⟨z.1,?_⟩;simp-implicitDefEqProofs(disch:=try exact al)only[aq];exact aK.2 ⟨by rw[iv]at g;simp at g;rw[hq];simp[fH,g],o.trans (k.trans ((ay.push _ _).trans z))⟩
 have am:(i.n==20)=false:=beq_eq_false_iff_ne.2 M;by_cases N:i.n=21
 ·have aS:∀j:Int,(i.n==j)=(21==j):=λj=>by rw[N]
  rw[N];simp-implicitDefEqProofs(disch:=try exact al)only[gy,ji,kD,aq,aO,aG,aM,cG aT,bg aQ,aS,Int.reduceBEq,eW];refine bk (lH (q.aI (ay.push _ _)) (fU _ bH trivial i.a) m (by simp)) ?_;rintro _ K ⟨rfl,p⟩;refine⟨p.1,?_⟩;have k:=(ay.push H0 (.row Z 1 [[J X i.a]])).trans p;cases g:ev c dI [i.a]with
  |false=>
   simp-implicitDefEqProofs(disch:=try exact al)only[aq,dQ];refine cI (cJ ag ?_) (aK.2 ⟨by rw[iv]at g;simp at g;simp[fH,g],o.trans k⟩);refine cY ?_ ?_
   ·simp only[cw,bo.K.heap,List.forall_mem_cons]
    repeat' first|exact ay.refl _|exact ay.push _ _|exact k|(intro _ h;cases h;done)|refine aL ?_ ?_
   ·simp only[List.forall_mem_cons]
    repeat' first|(intro v g;cases g;done)|(intro v g;cases g;intro H' p;simp only[cG (p.get aT),bg (p.get aQ),jZ s,bK];done)|(intro _ h;cases h;done)|refine aL ?_ ?_
  |true=>
   simp-implicitDefEqProofs(disch:=try exact al)only[aq,aO,aM,c1,cG (k.get aT),bg (k.get aQ)];refine cE (kP (q.aI k) i.b m) ?_;rintro _ A ⟨rfl,z⟩;refine⟨z.1,?_⟩;have u:=k.trans z;simp-implicitDefEqProofs(disch:=try exact al)only[aq,aO,aM,c1,hV,cG (u.get aT),bg (u.get aQ),eW];refine cE (jo ((q.aI u).aI (ay.push _ _)) (t:=a1 c i.b) (l:=[i.c]) (fU _ bH trivial i.c) m (by simp)) ?_;rintro _ aa ⟨rfl,G⟩;refine⟨G.1,?_⟩;have B:=u.trans (ay.push A (.row Z 1 [[J X i.c]]));have E:=B.trans G;simp-implicitDefEqProofs(disch:=try exact al)only[aq];refine cI (cJ ag ?_) (aK.2 ⟨by rw[iv]at g;simp at g;rw[sO];simp[fH,g,Bool.and_comm,eq_comm (a:=a1 c i.c)],o.trans E⟩)
   refine cY ?_ ?_
   ·simp only[cw,bo.K.heap,List.forall_mem_cons]
    repeat' first|exact ay.refl _|exact ay.push _ _|exact k|exact u|exact B|exact E|(intro _ h;cases h;done)|refine aL ?_ ?_
   ·simp only[List.forall_mem_cons]
    repeat' first|(intro v g;cases g;done)|(intro v g;cases g;intro H' p;simp only[cG (p.get aT),bg (p.get aQ),jZ s,bK];done)|(intro _ h;cases h;done)|refine aL ?_ ?_
 have an:(i.n==21)=false:=beq_eq_false_iff_ne.2 N;by_cases O:i.n=22
 ·have aS:∀j:Int,(i.n==j)=(22==j):=λj=>by rw[O]
  rw[O];simp-implicitDefEqProofs(disch:=try exact al)only[gy,ji,kD,aq,aO,aG,aM,cG aT,bg aQ,aS,Int.reduceBEq,eW];refine bk (lH (q.aI (ay.push _ _)) (fU _ bH trivial i.a) m (by simp)) ?_;rintro _ K ⟨rfl,p⟩;refine⟨p.1,?_⟩;have k:=(ay.push H0 (.row Z 1 [[J X i.a]])).trans p;cases g:ev c dI [i.a]with
  |false=>
   simp-implicitDefEqProofs(disch:=try exact al)only[aq,dQ];refine cI (cJ ag ?_) (aK.2 ⟨by rw[iv]at g;simp at g;simp[fH,g],o.trans k⟩);refine cY ?_ ?_
   ·simp only[cw,bo.K.heap,List.forall_mem_cons]
    repeat' first|exact ay.refl _|exact ay.push _ _|exact k|(intro _ h;cases h;done)|refine aL ?_ ?_
   ·simp only[List.forall_mem_cons]
    repeat' first|(intro v g;cases g;done)|(intro v g;cases g;intro H' p;simp only[cG (p.get aT),bg (p.get aQ),jZ s,bK];done)|(intro _ h;cases h;done)|refine aL ?_ ?_
  |true=>
   simp-implicitDefEqProofs(disch:=try exact al)only[aq,aO,aM,c1,cG (k.get aT),bg (k.get aQ)];refine cE (kP (q.aI k) i.b m) ?_;rintro _ A ⟨rfl,z⟩;refine⟨z.1,?_⟩;have u:=k.trans z;simp-implicitDefEqProofs(disch:=try exact al)only[aq,aO,aM,c1,hV,cG (u.get aT),bg (u.get aQ),eW];refine cE (jo ((q.aI u).aI (ay.push _ _)) (t:=a1 c i.b) (l:=[i.c]) (fU _ bH trivial i.c) m (by simp)) ?_;rintro _ aa ⟨rfl,G⟩;refine⟨G.1,?_⟩;have B:=u.trans (ay.push A (.row Z 1 [[J X i.c]]));have E:=B.trans G;simp-implicitDefEqProofs(disch:=try exact al)only[aq];refine cI (cJ ag ?_) (aK.2 ⟨by rw[iv]at g;simp at g;rw[sO];simp[fH,g,Bool.and_comm,eq_comm (a:=a1 c i.c)],o.trans E⟩)
   refine cY ?_ ?_
   ·simp only[cw,bo.K.heap,List.forall_mem_cons]
    repeat' first|exact ay.refl _|exact ay.push _ _|exact k|exact u|exact B|exact E|(intro _ h;cases h;done)|refine aL ?_ ?_
   ·simp only[List.forall_mem_cons]
    repeat' first|(intro v g;cases g;done)|(intro v g;cases g;intro H' p;simp only[cG (p.get aT),bg (p.get aQ),jZ s,bK];done)|(intro _ h;cases h;done)|refine aL ?_ ?_
 have ao:(i.n==22)=false:=beq_eq_false_iff_ne.2 O;by_cases Q:i.n=23
 ·have aS:∀j:Int,(i.n==j)=(23==j):=λj=>by rw[Q]
  rw[Q];simp-implicitDefEqProofs(disch:=try exact al)only[gy,ji,kD,m4,aq,aO,aG,aM,cG aT,bg aQ,aS,Int.reduceBEq,pd];refine bk (lH (q.aI (ay.push _ _)) (pe _ bH trivial i.a i.b i.c) m (by simp)) ?_;rintro _ K ⟨rfl,p⟩;exact⟨p.1,aK.2 ⟨by rw[iv];simp[fH],o.trans ((ay.push _ _).trans p)⟩⟩
 have ap:(i.n==23)=false:=beq_eq_false_iff_ne.2 Q;by_cases R:i.n=24
 ·have aS:∀j:Int,(i.n==j)=(24==j):=λj=>by rw[R]
  rw[R];simp-implicitDefEqProofs(disch:=try exact al)only[gy,ji,kD,m4,aq,aO,aG,aM,cG aT,bg aQ,aS,Int.reduceBEq,pd];refine bk (lH (q.aI (ay.push _ _)) (pe _ bH trivial i.a i.b i.c) m (by simp)) ?_;rintro _ K ⟨rfl,p⟩;exact⟨p.1,aK.2 ⟨by rw[iv];simp[fH],o.trans ((ay.push _ _).trans p)⟩⟩
 have ar:(i.n==24)=false:=beq_eq_false_iff_ne.2 R;simp-implicitDefEqProofs(disch:=try exact al)only[gy,ji,kD,m4,iF,aq,aG,bg aQ,ab,ae,af,ah,aj,ak,am,an,ao,ap,ar];refine aK.2 ⟨?_,o⟩;have e:¬(14<=i.n/\i.n<=18):=ai;simp[fH,e,L,M,N,O,Q,R]
