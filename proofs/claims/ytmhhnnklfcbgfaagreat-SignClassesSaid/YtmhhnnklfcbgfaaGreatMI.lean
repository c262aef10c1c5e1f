/-
  Texts of one proof, laid together: Oc Od Oe Of Og.
-/
import Derived.Test.YtmhhnnklfcbgfaaGreatMH
set_option linter.unusedVariables false
set_option linter.unusedSimpArgs false
set_option linter.defProp false
open Option renaming some→A
open Bool renaming true→J,false→I
open Go.cw.af renaming int→D,str→X,bool→C
open Go.IntKind renaming i64→F
namespace Go.Proofs.YtmhhnnklfcbgfaaGreat
open Go.cw
open Nat (reduceAdd reduceLeDiff)
section
open Go.a_
set_option maxRecDepth 2000
section
variable {H:ae}{ok:Nat->Prop}
theorem Mn{x:bC}{l:List cM}{v rv:af}{a b cc d:af}{zX r n:Nat}(ar:r<=1000000)(t:l.length<=1000000){L1:af->af->af->af->ae->O}{Q:af->ae->Prop}{N:Nat}:
  ∀(j k m:Nat) (H:ae),k+j=l.length->j<m->H.get zX=A (.row I 5 [[a,b,cc,d,D F x.main]])->cA H ok x (.agg [a,b,cc,d,D F x.main])->aH l1 H ok l v->
  ((l.drop k).all (eD x.b_.length)=I->∀H',au H H'->Q (C I) H')->((l.drop k).all (eD x.b_.length)=J->∀H',au H H'->W (L1 (.ptr zX 0 0) rv (D F n) (D F ((r+1:Nat):Int)) H') Q)->
  W (xj (aK P aG) N L1 m (.ptr zX 0 0) rv (D F n) (D F r) v (D F l.length) (D F k) H) Q
 |_,_,0,_,_,y,_,_,_,_,_=>ad
 |0,k,m+1,H,u,_,aO,aE,h,c,dO=>by
  have S:¬(k:Int)<(l.length:Int):=ad;have:=dO al H (au.refl _);refine b3 @xj.eq_2 @Ck.eq_1 @Cl.eq_1 ?_;omega
 |j+1,k,m+1,H,u,y,aO,aE,h,c,dO=>by
  have w:k<l.length:=ad;obtain⟨L,q,ro,els,G,E,_,g,e,s,rfl⟩:=h.at_ (K:=l1) jo (j:=(k:Int)) (a:=l[k]) ad al;have M:=ae.bq g;have R:=ae.bq aO;have o:H.get L=A (.row ro 4 els):=g;rw[cb]at e;have on:=Mn (x:=x) (l:=l) (v:=v) (rv:=rv) (a:=a) (b:=b) (cc:=cc) (d:=d) (zX:=zX) (r:=r) (n:=n) ar t (L1:=L1) (Q:=Q) (N:=N) j (k+1) m;rw[List.drop_eq_getElem_cons w,List.all_cons]at c dO;have i:=au.push H (.row I 4 [X s::cb l[k]]);refine gm @xj.eq_2 @Ck.eq_1 E o e aO ?_;refine bw (zk (aE.aB i) l[k]) λH1 B=> ?_
  have q:=i.trans B;cases z:eD x.b_.length l[k]with
  |false=>
   refine bN ?_;grind[aD]
  |true=>
   rw[z,Bool.true_and]at c dO;refine bN ?_;exact on H1 ad ad (q.get aO) (aE.aB q) (h.aB q) (λf H' p=>c f H' (q.trans p)) λf H' p=>dO f H' (q.trans p)
theorem Mt{x:bC}{a b cc d:af}{zX:Nat}(M:x.b_.length<=1000000){N:Nat}(z:8<N):
  ∀(j k m:Nat) (H:ae),k+j=x.b_.length->j<m->H.get zX=A (.row I 5 [[a,b,cc,d,D F x.main]])->cA H ok x (.agg [a,b,cc,d,D F x.main])->
  W (tE (aK P aG) N m (.ptr zX 0 0) a (D F x.b_.length) (D F k) H) λr H'=>r= C ((x.b_.drop k).all (nt x))/\au H H'
 |_,_,0,_,_,G,_,_=>ad
 |0,k,m+1,H,B,_,aO,aE=>by
  have h:¬(k:Int)<(x.b_.length:Int):=ad;refine b3 @tE.eq_2 @xh.eq_1 @xi.eq_1 ?_;grind[aD,au.refl]
 |j+1,k,m+1,H,B,G,aO,aE=>by
  have t:=aE;obtain⟨_,v,b1,b',R,T,w,ah,ai,ax,aM⟩:=aE;cases v;cases w;have h:(k:Int)<(x.b_.length:Int):=ad;have E:k<x.b_.length:=ad;obtain⟨L,n,ro,els,S,u,_,g,e,s,fv,rfl,aC⟩:=ah.at_ (K:=m4) fo (j:=(k:Int)) (a:=x.b_[k]) ad al;have U:=ae.bq g;have V:=ae.bq aO;have i:H.get L=A (.row ro 2 els):=g;have o:=aC.one;have on:=Mt (x:=x) (a:=a) (b:=b) (cc:=cc) (d:=d) (zX:=zX) M z j (k+1) m;rw[List.drop_eq_getElem_cons E,List.all_cons,nt];have c:=au.push H (.row I 2 [[X s,fv]]);by_cases fY:(8:Int)<(x.b_[k].length:Int)
  ·simp-implicitDefEqProofs(disch:=try exact aW)only[tE,xh,reduceAdd,reduceLeDiff,reduceIte,eU,h,decide_true,u,i,e,o,aC.len jo,fY];grind[aD]
  ·have y:decide (x.b_[k].length<=8)=true:=al;simp-implicitDefEqProofs(disch:=try exact aW)only[tE,xh,reduceAdd,reduceLeDiff,reduceIte,eU,h,decide_true,decide_false,u,i,e,o,aC.len jo,fY];rw[y,Bool.true_and];refine Mn (x:=x) (l:=x.b_[k]) ad ad x.b_[k].length 0 N _ ad ad (c.get aO) (t.aB c) (aC.aB c) (λf H' p=> ?_) λf H' p=> ?_
   ·rw[List.drop_zero]at f;exact⟨al,c.trans p⟩
   ·rw[List.drop_zero]at f;have q:=c.trans p;refine(on H' ad ad (q.get aO) (t.aB q)).mono ?_;rintro r Q ⟨rfl,O⟩;exact⟨al,q.trans O⟩
def agC{x:bC}{v:af}(aE:cA H ok x v)(e:x.b_.length<=1000000):W (aK P aG 73 [v] H) λr H'=>r= C (x.b_.all (nt x))/\au H H':=by
 obtain⟨_,rfl,a,b,cc,d,rfl,ah,ai,ax,aM⟩:=aE;refine afr (x.b_.length+9) ?_;have c:=au.push H (.row I 5 [[a,b,cc,d,D F x.main]]);refine bh @HS.eq_1 ad @eM.eq_1 (dV ah ai ax aM) (oc (ae.a2 H (.row I 5 [[a,b,cc,d,D F x.main]]))) (ah.bg fo) ?_;refine(Mt (ok:=ok) (x:=x) e (N:=x.b_.length+9) ad x.b_.length 0 (x.b_.length+9) _ ad ad (ae.a2 _ _) ⟨_,rfl,a,b,cc,d,rfl,ah.aB c,ai.aB c,ax.aB c,aM.aB c⟩).mono ?_;rintro r g ⟨rfl,f⟩;exact⟨aX,c.trans f⟩
end
end
section
open Go.a_
set_option maxRecDepth 2000
def cm(i:In)(wi:af):List af:=[D F i.op,D F i.a,D F i.b,D F i.c,D F i.n,wi]
def cC(x:bC)(f:Nat)(c:bT)(i:In)(a b cc d v w wi:af):List af:=[a,b,cc,d,D F x.main,D F f,D F c.params,v,C c.has,D F c.res.b,D F c.res.r,D F c.res.d,w,D F i.op,D F i.a,D F i.b,D F i.c,D F i.n,wi]
structure h1(H:ae)(ok:Nat->Prop)(x:bC)(c:bT)(i:In)(a b cc d v w wi:af):Prop where
 ah:aH m4 H ok x.b_ a
 ai:aH e_ H ok x.globals b
 ax:aH gf H ok x.ay cc
 aM:aH m5 H ok x.sites d
 bV:aH e_ H ok c.vars v
 b9:aH gq H ok c.ins w
 i1:aH aN H ok i.args wi
theorem h1.aB{H H':ae}{ok:Nat->Prop}{x:bC}{c:bT}{i:In}{a b cc d v w wi:af}(s:h1 H ok x c i a b cc d v w wi)(p:au H H'):h1 H' ok x c i a b cc d v w wi:=
 ⟨s.ah.aB p,s.ai.aB p,s.ax.aB p,s.aM.aB p,s.bV.aB p,s.b9.aB p,s.i1.aB p⟩
section
variable {H:ae}{ok:Nat->Prop}{x:bC}{f:Nat}{c:bT}{i:In}{a b cc d v w wi:af}
def iy(s:h1 H ok x c i a b cc d v w wi)(f l:Nat):fj l (.agg (cC x f c i a b cc d v w wi))=A (.ptr l 0 0,.row I 19 [cC x f c i a b cc d v w wi]):=
 mg l _ (by have e:=s.ah.one;have g:=s.ai.one;have h:=s.ax.one;have j:=s.aM.one;have k:=s.bV.one;have m:=s.b9.one;have n:=s.i1.one;simp[cC,e,g,h,j,k,m,n];simp[af.one])
section
variable {zX:Nat}(g:H.get zX=A (.row I 19 [cC x f c i a b cc d v w wi]))
include g
theorem cI:aI P H 280 (.ptr zX 0 0)=A (.agg (cC x f c i a b cc d v w wi)):=
 hz (n:=19) (i:=0) (c:=0) aF aF g rfl ad
theorem zG:aI P H 89 (.ptr zX 0 13)=A (.agg (cm i wi)):=
 hz (n:=6) (i:=0) (c:=13) aF aF g rfl ad
theorem aaA:aI P H 46 (.ptr zX 0 9)=A (c3 c.res):=
 hz (n:=3) (i:=0) (c:=9) aF aF g rfl ad
theorem gR:aI P H 3 (.ptr zX 0 5)=A (D F f)/\aI P H 22 (.ptr zX 0 0)=A a/\aI P H 23 (.ptr zX 0 1)=A b/\aI P H 24 (.ptr zX 0 2)=A cc/\aI P H 25 (.ptr zX 0 3)=A d
  /\aI P H 23 (.ptr zX 0 7)=A v/\aI P H 4 (.ptr zX 0 8)=A (C c.has)/\aI P H 47 (.ptr zX 0 12)=A w:=by
 rw[cC]at g;exact kz g
end
theorem nK(s:h1 H ok x c i a b cc d v w wi)(n:Int)(E:c.vars.length<=1000000000):W (aK P aG 243 [.agg (cC x f c i a b cc d v w wi),D F n] H) λr H'=>r=c3 (a6 c n)/\au H H':=by
 refine aeO 0 ?_;have h:=iy s f;have o:au (H.push (.row I 19 [cC x f c i a b cc d v w wi])) ((H.push (.row I 19 [cC x f c i a b cc d v w wi])).push (.row I 3 [[D F 0,D F 0,D F 0]])):=au.push _ _;have k:=(au.push H (.row I 19 [cC x f c i a b cc d v w wi])).trans o;have e:((H.push (.row I 19 [cC x f c i a b cc d v w wi])).push (.row I 3 [[D F 0,D F 0,D F 0]])).get (H.next+1)=A (.row I 3 [cb bt]):=ae.a2 _ _;have aO:=o.get (ae.a2 H (.row I 19 [cC x f c i a b cc d v w wi]));have bad:a6 c n=bt->W (ea ((H.push (.row I 19 [cC x f c i a b cc d v w wi])).push (.row I 3 [[D F 0,D F 0,D F 0]])) (aK P aG 167 [] ((H.push (.row I 19 [cC x f c i a b cc d v w wi])).push (.row I 3 [[D F 0,D F 0,D F 0]]))) λB m=>gp m (cr P m 46 (.ptr (H.next+1) 0 0) B) λl=>aU (aI P l 46 (.ptr (H.next+1) 0 0)) λr=>A (r,l)) λr H'=>r=c3 (a6 c n)/\au H H':=by
  intro aL;refine bw FA λK p=> ?_
  have dX:=p.get e;have q:=ae.bq dX;simp-implicitDefEqProofs(disch:=try exact aW)only[reduceAdd,reduceLeDiff,reduceIte,bB,Dc dX,kD,R (ae.cH q)];exact aD.2 ⟨by rw[aL],(k.trans p).oF ad _⟩
 by_cases g:n<0
 ·refine cv @wD.eq_1 h @ae.fR g ?_;grind[a6,gi]
 ·by_cases aw:(c.vars.length:Int)<=n
  ·refine bh @wD.eq_1 h (gR aO) g aw (s.bV.bg cS) ?_;grind[a6,gi]
  ·have G:n.toNat<c.vars.length:=ad;obtain⟨p,cs,u,y,rfl⟩:=(s.bV.aB k).agg (K:=e_) cS tS (j:=n) (a:=c.vars[n.toNat]) ad al;have z:aI P ((H.push (.row I 19 [cC x f c i a b cc d v w wi])).push (.row I 3 [[D F 0,D F 0,D F 0]])) 46 p=A (c3 c.vars[n.toNat]):=y;have t:=ae.bq e;simp-implicitDefEqProofs(disch:=try exact aW)only[wD,reduceAdd,reduceLeDiff,reduceIte,bB,h,gR aO,g,aw,s.bV.len cS,u,z,Dc e,R (ae.cH t),decide_false];refine aD.2 ⟨?_,k.oF ad _⟩;grind[a6,jK]
def fG(c:bT)(t:cM)(l:List Int):Bool:=l.all (λn=>decide (a6 c n=t))&&decide (t≠bt)
theorem MC(c:bT)(t:cM)(a:Int)(l:List Int):fG c t (a::l)=(decide (a6 c a=t)&&fG c t l):=by grind[fG]
theorem SU{t:cM}{l:List Int}{lv:af}{ok':Nat->Prop}{zX T:Nat}(h:c.vars.length<=1000000000)(o:l.length<=1000000000){N:Nat}:∀(j k m:Nat) (H:ae),k+j=l.length->j<m->H.get zX=A (.row I 19 [cC x f c i a b cc d v w wi])->H.get T=A (.row I 3 [cb t])->h1 H ok x c i a b cc d v w wi->aH aN H ok' l lv->
  W (wE (aK P aG) N m (.ptr zX 0 0) (.ptr T 0 0) lv (D F l.length) (D F k) H) λr H'=>r= C (fG c t (l.drop k))/\au H H'
 |_,_,0,_,_,hm,_,_,_,_=>ad
 |0,k,m+1,H,n,_,aO,e,s,aw=>by
  have E:¬(k:Int)<(l.length:Int):=ad;refine b3 @wE.eq_2 @BA.eq_1 @Hn.eq_1 ?_;refine bw FA λK p=> ?_
  refine cv (R (p.get e)) (R e) @iH @eR ?_;grind[aD,fG]
 |j+1,k,m+1,H,n,hm,aO,e,s,aw=>by
  have q:k<l.length:=ad;obtain⟨p,y,z⟩:=aw.int (j:=(k:Int)) (a:=l[k]) ad al;have on:=SU (t:=t) (l:=l) (lv:=lv) (ok':=ok') (zX:=zX) (T:=T) h o (N:=N) j (k+1) m;rw[List.drop_eq_getElem_cons q];refine c_ @wE.eq_2 @BA.eq_1 y z (cI aO) ?_;refine bw (nK s l[k] h) λK p=> ?_
  by_cases he:a6 c l[k]=t
  ·have g:decide (a6 c l[k]≠t)=false:=al;refine c_ (R (p.get e)) (R e) @iH @eR g ?_;refine(on K ad ad (p.get aO) (p.get e) (s.aB p) (aw.aB p)).mono ?_;rintro r B ⟨rfl,u⟩;exact⟨by grind[MC],p.trans u⟩
  ·have g:decide (a6 c l[k]≠t)=true:=al;refine c_ (R (p.get e)) (R e) @iH @eR g ?_;grind[aD,MC]
def lX(s:h1 H ok x c i a b cc d v w wi){t:cM}{l:List Int}{lv:af}{ok':Nat->Prop}(aw:aH aN H ok' l lv)(h:c.vars.length<=1000000000)(m:l.length<=1000000000):W (aK P aG 244 [.agg (cC x f c i a b cc d v w wi),c3 t,lv] H) λr H'=>r= C (fG c t l)/\au H H':=by
 refine aeP (l.length+1) ?_;have k:=iy s f;have j:=j9 t;have g:au (H.push (.row I 19 [cC x f c i a b cc d v w wi])) ((H.push (.row I 19 [cC x f c i a b cc d v w wi])).push (.row I 3 [cb t])):=au.push _ _;have e:=(au.push H (.row I 19 [cC x f c i a b cc d v w wi])).trans g;refine c_ @Hm.eq_1 k j @eM.eq_1 (aw.bg b0) ?_;refine(SU (ok:=ok) (ok':=ok') (t:=t) (l:=l) h m l.length 0 (l.length+1) _ ad ad (g.get (ae.a2 _ _)) (ae.a2 _ _) (s.aB e) (aw.aB e)).mono ?_;rintro r o ⟨rfl,n⟩;exact⟨aX,e.trans n⟩
def kh(s:h1 H ok x c i a b cc d v w wi){l:List Int}{lv:af}{ok':Nat->Prop}(aw:aH aN H ok' l lv)(g:c.vars.length<=1000000000)(h:l.length<=1000000000):W (aK P aG 241 [.agg (cC x f c i a b cc d v w wi),lv] H) λr H'=>r= C (fG c da l)/\au H H':=by
 refine aeM 0 ?_;have e:=au.push H (.row I 19 [cC x f c i a b cc d v w wi]);refine b3 @Hk.eq_1 (iy s f) (cI (ae.a2 H (.row I 19 [cC x f c i a b cc d v w wi]))) ?_;refine bw (lX (s.aB e) (t:=da) (aw.aB e) g h) λK p=> ?_
 exact aD.2 ⟨rfl,e.trans p⟩
def oJ(s:h1 H ok x c i a b cc d v w wi){l:List Int}{lv:af}{ok':Nat->Prop}(aw:aH aN H ok' l lv)(g:c.vars.length<=1000000000)(h:l.length<=1000000000):W (aK P aG 242 [.agg (cC x f c i a b cc d v w wi),lv] H) λr H'=>r= C (fG c ey l)/\au H H':=by
 refine aeN 0 ?_;have e:=au.push H (.row I 19 [cC x f c i a b cc d v w wi]);refine b3 @Hl.eq_1 (iy s f) (cI (ae.a2 H (.row I 19 [cC x f c i a b cc d v w wi]))) ?_;refine bw (lX (s.aB e) (t:=ey) (aw.aB e) g h) λK p=> ?_
 exact aD.2 ⟨rfl,e.trans p⟩
end
end
section
open Go.a_
set_option maxRecDepth 2000
section
variable {H:ae}{ok:Nat->Prop}{x:bC}{f:Nat}{c:bT}{i:In}{a b cc d v w wi:af}
def fh(v:af)(b:bz)(k:cw.K->O):jA (A (v,b)) k=k (.new v b):=rfl
theorem hc(H:ae)(ok:Nat->Prop)(h:ok H.next)(n:Int):aH aN (H.push (.row I 1 [[D F n]])) ok [n] (.az H.next 0 1 1 (A 1)):=
 .inr (.inl ⟨H.next,0,A 1,I,_,rfl,h,ae.a2 _ _,aX,λj a b=>by
  rcases j with _|j
  ·cases b;exact⟨_,rfl,rfl⟩
  grind⟩)
theorem C9(H:ae)(ok:Nat->Prop)(h:ok H.next)(n m:Int):aH aN (H.push (.row I 1 [[D F n],[D F m]])) ok [n,m] (.az H.next 0 2 1 (A 2)):=
 .inr (.inl ⟨H.next,0,A 2,I,_,rfl,h,ae.a2 _ _,aX,λj a b=>by
  rcases j with _|_|j
  ·cases b;exact⟨_,rfl,rfl⟩
  ·cases b;exact⟨_,rfl,rfl⟩
  grind⟩)
theorem rG(H:ae)(ok:Nat->Prop)(h:ok H.next)(n m q:Int):aH aN (H.push (.row I 1 [[D F n],[D F m],[D F q]])) ok [n,m,q] (.az H.next 0 3 1 (A 3)):=
 .inr (.inl ⟨H.next,0,A 3,I,_,rfl,h,ae.a2 _ _,aX,λj a b=>by
  rcases j with _|_|_|j
  ·cases b;exact⟨_,rfl,rfl⟩
  ·cases b;exact⟨_,rfl,rfl⟩
  ·cases b;exact⟨_,rfl,rfl⟩
  grind⟩)
def hp(l:Nat)(n m:Int):gB P l 30 2 [(0,D F n),(1,D F m)]=A (.az l 0 2 1 (A 2),.row I 1 [[D F n],[D F m]]):=by
 obtain⟨z,a,c,d⟩:=b0.ft;have b:fX P 3=A (D F 0):=aF;rw[b]at a;cases a;simp[gB,b0.un,b0.ts,b,ma,af.cells,af.one]
def oB(l:Nat)(n m q:Int):gB P l 30 3 [(0,D F n),(1,D F m),(2,D F q)]=A (.az l 0 3 1 (A 3),.row I 1 [[D F n],[D F m],[D F q]]):=by
 have a:fX P 3=A (D F 0):=aF;simp[gB,b0.un,b0.ts,a,ma,af.cells,af.one]
def aH.yG{α:Type}{K:eS α}{t e:Nat}(y:fa t e K.esz)(c:eo P e=A J){l:List α}{v:af}(h:aH K H ok l v){j:Int}{a:α}(b:0<=j)(d:l[j.toNat]? =A a):∃p cs,ct P t v (D F j)=A p/\(∀H',au H H'->aI P H' e p=A (.agg cs))/\K.V H ok a cs:=by
 obtain⟨L,i,ro,els,cs,ah,_,ai,ax,aM⟩:=h.at_ y b d;refine⟨_,cs,ah,λH' p=> ?_,aM⟩;rw[hz c y.ts (p.get ai) ax ad,List.drop_zero,List.take_of_length_le (by have:=(K.len aM).1;omega)]
def aH.Dl{l:List cM}{v:af}(h:aH e_ H ok l v){j:Int}{t:cM}(a:0<=j)(b:l[j.toNat]? =A t):∃p,ct P 23 v (D F j)=A p/\∀H',au H H'->aI P H' 46 p=A (c3 t):=by
 obtain⟨p,cs,c,d,rfl⟩:=h.yG (K:=e_) cS tS a b;exact⟨p,c,d⟩
def aH.agH{l:List r0}{v:af}(h:aH m5 H ok l v){j:Int}{z:r0}(a:0<=j)(b:l[j.toNat]? =A z):∃L n,ct P 25 v (D F j)=A (.ptr L n 0)/\∀H',au H H'->aI P H' 3 (.ptr L n 0)=A (D F z.f)/\aI P H' 46 (.ptr L n 1)=A (c3 z.ty):=by
 obtain⟨L,n,ro,els,cs,ah,_,ai,ax,rfl⟩:=h.at_ (K:=m5) fH a b;refine⟨L,n,ah,λH' p=>⟨?_,?_⟩⟩
 ·have g:H'.get L=A (.row ro 4 els):=p.get ai;exact sI g ax
 ·exact hz (n:=3) (c:=1) aF aF (p.get ai) ax (by exact du 4)
def aH.acW{l:List (List cM)}{v:af}(h:aH m4 H ok l v){j:Int}{fs:List cM}(a:0<=j)(b:l[j.toNat]? =A fs):∃L n fv,ct P 22 v (D F j)=A (.ptr L n 0)/\(∀H',au H H'->aI P H' 93 (.ptr L n 1)=A fv)/\aH l1 H ok fs fv:=by
 obtain⟨L,n,ro,els,cs,ah,_,ai,ax,s,fv,rfl,aC⟩:=h.at_ (K:=m4) fo a b;refine⟨L,n,fv,ah,λH' p=> ?_,aC⟩;have g:H'.get L=A (.row ro 2 els):=p.get ai;exact sI g ax
def aH.Yn{l:List cM}{v:af}(h:aH l1 H ok l v){j:Int}{t:cM}(a:0<=j)(b:l[j.toNat]? =A t):∃L n,ct P 93 v (D F j)=A (.ptr L n 0)/\∀H',au H H'->aI P H' 46 (.ptr L n 1)=A (c3 t):=by
 obtain⟨L,n,ro,els,cs,ah,_,ai,ax,s,rfl⟩:=h.at_ (K:=l1) jo a b;exact⟨L,n,ah,λH' p=>hz (n:=3) (c:=1) aF aF (p.get ai) ax (by exact du 4)⟩
theorem uN(c:bT)(t:cM)(n:Int):fG c t [n]=(decide (a6 c n=t)&&decide (t≠bt)):=by simp[fG]
theorem SO(s:h1 H ok x c i a b cc d v w wi)(k n:Int)(g:c.vars.length<=1000000000)(B:(a6 c k).d<=1000):W (aK P aG 247 [.agg (cC x f c i a b cc d v w wi),D F k,D F n] H) λr H'=>r= C (decide (0<(a6 c k).d)&&fG c (less (a6 c k)) [n])/\au H H':=by
 refine aeS 0 ?_;have h:=au.push H (.row I 19 [cC x f c i a b cc d v w wi]);have aO:=ae.a2 H (.row I 19 [cC x f c i a b cc d v w wi]);refine b3 @Hq.eq_1 (iy s f) (cI aO) ?_;refine bw (nK (s.aB h) k g) λK p=> ?_
 have q:=h.trans p;have jm:=ae.bq (p.get aO);generalize a6 c k=t at*;have z:=ae.a2 K (.row I 3 [cb bt]);have E:au K (K.push (.row I 3 [cb t])):=au.push _ _;by_cases e:t.d<=0
 ·refine oC @c3.eq_1 @cb.eq_1 e ?_;exact aD.2 ⟨al,q.trans (au.push _ _)⟩
 ·have j:=p.get aO;simp-implicitDefEqProofs(disch:=try exact aW)only[cC]at j;have dX:=p.get aO;have o:(cC x f c i a b cc d v w wi).take 19=cC x f c i a b cc d v w wi:=rfl;have u:=wrap_i64 (show 0<=t.d-1 by omega) (show t.d-1<=9223372036854775807 by omega);refine gm @c3.eq_1 @cb.eq_1 e u dX (ag o @c2) ?_;refine bw (lX (((s.aB q).aB (au.push _ _)).aB (au.push _ _)) (t:=less t) (l:=[n]) (hc _ bb trivial n) g aX) λy m=> ?_
  exact aD.2 ⟨al,((q.trans (au.push _ _)).trans (au.push _ _)).trans m⟩
theorem IL(s:h1 H ok x c i a b cc d v w wi)(n:Int):W (aK P aG 259 [.agg (cC x f c i a b cc d v w wi),D F n] H) λr H'=>r= C (within n c.ins.length)/\au H H':=by
 refine ae1 0 ?_;have g:=au.push H (.row I 19 [cC x f c i a b cc d v w wi]);have aO:=ae.a2 H (.row I 19 [cC x f c i a b cc d v w wi]);by_cases e:0<=n
 ·refine c_ @BG.eq_1 (iy s f) (gR aO) (s.b9.bg eP) e ?_;grind[aD,within]
 ·refine b3 @BG.eq_1 (iy s f) e ?_;grind[aD,within]
def kG(s:h1 H ok x c i a b cc d v w wi)(f:Nat):bF (A (.agg (cC x f c i a b cc d v w wi))) (.agg (cC x f c i a b cc d v w wi))=true:=by
 simp[bF,cC,af.beq,e6.beq,s.ah.rd,s.ai.rd,s.ax.rd,s.aM.rd,s.bV.rd,s.b9.rd,s.i1.rd]
def zg(x:bC)(c:bT)(n k:Int):Bool:=match eK x.globals n with
 |some t=>fG c t [k]
 |none=>I
theorem SS(s:h1 H ok x c i a b cc d v w wi)(n k:Int)(o:c.vars.length<=1000000000):W (aK P aG 260 [.agg (cC x f c i a b cc d v w wi),D F n,D F k] H) λr H'=>r= C (zg x c n k)/\au H H':=by
 refine ae2 0 ?_;have e:=au.push H (.row I 19 [cC x f c i a b cc d v w wi]);have aO:=ae.a2 H (.row I 19 [cC x f c i a b cc d v w wi]);rw[zg];by_cases g:0<=n
 ·by_cases ah:n<(x.globals.length:Int)
  ·have y:n.toNat<x.globals.length:=ad;have m:eK x.globals n=A x.globals[n.toNat]:=by grind[jK]
   obtain⟨pp,u,h⟩:=(s.ai.aB e).Dl (j:=n) (t:=x.globals[n.toNat]) g al;rw[m];generalize x.globals[n.toNat]=t at*;refine bh @wL.eq_1 (iy s f) (gR aO) (cI aO) (s.ai.bg cS) (ag g (ag ah (ag u (ag (h _ (au.refl _)) (ag @fh @c2))))) ?_;refine cT (lX ((s.aB e).aB (au.push _ _)) (t:=t) (l:=[k]) (hc _ bb trivial k) o aX) λK p=> ?_
   have q:=(au.push (H.push (.row I 19 [cC x f c i a b cc d v w wi])) (.row I 1 [[D F k]])).trans p;refine bN ?_;refine ds (λH' p=>(ag (cI (p.get aO)) (ag (gR (p.get aO)) (ag (kG s) (ag fp (ag eR (ag (dF s.ah) (ag (dF s.ai) (ag (dF s.ax) (ag (dF s.aM) (ag (s.ai.bg cS) (h H' p)))))))))))) (aD.2 ⟨rfl,e.trans q⟩)
  ·refine bh @wL.eq_1 (iy s f) (gR aO) (s.ai.bg cS) g ah ?_;refine ds (λH' p=>(ag (cI (p.get aO)) (ag (gR (p.get aO)) (ag (kG s) (ag fp (ag eR (ag (dF s.ah) (ag (dF s.ai) (ag (dF s.ax) (ag (dF s.aM) (ag (s.ai.bg cS) (s.aM.bg fH)))))))))))) (aD.2 ⟨by grind[gi],e⟩)
 ·refine b3 @wL.eq_1 (iy s f) g ?_;refine ds (λH' p=>(ag (cI (p.get aO)) (ag (gR (p.get aO)) (ag (kG s) (ag fp (ag eR (ag (dF s.ah) (ag (dF s.ai) (ag (dF s.ax) (dF s.aM)))))))))) (aD.2 ⟨by grind[gi],e⟩)
def C8(x:bC)(f:Nat)(c:bT)(n k:Int):Bool:=match eK x.sites n with
 |some z=>z.f==(f:Int)&&fG c z.ty [k]
 |none=>I
theorem SW(s:h1 H ok x c i a b cc d v w wi)(n k:Int)(u:c.vars.length<=1000000000):W (aK P aG 248 [.agg (cC x f c i a b cc d v w wi),D F n,D F k] H) λr H'=>r= C (C8 x f c n k)/\au H H':=by
 refine aeT 0 ?_;have e:=au.push H (.row I 19 [cC x f c i a b cc d v w wi]);have aO:=ae.a2 H (.row I 19 [cC x f c i a b cc d v w wi]);rw[C8];by_cases g:0<=n
 ·by_cases ah:n<(x.sites.length:Int)
  ·have B:n.toNat<x.sites.length:=ad;have q:eK x.sites n=A x.sites[n.toNat]:=by grind[jK]
   obtain⟨L,m,o,h⟩:=(s.aM.aB e).agH (j:=n) (z:=x.sites[n.toNat]) g al;rw[q];generalize x.sites[n.toNat]=z at*;simp only[];cases aC:(z.f==(f:Int))with
   |true=>
    refine bh @tv.eq_1 (iy s f) (gR aO) (cI aO) (s.aM.bg fH) (ag g (ag ah (ag o (ag (h _ (au.refl _)) (ag aC (ag @fh @c2)))))) ?_;refine cT (lX ((s.aB e).aB (au.push _ _)) (t:=z.ty) (l:=[k]) (hc _ bb trivial k) u aX) λK p=> ?_
    have y:=(au.push (H.push (.row I 19 [cC x f c i a b cc d v w wi])) (.row I 1 [[D F k]])).trans p;refine bN ?_;refine ds (λH' p=>(ag (cI (p.get aO)) (ag (gR (p.get aO)) (ag (kG s) (ag fp (ag eR (ag (dF s.ah) (ag (dF s.ai) (ag (dF s.ax) (ag (dF s.aM) (ag (s.aM.bg fH) (h H' p)))))))))))) (aD.2 ⟨al,e.trans y⟩)
   |false=>
    refine bh @tv.eq_1 (iy s f) (gR aO) (s.aM.bg fH) g (ag ah (ag o (ag (h _ (au.refl _)) aC))) ?_;refine ds (λH' p=>(ag (cI (p.get aO)) (ag (gR (p.get aO)) (ag (kG s) (ag fp (ag eR (ag (dF s.ah) (ag (dF s.ai) (ag (dF s.ax) (ag (dF s.aM) (ag (s.aM.bg fH) (h H' p)))))))))))) (aD.2 ⟨al,e⟩)
  ·refine bh @tv.eq_1 (iy s f) (gR aO) (s.aM.bg fH) g ah ?_;refine ds (λH' p=>(ag (cI (p.get aO)) (ag (gR (p.get aO)) (ag (kG s) (ag fp (ag eR (ag (dF s.ah) (ag (dF s.ai) (ag (dF s.ax) (ag (dF s.aM) (ag (s.ai.bg cS) (s.aM.bg fH)))))))))))) (aD.2 ⟨by grind[gi],e⟩)
 ·refine b3 @tv.eq_1 (iy s f) g ?_;refine ds (λH' p=>(ag (cI (p.get aO)) (ag (gR (p.get aO)) (ag (kG s) (ag fp (ag eR (ag (dF s.ah) (ag (dF s.ai) (ag (dF s.ax) (dF s.aM)))))))))) (aD.2 ⟨by grind[gi],e⟩)
end
end
section
open Go.a_
set_option maxRecDepth 2000
section
variable {H:ae}{ok:Nat->Prop}{x:bC}{f:Nat}{c:bT}{i:In}{a b cc d v w wi:af}
theorem tO{H:ae}{i:In}{w:af}{L:Nat}{r:List af}(h:H.get L=A (.row I 6 [r]))(hw:w.one=J)(ar:r.length=6:=by rfl):cr P H 89 (.ptr L 0 0) (.agg (cm i w))=A (H.set L (.row I 6 [cm i w])):=by
 rw[e4 (n:=6) aF h rfl rfl (by grind[cm,af.cells,af.one]) bZ];grind[cm,af.cells,fU,List.drop_of_length_le]
def f_{H:ae}{i:In}{w:af}{zI:Nat}(h:H.get zI=A (.row I 6 [[D F i.op,D F i.a,D F i.b,D F i.c,D F i.n,w]])):aI P H 3 (.ptr zI 0 0)=A (D F i.op)/\aI P H 30 (.ptr zI 0 5)=A w:=by
 exact kz h
theorem jV(c:bT)(l:List Int):fG c da l=l.all (λn=>decide (a6 c n=da)):=by rw[fG,decide_eq_true aiM,Bool.and_true]
theorem mu(c:bT)(l:List Int):fG c ey l=l.all (λn=>decide (a6 c n=ey)):=by rw[fG,decide_eq_true aiJ,Bool.and_true]
theorem SQ(s:h1 H ok x c i a b cc d v w wi)(k q n:Int)(U:c.vars.length<=1000000000):W (aK P aG 246 [.agg (cC x f c i a b cc d v w wi),D F k,D F q,D F n] H) λr H'=>r= C (fG c (e8 x (a6 c k) q) [n])/\au H H':=by
 refine aeR 0 ?_;have ab:=au.push H (.row I 19 [cC x f c i a b cc d v w wi]);have S:=ae.a2 H (.row I 19 [cC x f c i a b cc d v w wi]);refine b3 @Hp.eq_1 (iy s f) (cI S) ?_;refine bw (nK (s.aB ab) k U) λK aa=> ?_
 have ap:=ab.trans aa;have T:=aa.get S;have jm:=ae.bq T;generalize a6 c k=t at*;have st:=Dc (t:=bt) (u:=t) (ae.a2 K (.row I 3 [cb bt]));have Y:au K (K.push (.row I 3 [cb t])):=au.push _ _;have aO:=Y.get T;have R:(K.push (.row I 3 [cb t])).get K.next=A (.row I 3 [cb t]):=ae.a2 _ _
 have Q:=ap.trans Y;have ai:=s.aB Q;have B:=jX R;have E:aI P (K.push (.row I 3 [cb t])) 3 (.ptr K.next 0 1)=A (D F t.r):=by
  rw[cb]at R ⊢;exact aaa
 have no:∀{e:Bool},e8 x t q=bt->fG c (e8 x t q) [n]=false:=λh=>by rw[h,uN];simp
 have o:cr P (K.push (.row I 3 [[D F 0,D F 0,D F 0]])) 46 (.ptr K.next 0 0) (c3 t)=A ((K.push (.row I 3 [cb bt])).set K.next (.row I 3 [cb t])):=st;rw[ae.lb]at o;have bad:e8 x t q=bt->W (A (af.bool I,K.push (.row I 3 [cb t]))) λr H'=>r= C (fG c (e8 x t q) [n])/\au H H':=λh=>aD.2 ⟨by rw[no (e:=true) h],Q⟩
 cases ar:(t.b==3)with
 |false=>
  have g:(t.b != 3)=true:=al;have ak:¬t.b=3:=al;refine b3 o B g ?_;grind[e8,mL]
 |true=>
  have g:(t.b != 3)=false:=al;cases av:(t.d==0)with
  |false=>
   have y:(t.d != 0)=true:=al;have ak:¬t.d=0:=al;refine cv o B g y ?_;grind[e8,mL]
  |true=>
   have y:(t.d != 0)=false:=al;have ay:mL x t=eK x.b_ t.r:=by grind[mL]
   by_cases G:t.r<0
   ·refine bh o B E g y G ?_;grind[e8,gi]
   by_cases N:(x.b_.length:Int)<=t.r
   ·refine bh o B E g y (ag G (ag N (ag (gR aO) (s.ah.bg fo)))) ?_;grind[e8,gi]
   have aC:t.r.toNat<x.b_.length:=ad;have aw:eK x.b_ t.r=A x.b_[t.r.toNat]:=by grind[jK]
   obtain⟨L,m,fv,i1,i2,i3⟩:=ai.ah.acW (j:=t.r) (fs:=x.b_[t.r.toNat]) ad al;generalize x.b_[t.r.toNat]=fs at*;have ax:e8 x t q=(eK fs q).getD bt:=by grind[e8]
   have base:=[46];by_cases O:0<=q
   ·by_cases bV:q<(fs.length:Int)
    ·have aA:q.toNat<fs.length:=ad;obtain⟨M,e,am,V⟩:=i3.Yn (j:=q) (t:=fs[q.toNat]) ad al;have aj:e8 x t q=fs[q.toNat]:=by grind[jK]
     rw[aj];generalize fs[q.toNat]=u at*;refine bh @fh o B E g (ag y (ag G (ag N (ag O (ag bV (ag (gR aO) (ag (cI aO) (ag (s.ah.bg fo) (ag (i3.bg jo) (ag i1 (ag (i2 _ (au.refl _)) (ag am (ag (V _ (au.refl _)) @c2))))))))))))) ?_;refine cT (lX (ai.aB (au.push _ _)) (t:=u) (l:=[n]) (hc _ bb trivial n) U aX) λaq p=> ?_
     have an:=(au.push (K.push (.row I 3 [cb t])) (.row I 1 [[D F n]])).trans p;refine bN ?_;refine ds (λH' p=>(ag (cI (p.get aO)) (ag (gR (p.get aO)) (ag (kG s) (ag fp (ag eR (ag (i3.bg jo) (V H' p)))))))) (aD.2 ⟨rfl,Q.trans an⟩)
    ·refine bh o B E g y (ag G (ag N (ag O (ag bV (ag (gR aO) (ag (s.ah.bg fo) (ag (i3.bg jo) (ag i1 (i2 _ (au.refl _)))))))))) ?_;refine lx (lH aF ?_) (bad (by grind[gi]));refine lY ?_ ?_
     ·simp only[hW,cw.K.heap,List.forall_mem_cons];grind[au.refl]
     ·simp only[List.forall_mem_cons]
      repeat' first|(intro v z;cases z;done)|(intro v z;cases z;intro H' p;simp only[Nat.zero_add,Nat.reduceAdd,i3.len jo,fp];done)|(intro _ h;cases h;done)|refine ag ?_ ?_
   ·refine bh o B E g y (ag G (ag N (ag O (ag (gR aO) (ag (s.ah.bg fo) (ag i1 (i2 _ (au.refl _)))))))) ?_;refine lx (lH aF ?_) (bad (by grind[gi]));refine lY ?_ ?_
    ·simp only[hW,cw.K.heap,List.forall_mem_cons];grind[au.refl]
    ·simp only[List.forall_mem_cons]
     repeat' first|(intro v z;cases z;done)|(intro v z;cases z;intro H' p;simp only[Nat.zero_add,Nat.reduceAdd,fp];done)|(intro _ h;cases h;done)|refine ag ?_ ?_
theorem ajM(s:h1 H ok x c i a b cc d v w wi)(g:c.vars.length<=1000000000):W (aK P aG 245 [.agg (cC x f c i a b cc d v w wi)] H) λr H'=>r= C (hd i.n (a6 c i.a) (a6 c i.b) (a6 c i.c))/\au H H':=by
 refine aeQ 0 ?_;have st:=tO (i:=i) (w:=wi) (ae.a2 (H.push (.row I 19 [cC x f c i a b cc d v w wi])) (.row I 6 [[D F 0,D F 0,D F 0,D F 0,D F 0,.ao]])) s.i1.one;simp only[kD]at st;have k:au H ((H.push (.row I 19 [cC x f c i a b cc d v w wi])).push (.row I 6 [cm i wi])):=(au.push _ _).trans (au.push _ _);have aO:((H.push (.row I 19 [cC x f c i a b cc d v w wi])).push (.row I 6 [cm i wi])).get H.next=A (.row I 19 [cC x f c i a b cc d v w wi]):=(au.push _ _).get (ae.a2 _ _)
 have U:((H.push (.row I 19 [cC x f c i a b cc d v w wi])).push (.row I 6 [cm i wi])).get (H.next+1)=A (.row I 6 [[D F i.op,D F i.a,D F i.b,D F i.c,D F i.n,wi]]):=ae.a2 _ _;have m:=f_ U;refine c_ @Ho.eq_1 (iy s f) (zG (ae.a2 H (.row I 19 [cC x f c i a b cc d v w wi]))) st @ae.gU ?_;have h:=s.aB k;generalize ((H.push (.row I 19 [cC x f c i a b cc d v w wi])).push (.row I 6 [cm i wi]))=H0 at*;have jm:=ae.bq aO;have av:=ae.bq U;generalize H.next+1=zI at*
 generalize H.next=zX at*
 by_cases L:i.n=14
 ·have aL:∀j:Int,(i.n==j)=(14==j):=λj=>al
  rw[L];simp-implicitDefEqProofs(disch:=try exact aW)only[lg,reduceAdd,reduceLeDiff,reduceIte,bB,m,cI aO,o U,aL,Int.reduceBEq,c2,hp,oB];refine bw (kh (h.aB (au.push _ _)) (rG _ bb trivial i.a i.b i.c) g aX) λK p=> ?_
  exact aD.2 ⟨by grind[jV,hd],k.trans ((au.push _ _).trans p)⟩
 have ad:(i.n==14)=false:=beq_eq_false_iff_ne.2 L;by_cases M:i.n=15
 ·have aL:∀j:Int,(i.n==j)=(15==j):=λj=>al
  rw[M];simp-implicitDefEqProofs(disch:=try exact aW)only[lg,reduceAdd,reduceLeDiff,reduceIte,bB,m,cI aO,o U,aL,Int.reduceBEq,c2,hp,oB];refine bw (kh (h.aB (au.push _ _)) (rG _ bb trivial i.a i.b i.c) g aX) λK p=> ?_
  exact aD.2 ⟨by grind[jV,hd],k.trans ((au.push _ _).trans p)⟩
 have af:(i.n==15)=false:=beq_eq_false_iff_ne.2 M;by_cases N:i.n=16
 ·have aL:∀j:Int,(i.n==j)=(16==j):=λj=>al
  rw[N];simp-implicitDefEqProofs(disch:=try exact aW)only[lg,reduceAdd,reduceLeDiff,reduceIte,bB,m,cI aO,o U,aL,Int.reduceBEq,c2,hp,oB];refine bw (kh (h.aB (au.push _ _)) (rG _ bb trivial i.a i.b i.c) g aX) λK p=> ?_
  exact aD.2 ⟨by grind[jV,hd],k.trans ((au.push _ _).trans p)⟩
 have ah:(i.n==16)=false:=beq_eq_false_iff_ne.2 N;by_cases O:i.n=17
 ·have aL:∀j:Int,(i.n==j)=(17==j):=λj=>al
  rw[O];simp-implicitDefEqProofs(disch:=try exact aW)only[lg,reduceAdd,reduceLeDiff,reduceIte,bB,m,cI aO,o U,aL,Int.reduceBEq,c2,hp,oB];refine bw (kh (h.aB (au.push _ _)) (rG _ bb trivial i.a i.b i.c) g aX) λK p=> ?_
  exact aD.2 ⟨by grind[jV,hd],k.trans ((au.push _ _).trans p)⟩
 have ai:(i.n==17)=false:=beq_eq_false_iff_ne.2 O;by_cases Q:i.n=18
 ·have aL:∀j:Int,(i.n==j)=(18==j):=λj=>al
  rw[Q];simp-implicitDefEqProofs(disch:=try exact aW)only[lg,reduceAdd,reduceLeDiff,reduceIte,bB,m,cI aO,o U,aL,Int.reduceBEq,c2,hp,oB];refine bw (kh (h.aB (au.push _ _)) (rG _ bb trivial i.a i.b i.c) g aX) λK p=> ?_
  exact aD.2 ⟨by grind[jV,hd],k.trans ((au.push _ _).trans p)⟩
 have aj:(i.n==18)=false:=beq_eq_false_iff_ne.2 Q;by_cases R:i.n=19
 ·have aL:∀j:Int,(i.n==j)=(19==j):=λj=>al
  rw[R];simp-implicitDefEqProofs(disch:=try exact aW)only[lg,pV,reduceAdd,reduceLeDiff,reduceIte,bB,m,cI aO,o U,aL,Int.reduceBEq,c2,hp,oB];refine bw (oJ (h.aB (au.push _ _)) (hc _ bb trivial i.a) g aX) λK p=> ?_
  have e:=(au.push H0 (.row I 1 [[D F i.a]])).trans p;cases z:fG c ey [i.a]with
  |false=>
   refine bN ?_;exact aD.2 ⟨by grind[mu,hd],k.trans e⟩
  |true=>
   refine cv (cI (e.get aO)) (o (e.get U)) @hp @fh ?_;refine cT (kh ((h.aB e).aB (au.push _ _)) (C9 _ bb trivial i.b i.c) g aX) λy u=> ?_
   refine bN ?_;exact aD.2 ⟨by grind[mu,jV,hd],k.trans (e.trans ((au.push _ _).trans u))⟩
 have ak:(i.n==19)=false:=beq_eq_false_iff_ne.2 R;by_cases S:i.n=20
 ·have aL:∀j:Int,(i.n==j)=(20==j):=λj=>al
  rw[S];simp-implicitDefEqProofs(disch:=try exact aW)only[lg,pV,reduceAdd,reduceLeDiff,reduceIte,bB,m,cI aO,o U,aL,Int.reduceBEq,c2,hp,oB];refine bw (oJ (h.aB (au.push _ _)) (hc _ bb trivial i.a) g aX) λK p=> ?_
  have e:=(au.push H0 (.row I 1 [[D F i.a]])).trans p;cases z:fG c ey [i.a]with
  |false=>
   refine bN ?_;exact aD.2 ⟨by grind[mu,hd],k.trans e⟩
  |true=>
   refine cv (cI (e.get aO)) (o (e.get U)) @hp @fh ?_;refine cT (kh ((h.aB e).aB (au.push _ _)) (C9 _ bb trivial i.b i.c) g aX) λy u=> ?_
   refine bN ?_;exact aD.2 ⟨by grind[mu,jV,hd],k.trans (e.trans ((au.push _ _).trans u))⟩
 have am:(i.n==20)=false:=beq_eq_false_iff_ne.2 S;by_cases T:i.n=21
 ·have aL:∀j:Int,(i.n==j)=(21==j):=λj=>al
  rw[T];simp-implicitDefEqProofs(disch:=try exact aW)only[lg,pV,tt,reduceAdd,reduceLeDiff,reduceIte,bB,m,cI aO,o U,dU,dQ,dT,dR,dS,fh,tW,aL,Int.reduceBEq,c2];refine bw (oJ (h.aB (au.push _ _)) (hc _ bb trivial i.a) g aX) λK p=> ?_
  have e:=(au.push H0 (.row I 1 [[D F i.a]])).trans p;cases z:fG c ey [i.a]with
  |false=>
   refine bN ?_;refine ds (λH' p=>(ag (cI (p.get aO)) (ag (o (p.get U)) (ag (kG s) fp)))) (aD.2 ⟨by grind[mu,hd],k.trans e⟩)
  |true=>
   refine bG (cI (e.get aO)) (o (e.get U)) ?_;refine cT (nK (h.aB e) i.b g) λy u=> ?_
   have q:=e.trans u;refine cv @fh (cI (q.get aO)) (o (q.get U)) @c2 ?_;refine cT (lX ((h.aB q).aB (au.push _ _)) (t:=a6 c i.b) (l:=[i.c]) (hc _ bb trivial i.c) g aX) λab G=> ?_
   have B:=q.trans (au.push y (.row I 1 [[D F i.c]]));have E:=B.trans G;refine bN ?_;refine ds (λH' p=>(ag (cI (p.get aO)) (ag (o (p.get U)) (ag (kG s) (ag fp eR))))) (aD.2 ⟨by grind[uN,hd],k.trans E⟩)
 have an:(i.n==21)=false:=beq_eq_false_iff_ne.2 T;by_cases V:i.n=22
 ·have aL:∀j:Int,(i.n==j)=(22==j):=λj=>al
  rw[V];simp-implicitDefEqProofs(disch:=try exact aW)only[lg,pV,tt,reduceAdd,reduceLeDiff,reduceIte,bB,m,cI aO,o U,dU,dQ,dT,dR,dS,fh,tW,aL,Int.reduceBEq,c2];refine bw (oJ (h.aB (au.push _ _)) (hc _ bb trivial i.a) g aX) λK p=> ?_
  have e:=(au.push H0 (.row I 1 [[D F i.a]])).trans p;cases z:fG c ey [i.a]with
  |false=>
   refine bN ?_;refine ds (λH' p=>(ag (cI (p.get aO)) (ag (o (p.get U)) (ag (kG s) fp)))) (aD.2 ⟨by grind[mu,hd],k.trans e⟩)
  |true=>
   refine bG (cI (e.get aO)) (o (e.get U)) ?_;refine cT (nK (h.aB e) i.b g) λy u=> ?_
   have q:=e.trans u;refine cv @fh (cI (q.get aO)) (o (q.get U)) @c2 ?_;refine cT (lX ((h.aB q).aB (au.push _ _)) (t:=a6 c i.b) (l:=[i.c]) (hc _ bb trivial i.c) g aX) λab G=> ?_
   have B:=q.trans (au.push y (.row I 1 [[D F i.c]]));have E:=B.trans G;refine bN ?_;refine ds (λH' p=>(ag (cI (p.get aO)) (ag (o (p.get U)) (ag (kG s) (ag fp eR))))) (aD.2 ⟨by grind[uN,hd],k.trans E⟩)
 have ap:(i.n==22)=false:=beq_eq_false_iff_ne.2 V;by_cases Y:i.n=23
 ·have aL:∀j:Int,(i.n==j)=(23==j):=λj=>al
  rw[Y];simp-implicitDefEqProofs(disch:=try exact aW)only[lg,pV,tt,BB,reduceAdd,reduceLeDiff,reduceIte,bB,m,cI aO,o U,aL,Int.reduceBEq,c2,hp,oB];refine bw (oJ (h.aB (au.push _ _)) (rG _ bb trivial i.a i.b i.c) g aX) λK p=> ?_
  exact aD.2 ⟨by grind[mu,hd],k.trans ((au.push _ _).trans p)⟩
 have aq:(i.n==23)=false:=beq_eq_false_iff_ne.2 Y;by_cases aa:i.n=24
 ·have aL:∀j:Int,(i.n==j)=(24==j):=λj=>al
  rw[aa];simp-implicitDefEqProofs(disch:=try exact aW)only[lg,pV,tt,BB,reduceAdd,reduceLeDiff,reduceIte,bB,m,cI aO,o U,aL,Int.reduceBEq,c2,hp,oB];refine bw (oJ (h.aB (au.push _ _)) (rG _ bb trivial i.a i.b i.c) g aX) λK p=> ?_
  exact aD.2 ⟨by grind[mu,hd],k.trans ((au.push _ _).trans p)⟩
 have ar:(i.n==24)=false:=beq_eq_false_iff_ne.2 aa;refine bh @lg.eq_1 @pV.eq_1 @tt.eq_1 @BB.eq_1 @nz.eq_1 (ag (o U) (ag ad (ag af (ag ah (ag ai (ag aj (ag ak (ag am (ag an (ag ap (ag aq ar))))))))))) ?_;grind[aD,hd]
end
end
section
open Go.a_
set_option maxRecDepth 2000
section
variable {H:ae}{ok:Nat->Prop}{x:bC}{f:Nat}{c:bT}{i:In}{a b cc d v w wi:af}
def DJ(t:cM):oT P 46 (c3 t) 2=A (D F t.d):=aF
theorem oa(c:bT)(t:cM)(n:Int):fG c t [n]=decide (a6 c n≠bt/\a6 c n=t):=by
 grind[uN]
def h8{H:ae}{c:bT}{v w:af}{zC:Nat}(h:H.get zC=A (.row I 7 [cG c v w])):aI P H 3 (.ptr zC 0 0)=A (D F c.params)/\aI P H 23 (.ptr zC 0 1)=A v/\aI P H 4 (.ptr zC 0 2)=A (C c.has)/\aI P H 47 (.ptr zC 0 6)=A w:=by
 rw[cG]at h;exact kz h
def qS{H:ae}{c:bT}{v w:af}{zC:Nat}(h:H.get zC=A (.row I 7 [cG c v w])):aI P H 46 (.ptr zC 0 3)=A (c3 c.res):=
 hz (n:=3) (i:=0) (c:=3) aF aF h rfl ad
theorem p9{H:ae}{c:bT}{v w:af}{L:Nat}{r:List af}(h:H.get L=A (.row I 7 [r]))(a:v.one=J)(hw:w.one=J)(ar:r.length=7:=by rfl):cr P H 49 (.ptr L 0 0) (.agg (cG c v w))=A (H.set L (.row I 7 [cG c v w])):=by
 rw[e4 (n:=7) aF h rfl rfl (by simp[cG,af.cells,a,hw];simp[af.one]) bZ];grind[cG,af.cells,fU,List.drop_of_length_le]
def aH.sr{l:List bT}{v:af}(h:aH gf H ok l v){j:Int}{g:bT}(a:0<=j)(b:l[j.toNat]? =A g):∃p gv gw,ct P 24 v (D F j)=A p/\(∀H',au H H'->aI P H' 49 p=A (.agg (cG g gv gw)))/\aH e_ H ok g.vars gv/\aH gq H ok g.ins gw:=by
 obtain⟨p,cs,c,d,gv,gw,rfl,bV,b9⟩:=h.yG (K:=gf) cD Sl a b;exact⟨p,gv,gw,c,d,bV,b9⟩
theorem ajB{g:bT}{gv gw:af}{zX zI G:Nat}(aO:H.get zX=A (.row I 19 [cC x f c i a b cc d v w wi]))(U:H.get zI=A (.row I 6 [[D F i.op,D F i.a,D F i.b,D F i.c,D F i.n,wi]]))(fO:H.get G=A (.row I 7 [cG g gv gw]))(h:h1 H ok x c i a b cc d v w wi)(e:c.vars.length<=1000000000){N:Nat}:
  W (tB (aK P aG) N (.ptr zX 0 0) (.ptr zI 0 0) (.ptr G 0 0) H) λr H'=>r= C (i.a== -1||(g.has&&decide (a6 c i.a≠bt/\a6 c i.a=g.res)))/\au H H':=by
 have j:=f_ U;cases ah:(i.a== -1)with
 |true=>
  refine b3 @tB.eq_1 (o U) ah ?_;grind[aD,au.refl]
 |false=>
  cases ai:g.has with
  |false=>
   have l2:=h8 fO;rw[ai]at l2;refine cv @tB.eq_1 (o U) l2 ah ?_;grind[aD,au.refl]
  |true=>
   have l2:=h8 fO;rw[ai]at l2;refine bh @tB.eq_1 (cI aO) (o U) l2 (qS fO) (ag ah (ag @c2 @fh)) ?_;refine cT (lX (h.aB (au.push _ _)) (t:=g.res) (l:=[i.a]) (hc _ bb trivial i.a) e aX) λK p=> ?_
   refine bN ?_;exact aD.2 ⟨by rw[oa];rfl,(au.push _ _).trans p⟩
theorem SP{g:bT}{gv gw:af}{zX zI G:Nat}(u:c.vars.length<=1000000000)(L:i.args.length<=g.vars.length)(z:g.vars.length<=1000000000){N:Nat}:∀(j k m:Nat) (H:ae),k+j=i.args.length->j<m->H.get zX=A (.row I 19 [cC x f c i a b cc d v w wi])->H.get zI=A (.row I 6 [[D F i.op,D F i.a,D F i.b,D F i.c,D F i.n,wi]])->H.get G=A (.row I 7 [cG g gv gw])->h1 H ok x c i a b cc d v w wi->aH e_ H ok g.vars gv->
  W (wK (aK P aG) N m (.ptr zX 0 0) (.ptr zI 0 0) (.ptr G 0 0) wi (D F i.args.length) (D F k) H) λr H'=>r= C (kX c g (i.args.drop k) k&&(i.a== -1||(g.has&&decide (a6 c i.a≠bt/\a6 c i.a=g.res))))/\au H H'
 |_,_,0,_,_,hm,_,_,_,_,_=>ad
 |0,k,m+1,H,E,_,aO,U,fO,h,o=>by
  have V:¬(k:Int)<(i.args.length:Int):=ad;refine bG @wK.eq_2 @BF.eq_1 ?_;grind[kX,ajB]
 |j+1,k,m+1,H,E,hm,aO,U,fO,h,o=>by
  have M:k<i.args.length:=ad;have Y:k<g.vars.length:=ad;obtain⟨ab,Q,R⟩:=h.i1.int (j:=(k:Int)) (a:=i.args[k]) ad al;obtain⟨y,S,s⟩:=o.Dl (j:=(k:Int)) (t:=g.vars[k]) ad al;have on:=SP (g:=g) (gv:=gv) (gw:=gw) (zX:=zX) (zI:=zI) (G:=G) u L z (N:=N) j (k+1) m;have B:g.vars[k]? =A g.vars[k]:=al;rw[List.drop_eq_getElem_cons M,kX,B];have pp:=au.push H (.row I 1 [[D F i.args[k]]]);have l2:=h8 fO;have O:=h8 (pp.get fO);refine bh @wK.eq_2 @BF.eq_1 Q R (cI aO) (ag l2 (ag S (ag (s _ (au.refl _)) @c2))) ?_;refine bw (lX (h.aB pp) (t:=g.vars[k]) (l:=[i.args[k]]) (hc _ bb trivial i.args[k]) u aX) λK p=> ?_
  have q:=pp.trans p;refine qb (cI aO) (cI (pp.get aO)) l2 O (s _ (au.refl _)) (ag (s _ pp) (ag (kG h) (ag (dF o) @eR))) ?_;have e:(decide (a6 c i.args[k]≠bt)&&decide (g.vars[k]=a6 c i.args[k]))=fG c g.vars[k] [i.args[k]]:=by
   grind[oa]
  rw[<-Bool.and_assoc,e];cases aa:fG c g.vars[k] [i.args[k]]with
  |false=>
   grind[aD]
  |true=>
   refine bN ?_;refine(on K ad ad (q.get aO) (q.get U) (q.get fO) (h.aB q) (o.aB q)).mono ?_;rintro r T ⟨rfl,y⟩;exact⟨aX,q.trans y⟩
theorem ajC(s:h1 H ok x c i a b cc d v w wi)(M:c.vars.length<=1000000000)(N:∀g∈x.ay,g.vars.length<=1000000000):W (aK P aG 258 [.agg (cC x f c i a b cc d v w wi)] H) λr H'=>r= C (mh x c i)/\au H H':=by
 refine ae0 (i.args.length+1) ?_;have st:=tO (i:=i) (w:=wi) (ae.a2 (H.push (.row I 19 [cC x f c i a b cc d v w wi])) (.row I 6 [[D F 0,D F 0,D F 0,D F 0,D F 0,.ao]])) s.i1.one;simp only[kD]at st;have q:au H ((H.push (.row I 19 [cC x f c i a b cc d v w wi])).push (.row I 6 [cm i wi])):=(au.push _ _).trans (au.push _ _);have aO:((H.push (.row I 19 [cC x f c i a b cc d v w wi])).push (.row I 6 [cm i wi])).get H.next=A (.row I 19 [cC x f c i a b cc d v w wi]):=(au.push _ _).get (ae.a2 _ _)
 have U:((H.push (.row I 19 [cC x f c i a b cc d v w wi])).push (.row I 6 [cm i wi])).get (H.next+1)=A (.row I 6 [[D F i.op,D F i.a,D F i.b,D F i.c,D F i.n,wi]]):=ae.a2 _ _;have aa:=f_ U;refine c_ @Hw.eq_1 (iy s f) (zG (ae.a2 H (.row I 19 [cC x f c i a b cc d v w wi]))) st @ae.gU ?_;have e:=s.aB q;generalize ((H.push (.row I 19 [cC x f c i a b cc d v w wi])).push (.row I 6 [cm i wi]))=H0 at*;have jm:=ae.bq aO;have V:=ae.bq U;generalize H.next+1=zI at*
 generalize H.next=zX at*
 rw[mh];by_cases k:i.c<0
 ·refine bG (o U) k ?_;grind[aD,gi]
 by_cases bV:(x.ay.length:Int)<=i.c
 ·refine c_ (o U) (gR aO) (e.ax.bg cD) k bV ?_;grind[aD,gi]
 have Q:i.c.toNat<x.ay.length:=ad;have aS:eK x.ay i.c=A x.ay[i.c.toNat]:=by grind[jK]
 obtain⟨p,gv,gw,u,y,m,K⟩:=e.ax.sr (j:=i.c) (g:=x.ay[i.c.toNat]) ad al;have O:=N _ (List.getElem_mem Q);rw[aS];generalize x.ay[i.c.toNat]=G at*;simp only[];have z:=p9 (c:=G) (v:=gv) (w:=gw) (ae.a2 H0 (.row I 7 [[D F 0,.ao,C I,D F 0,D F 0,D F 0,.ao]])) m.one K.one;have pp:=au.push H0 (.row I 7 [cG G gv gw]);have fO:(H0.push (.row I 7 [cG G gv gw])).get H0.next=A (.row I 7 [cG G gv gw]):=ae.a2 _ _
 have L:=pp.get aO;have B:=pp.get U;have t:=f_ B;have l2:=h8 fO;have bad:¬(0<=G.params/\G.params<=G.vars.length/\(i.args.length:Int)=G.params)->(decide (0<=G.params/\G.params<=G.vars.length/\(i.args.length:Int)=G.params)&&(kX c G i.args 0&&(i.a== -1||G.has&&decide (a6 c i.a≠bt/\a6 c i.a=G.res))))=false:=λh=>al
 by_cases Y:(i.args.length:Int)=G.params
 ·have l:((i.args.length:Int) != G.params)=false:=al;by_cases E:(G.vars.length:Int)<G.params
  ·refine bh (o U) (gR aO) (e.ax.bg cD) (e.i1.bg b0) (m.bg cS) (ag k (ag bV (ag u (ag (y _ (au.refl _)) (ag z (ag @ae.gU (ag t (ag l2 (ag l E))))))))) ?_;exact aD.2 ⟨al,q.trans pp⟩
  ·refine bh (o U) (gR aO) (e.ax.bg cD) (e.i1.bg b0) (m.bg cS) (ag k (ag bV (ag u (ag (y _ (au.refl _)) (ag z (ag @ae.gU (ag t (ag l2 (ag l E))))))))) ?_;have R:decide (0<=G.params/\G.params<=G.vars.length/\(i.args.length:Int)=G.params)=true:=al;rw[R,Bool.true_and];refine(SP (g:=G) M ad O i.args.length 0 (i.args.length+1) _ ad ad L B fO (e.aB pp) (m.aB pp)).mono ?_;rintro r T ⟨rfl,S⟩;exact⟨al,(q.trans pp).trans S⟩
 ·have l:((i.args.length:Int) != G.params)=true:=al;refine bh (o U) (gR aO) (e.ax.bg cD) (e.i1.bg b0) k (ag bV (ag u (ag (y _ (au.refl _)) (ag z (ag @ae.gU (ag t (ag l2 l))))))) ?_;exact aD.2 ⟨al,q.trans pp⟩
def eC(x:bC)(f:Nat)(c:bT)(i:In):Bool:=
 let a:=a6 c i.a
 let b:=a6 c i.b
 let d:=a6 c i.c
 match i.op with
 |1=>decide (a=da)||(decide (a=ey)&&(i.n==0||i.n==1))
 |2=>decide (a≠bt)&&kH a
 |3=>decide (a≠bt/\a=b)
 |4=>hd i.n a b d
 |5=>(i.n==12&&decide (a=da/\b=da))||(i.n==13&&decide (a=ey/\b=ey))
 |6=>decide (a≠bt/\a=e8 x b i.c)
 |7=>decide (b≠bt/\b=e8 x a i.c)
 |8=>decide (a≠bt/\0<b.d/\d=da/\a=less b)
 |9=>decide (d≠bt/\0<a.d/\b=da/\d=less a)
 |10=>decide (a=da/\0<b.d)
 |11=>decide (a≠bt/\a.b=3/\a.d=0)&&iT x f i.n a
 |12=>decide (0<a.d/\b=da)&&iT x f i.n a
 |13=>mh x c i
 |14=>decide (a=da)
 |15=>decide (a=da)
 |16=>within i.n c.ins.length
 |17=>decide (a=ey)&&(within i.n c.ins.length&&within i.c c.ins.length)
 |18=>bif c.has then decide (a≠bt/\a=c.res)else i.a== -1
 |19=>decide (a≠bt)&&decide (eK x.globals i.n=A a)
 |20=>decide (a≠bt)&&decide (eK x.globals i.n=A a)
 |_=>I
def ah8(x:bC)(f:Nat)(c:bT)(i:In):dY x f c i=(named i&&eC x f c i):=rfl
theorem Ma(x:bC)(c:bT)(n k:Int):zg x c n k=(decide (a6 c k≠bt)&&decide (eK x.globals n=A (a6 c k))):=by
 grind[zg,oa]
theorem RN(x:bC)(f:Nat)(c:bT)(n k:Int)(h:a6 c k≠bt):C8 x f c n k=iT x f n (a6 c k):=by
 grind[C8,iT,oa]
theorem ajE(s:h1 H ok x c i a b cc d v w wi)(u:c.vars.length<=1000000000)(L:∀g∈x.ay,g.vars.length<=1000000000)(E:13<=i.op)(G:i.op<=20):W (aK P aG 249 [.agg (cC x f c i a b cc d v w wi)] H) λr H'=>r= C (eC x f c i)/\au H H':=by
 refine aeU 0 ?_;have st:=tO (i:=i) (w:=wi) (ae.a2 (H.push (.row I 19 [cC x f c i a b cc d v w wi])) (.row I 6 [[D F 0,D F 0,D F 0,D F 0,D F 0,.ao]])) s.i1.one;simp only[kD]at st;have h:au H ((H.push (.row I 19 [cC x f c i a b cc d v w wi])).push (.row I 6 [cm i wi])):=(au.push _ _).trans (au.push _ _);have aO:((H.push (.row I 19 [cC x f c i a b cc d v w wi])).push (.row I 6 [cm i wi])).get H.next=A (.row I 19 [cC x f c i a b cc d v w wi]):=(au.push _ _).get (ae.a2 _ _)
 have U:((H.push (.row I 19 [cC x f c i a b cc d v w wi])).push (.row I 6 [cm i wi])).get (H.next+1)=A (.row I 6 [[D F i.op,D F i.a,D F i.b,D F i.c,D F i.n,wi]]):=ae.a2 _ _;have m:=f_ U;refine c_ @Hr.eq_1 (iy s f) (zG (ae.a2 H (.row I 19 [cC x f c i a b cc d v w wi]))) st @ae.gU ?_;have k:=s.aB h;generalize ((H.push (.row I 19 [cC x f c i a b cc d v w wi])).push (.row I 6 [cm i wi]))=H0 at*;have jm:=ae.bq aO;have ad:=ae.bq U;generalize H.next+1=zI at*
 generalize H.next=zX at*
 by_cases E:i.op=13
 ·have t:∀j:Int,(i.op==j)=(13==j):=λj=>al
  have e:eC x f c i=mh x c i:=by grind[eC]
  rw[e];clear e;simp-implicitDefEqProofs(disch:=try exact aW)only[nA,lQ,reduceAdd,reduceLeDiff,reduceIte,bB,m,cI aO,o U,dU,dQ,dT,dR,dS,fh,t,Int.reduceBEq,c2];refine bw (ajC k u L) λK p=> ?_
  exact aD.2 ⟨rfl,h.trans p⟩
 by_cases S:i.op=14
 ·have t:∀j:Int,(i.op==j)=(14==j):=λj=>al
  have e:eC x f c i=decide (a6 c i.a=da):=by grind[eC]
  rw[e];clear e;simp-implicitDefEqProofs(disch:=try exact aW)only[nA,lQ,reduceAdd,reduceLeDiff,reduceIte,bB,m,cI aO,o U,dU,dQ,dT,dR,dS,fh,t,Int.reduceBEq,c2];refine bw (kh (k.aB (au.push _ _)) (hc _ bb trivial i.a) u aX) λK p=> ?_
  exact aD.2 ⟨by rw[jV];simp,h.trans ((au.push _ _).trans p)⟩
 by_cases T:i.op=15
 ·have t:∀j:Int,(i.op==j)=(15==j):=λj=>al
  have e:eC x f c i=decide (a6 c i.a=da):=by grind[eC]
  rw[e];clear e;simp-implicitDefEqProofs(disch:=try exact aW)only[nA,lQ,reduceAdd,reduceLeDiff,reduceIte,bB,m,cI aO,o U,dU,dQ,dT,dR,dS,fh,t,Int.reduceBEq,c2];refine bw (kh (k.aB (au.push _ _)) (hc _ bb trivial i.a) u aX) λK p=> ?_
  exact aD.2 ⟨by rw[jV];simp,h.trans ((au.push _ _).trans p)⟩
 by_cases V:i.op=16
 ·have t:∀j:Int,(i.op==j)=(16==j):=λj=>al
  have e:eC x f c i=within i.n c.ins.length:=by grind[eC]
  rw[e];clear e;simp-implicitDefEqProofs(disch:=try exact aW)only[nA,lQ,reduceAdd,reduceLeDiff,reduceIte,bB,m,cI aO,o U,dU,dQ,dT,dR,dS,fh,t,Int.reduceBEq,c2];refine bw (IL k i.n) λK p=> ?_
  exact aD.2 ⟨rfl,h.trans p⟩
 by_cases Y:i.op=17
 ·have t:∀j:Int,(i.op==j)=(17==j):=λj=>al
  have e:eC x f c i=(decide (a6 c i.a=ey)&&(within i.n c.ins.length&&within i.c c.ins.length)):=by grind[eC]
  rw[e];clear e;simp-implicitDefEqProofs(disch:=try exact aW)only[nA,lQ,reduceAdd,reduceLeDiff,reduceIte,bB,m,cI aO,o U,dU,dQ,dT,dR,dS,fh,t,Int.reduceBEq,c2];refine bw (oJ (k.aB (au.push _ _)) (hc _ bb trivial i.a) u aX) λK p=> ?_
  have q:=(au.push H0 (.row I 1 [[D F i.a]])).trans p;have e:fG c ey [i.a]=decide (a6 c i.a=ey):=by rw[mu];simp
  rw[e];cases M:decide (a6 c i.a=ey)with
  |false=>
   refine bN ?_;exact aD.2 ⟨aX,h.trans q⟩
  |true=>
   refine bG (cI (q.get aO)) (o (q.get U)) ?_;refine cT (IL (k.aB q) i.n) λQ N=> ?_
   have y:=q.trans N;cases hw:within i.n c.ins.length with
   |false=>
    refine bN ?_;exact aD.2 ⟨aX,h.trans y⟩
   |true=>
    refine bG (cI (y.get aO)) (o (y.get U)) ?_;refine cT (IL (k.aB y) i.c) λR O=> ?_
    refine bN ?_;exact aD.2 ⟨aX,h.trans (y.trans O)⟩
 by_cases aa:i.op=18
 ·have t:∀j:Int,(i.op==j)=(18==j):=λj=>al
  have e:eC x f c i=bif c.has then decide (a6 c i.a≠bt/\a6 c i.a=c.res)else i.a== -1:=by grind[eC]
  rw[e];clear e;cases z:c.has with
  |true=>
   have lv:=gR aO;rw[z]at lv;simp-implicitDefEqProofs(disch:=try exact aW)only[nA,lQ,reduceAdd,reduceLeDiff,reduceIte,bB,m,cI aO,o U,dU,dQ,dT,dR,dS,fh,t,Int.reduceBEq,c2,lv,aaA aO];refine cT (lX (k.aB (au.push _ _)) (t:=c.res) (l:=[i.a]) (hc _ bb trivial i.a) u aX) λK p=> ?_
   have q:=(au.push H0 (.row I 1 [[D F i.a]])).trans p;have B:=gR (q.get aO);rw[z]at B;rw[<-oa];cases M:fG c c.res [i.a]with
   |true=>
    refine bN ?_;exact aD.2 ⟨rfl,h.trans q⟩
   |false=>
    refine bP B ?_;exact aD.2 ⟨rfl,h.trans q⟩
  |false=>
   have lv:=gR aO;rw[z]at lv;simp-implicitDefEqProofs(disch:=try exact aW)only[nA,lQ,reduceAdd,reduceLeDiff,reduceIte,bB,m,cI aO,o U,dU,dQ,dT,dR,dS,fh,t,Int.reduceBEq,c2,lv,Bool.not_false];grind[aD]
 by_cases ab:i.op=19
 ·have t:∀j:Int,(i.op==j)=(19==j):=λj=>al
  have e:eC x f c i=(decide (a6 c i.a≠bt)&&decide (eK x.globals i.n=A (a6 c i.a))):=by grind[eC]
  rw[e];clear e;simp-implicitDefEqProofs(disch:=try exact aW)only[nA,lQ,reduceAdd,reduceLeDiff,reduceIte,bB,m,cI aO,o U,dU,dQ,dT,dR,dS,fh,t,Int.reduceBEq,c2];refine bw (SS k i.n i.a u) λK p=> ?_
  exact aD.2 ⟨by rw[Ma],h.trans p⟩
 by_cases G:i.op=20
 ·have t:∀j:Int,(i.op==j)=(20==j):=λj=>al
  have e:eC x f c i=(decide (a6 c i.a≠bt)&&decide (eK x.globals i.n=A (a6 c i.a))):=by grind[eC]
  rw[e];clear e;simp-implicitDefEqProofs(disch:=try exact aW)only[nA,lQ,reduceAdd,reduceLeDiff,reduceIte,bB,m,cI aO,o U,dU,dQ,dT,dR,dS,fh,t,Int.reduceBEq,c2];refine bw (SS k i.n i.a u) λK p=> ?_
  exact aD.2 ⟨by rw[Ma],h.trans p⟩
 omega
theorem ajD(s:h1 H ok x c i a b cc d v w wi)(q:c.vars.length<=1000000000)(aC:∀g∈x.ay,g.vars.length<=1000000000)(aj:∀v,(a6 c v).d<=1000)(ah:1<=i.op)(aA:i.op<=20):W (aK P aG 218 [.agg (cC x f c i a b cc d v w wi)] H) λr H'=>r= C (eC x f c i)/\au H H':=by
 refine aeB 0 ?_;have st:=tO (i:=i) (w:=wi) (ae.a2 (H.push (.row I 19 [cC x f c i a b cc d v w wi])) (.row I 6 [[D F 0,D F 0,D F 0,D F 0,D F 0,.ao]])) s.i1.one;simp only[kD]at st;have k:au H ((H.push (.row I 19 [cC x f c i a b cc d v w wi])).push (.row I 6 [cm i wi])):=(au.push _ _).trans (au.push _ _);have aO:((H.push (.row I 19 [cC x f c i a b cc d v w wi])).push (.row I 6 [cm i wi])).get H.next=A (.row I 19 [cC x f c i a b cc d v w wi]):=(au.push _ _).get (ae.a2 _ _)
 have U:((H.push (.row I 19 [cC x f c i a b cc d v w wi])).push (.row I 6 [cm i wi])).get (H.next+1)=A (.row I 6 [[D F i.op,D F i.a,D F i.b,D F i.c,D F i.n,wi]]):=ae.a2 _ _;have B:=f_ U;refine c_ @G9.eq_1 (iy s f) (zG (ae.a2 H (.row I 19 [cC x f c i a b cc d v w wi]))) st @ae.gU ?_;have m:=s.aB k;generalize ((H.push (.row I 19 [cC x f c i a b cc d v w wi])).push (.row I 6 [cm i wi]))=H0 at*;have jm:=ae.bq aO;have a0:=ae.bq U;generalize H.next+1=zI at*
 generalize H.next=zX at*
 by_cases ah:i.op=1
 ·have t:∀j:Int,(i.op==j)=(1==j):=λj=>by rw[ah]
  have e:eC x f c i=(decide (a6 c i.a=da)||(decide (a6 c i.a=ey)&&(i.n==0||i.n==1))):=by simp only[eC,ah]
  rw[e];clear e;simp-implicitDefEqProofs(disch:=try exact aW)only[reduceAdd,reduceLeDiff,reduceIte,bB,B,cI aO,o U,dU,dQ,dT,dR,dS,fh,t,Int.reduceBEq,c2,hp];refine bw (kh (m.aB (au.push _ _)) (hc _ bb trivial i.a) q aX) λK p=> ?_
  have y:=(au.push H0 (.row I 1 [[D F i.a]])).trans p;have e:fG c da [i.a]=decide (a6 c i.a=da):=by rw[jV];simp
  rw[e];cases M:decide (a6 c i.a=da)with
  |true=>
   refine bN ?_;exact aD.2 ⟨aX,k.trans y⟩
  |false=>
   refine cv (cI (y.get aO)) (o (y.get U)) @c2 @fh ?_;refine cT (oJ ((m.aB y).aB (au.push _ _)) (hc _ bb trivial i.a) q aX) λG z=> ?_
   have E:=y.trans ((au.push _ _).trans z);have e:fG c ey [i.a]=decide (a6 c i.a=ey):=by rw[mu];simp
   rw[e];cases hw:decide (a6 c i.a=ey)with
   |false=>
    refine bN ?_;exact aD.2 ⟨aX,k.trans E⟩
   |true=>
    cases dE:(i.n==0)with
    |true=>
     refine bG (o (E.get U)) dE ?_;exact aD.2 ⟨aX,k.trans E⟩
    |false=>
     refine bG (o (E.get U)) dE ?_;exact aD.2 ⟨aX,k.trans E⟩
 have aH:(i.op==1)=false:=beq_eq_false_iff_ne.2 ah;by_cases ai:i.op=2
 ·have t:∀j:Int,(i.op==j)=(2==j):=λj=>by rw[ai]
  have e:eC x f c i=(decide (a6 c i.a≠bt)&&kH (a6 c i.a)):=by simp only[eC,ai]
  rw[e];clear e;simp-implicitDefEqProofs(disch:=try exact aW)only[reduceAdd,reduceLeDiff,reduceIte,bB,B,cI aO,o U,dU,dQ,dT,dR,dS,fh,t,Int.reduceBEq,c2,hp];refine bw (nK m i.a q) λK p=> ?_
  refine cK (EI (a6 c i.a)) ?_;rintro _ G ⟨rfl,z⟩;refine⟨z.1,aD.2 ⟨?_,k.trans (p.trans z)⟩⟩;by_cases h:a6 c i.a=bt
  ·rw[h];rfl
  grind
 have aN:(i.op==2)=false:=beq_eq_false_iff_ne.2 ai;by_cases ax:i.op=3
 ·have t:∀j:Int,(i.op==j)=(3==j):=λj=>by rw[ax]
  have e:eC x f c i=decide (a6 c i.a≠bt/\a6 c i.a=a6 c i.b):=by simp only[eC,ax]
  rw[e];clear e;simp-implicitDefEqProofs(disch:=try exact aW)only[reduceAdd,reduceLeDiff,reduceIte,bB,B,cI aO,o U,dU,dQ,dT,dR,dS,fh,t,Int.reduceBEq,c2,hp];refine bw (nK m i.a q) λK p=> ?_
  refine b3 (cI (p.get aO)) (o (p.get U)) @c2 ?_;refine bw (lX ((m.aB p).aB (au.push _ _)) (t:=a6 c i.a) (l:=[i.b]) (hc _ bb trivial i.b) q aX) λG z=> ?_
  have E:=p.trans ((au.push _ _).trans z);simp-implicitDefEqProofs(disch:=try exact aW)only[reduceAdd,reduceLeDiff,reduceIte,bB,cI aO,cI (p.get aO),cI (((au.push K _).get (p.get aO))),cI (E.get aO),o U,o (p.get U),kG m,fp,Bool.and_self];refine aD.2 ⟨?_,k.trans E⟩;rw[uN];by_cases h:a6 c i.a=a6 c i.b
  ·simp[h]
  grind
 have aP:(i.op==3)=false:=beq_eq_false_iff_ne.2 ax;by_cases aM:i.op=4
 ·have t:∀j:Int,(i.op==j)=(4==j):=λj=>by rw[aM]
  have e:eC x f c i=hd i.n (a6 c i.a) (a6 c i.b) (a6 c i.c):=by simp only[eC,aM]
  rw[e];clear e;simp-implicitDefEqProofs(disch:=try exact aW)only[reduceAdd,reduceLeDiff,reduceIte,bB,B,cI aO,o U,dU,dQ,dT,dR,dS,fh,t,Int.reduceBEq,c2,hp];refine bw (ajM m q) λK p=> ?_
  exact aD.2 ⟨rfl,k.trans p⟩
 have aQ:(i.op==4)=false:=beq_eq_false_iff_ne.2 aM;by_cases R:i.op=5
 ·have t:∀j:Int,(i.op==j)=(5==j):=λj=>by rw[R]
  have e:eC x f c i=((i.n==12&&decide (a6 c i.a=da/\a6 c i.b=da))||(i.n==13&&decide (a6 c i.a=ey/\a6 c i.b=ey))):=by simp only[eC,R]
  rw[e];clear e;cases dE:(i.n==12)with
  |true=>
   have cL:(i.n==13)=false:=by
    grind
   simp-implicitDefEqProofs(disch:=try exact aW)only[reduceAdd,reduceLeDiff,reduceIte,bB,B,cI aO,o U,dU,dQ,dT,dR,dS,fh,t,Int.reduceBEq,hp,dE];refine cT (kh (m.aB (au.push _ _)) (C9 _ bb trivial i.a i.b) q aX) λK p=> ?_
   have y:=(au.push H0 (.row I 1 [[D F i.a],[D F i.b]])).trans p;cases M:fG c da [i.a,i.b]with
   |true=>
    refine bN ?_;exact aD.2 ⟨by grind[jV],k.trans y⟩
   |false=>
    refine IE (o (y.get U)) cL ?_;refine aD.2 ⟨?_,k.trans y⟩;grind[jV]
  |false=>
   cases cL:(i.n==13)with
   |false=>
    simp-implicitDefEqProofs(disch:=try exact aW)only[reduceAdd,reduceLeDiff,reduceIte,bB,B,cI aO,o U,dU,dQ,dT,dR,dS,fh,t,Int.reduceBEq,dE,cL];grind[aD]
   |true=>
    simp-implicitDefEqProofs(disch:=try exact aW)only[reduceAdd,reduceLeDiff,reduceIte,bB,B,cI aO,o U,dU,dQ,dT,dR,dS,fh,t,Int.reduceBEq,hp,dE,cL];refine cT (oJ (m.aB (au.push _ _)) (C9 _ bb trivial i.a i.b) q aX) λK p=> ?_
    refine bN ?_;refine aD.2 ⟨?_,k.trans ((au.push _ _).trans p)⟩;rw[mu];simp
 have aR:(i.op==5)=false:=beq_eq_false_iff_ne.2 R;by_cases S:i.op=6
 ·have t:∀j:Int,(i.op==j)=(6==j):=λj=>by rw[S]
  have e:eC x f c i=decide (a6 c i.a≠bt/\a6 c i.a=e8 x (a6 c i.b) i.c):=by simp only[eC,S]
  rw[e];clear e;simp-implicitDefEqProofs(disch:=try exact aW)only[reduceAdd,reduceLeDiff,reduceIte,bB,B,cI aO,o U,dU,dQ,dT,dR,dS,fh,t,Int.reduceBEq,c2,hp];refine bw (SQ m i.b i.c i.a q) λK p=> ?_
  exact aD.2 ⟨by rw[oa],k.trans p⟩
 have aS:(i.op==6)=false:=beq_eq_false_iff_ne.2 S;by_cases T:i.op=7
 ·have t:∀j:Int,(i.op==j)=(7==j):=λj=>by rw[T]
  have e:eC x f c i=decide (a6 c i.b≠bt/\a6 c i.b=e8 x (a6 c i.a) i.c):=by simp only[eC,T]
  rw[e];clear e;simp-implicitDefEqProofs(disch:=try exact aW)only[reduceAdd,reduceLeDiff,reduceIte,bB,B,cI aO,o U,dU,dQ,dT,dR,dS,fh,t,Int.reduceBEq,c2,hp];refine bw (SQ m i.a i.c i.b q) λK p=> ?_
  exact aD.2 ⟨by rw[oa],k.trans p⟩
 have aT:(i.op==7)=false:=beq_eq_false_iff_ne.2 T;by_cases V:i.op=8
 ·have t:∀j:Int,(i.op==j)=(8==j):=λj=>by rw[V]
  have e:eC x f c i=decide (a6 c i.a≠bt/\0<(a6 c i.b).d/\a6 c i.c=da/\a6 c i.a=less (a6 c i.b)):=by simp only[eC,V]
  rw[e];clear e;simp-implicitDefEqProofs(disch:=try exact aW)only[reduceAdd,reduceLeDiff,reduceIte,bB,B,cI aO,o U,dU,dQ,dT,dR,dS,fh,t,Int.reduceBEq,c2,hp];refine bw (SO m i.b i.a q (aj _)) λK p=> ?_
  rw[oa];by_cases L:0<(a6 c i.b).d
  ·by_cases ah:a6 c i.a≠bt/\a6 c i.a=less (a6 c i.b)
   ·rw[decide_eq_true L,decide_eq_true ah];refine cv (cI (p.get aO)) (o (p.get U)) @c2 @fh ?_;refine cT (kh ((m.aB p).aB (au.push _ _)) (hc _ bb trivial i.c) q aX) λG z=> ?_
    refine bN ?_;refine aD.2 ⟨?_,k.trans (p.trans ((au.push _ _).trans z))⟩;grind[jV]
   ·rw[decide_eq_true L,decide_eq_false ah];refine bP @Bool.and_false ?_;refine aD.2 ⟨?_,k.trans p⟩;grind
  ·rw[decide_eq_false L];refine bP @Bool.false_and ?_;refine aD.2 ⟨?_,k.trans p⟩;grind
 have aU:(i.op==8)=false:=beq_eq_false_iff_ne.2 V;by_cases Y:i.op=9
 ·have t:∀j:Int,(i.op==j)=(9==j):=λj=>by rw[Y]
  have e:eC x f c i=decide (a6 c i.c≠bt/\0<(a6 c i.a).d/\a6 c i.b=da/\a6 c i.c=less (a6 c i.a)):=by simp only[eC,Y]
  rw[e];clear e;simp-implicitDefEqProofs(disch:=try exact aW)only[reduceAdd,reduceLeDiff,reduceIte,bB,B,cI aO,o U,dU,dQ,dT,dR,dS,fh,t,Int.reduceBEq,c2,hp];refine bw (SO m i.a i.c q (aj _)) λK p=> ?_
  rw[oa];by_cases L:0<(a6 c i.a).d
  ·by_cases ah:a6 c i.c≠bt/\a6 c i.c=less (a6 c i.a)
   ·rw[decide_eq_true L,decide_eq_true ah];refine cv (cI (p.get aO)) (o (p.get U)) @c2 @fh ?_;refine cT (kh ((m.aB p).aB (au.push _ _)) (hc _ bb trivial i.b) q aX) λG z=> ?_
    refine bN ?_;refine aD.2 ⟨?_,k.trans (p.trans ((au.push _ _).trans z))⟩;grind[jV]
   ·rw[decide_eq_true L,decide_eq_false ah];refine bP @Bool.and_false ?_;refine aD.2 ⟨?_,k.trans p⟩;grind
  ·rw[decide_eq_false L];refine bP @Bool.false_and ?_;refine aD.2 ⟨?_,k.trans p⟩;grind
 have aV:(i.op==9)=false:=beq_eq_false_iff_ne.2 Y;by_cases ar:i.op=10
 ·have t:∀j:Int,(i.op==j)=(10==j):=λj=>al
  have e:eC x f c i=decide (a6 c i.a=da/\0<(a6 c i.b).d):=by grind[eC]
  rw[e];clear e;simp-implicitDefEqProofs(disch:=try exact aW)only[reduceAdd,reduceLeDiff,reduceIte,bB,B,cI aO,o U,dU,dQ,dT,dR,dS,fh,t,Int.reduceBEq,c2,hp];refine bw (kh (m.aB (au.push _ _)) (hc _ bb trivial i.a) q aX) λK p=> ?_
  have y:=(au.push H0 (.row I 1 [[D F i.a]])).trans p;have e:fG c da [i.a]=decide (a6 c i.a=da):=by rw[jV];simp
  rw[e];by_cases M:a6 c i.a=da
  ·rw[decide_eq_true M];refine bG (cI (y.get aO)) (o (y.get U)) ?_;refine cT (nK (m.aB y) i.b q) λG z=> ?_
   refine bP @DJ ?_;exact aD.2 ⟨al,k.trans (y.trans z)⟩
  ·rw[decide_eq_false M];refine bN ?_;exact aD.2 ⟨al,k.trans y⟩
 have aI:(i.op==10)=false:=beq_eq_false_iff_ne.2 ar;by_cases av:i.op=11
 ·have t:∀j:Int,(i.op==j)=(11==j):=λj=>al
  have e:eC x f c i=(decide (a6 c i.a≠bt/\(a6 c i.a).b=3/\(a6 c i.a).d=0)&&iT x f i.n (a6 c i.a)):=by grind[eC]
  rw[e];clear e;simp-implicitDefEqProofs(disch:=try exact aW)only[reduceAdd,reduceLeDiff,reduceIte,bB,B,cI aO,o U,dU,dQ,dT,dR,dS,fh,t,Int.reduceBEq,c2,hp];refine bw (nK m i.a q) λK p=> ?_
  have am:=RN x f c i.n i.a;generalize aE:a6 c i.a=ta at*;have y:au H0 (K.push (.row I 3 [cb ta])):=p.trans (au.push _ _);have Q:(K.push (.row I 3 [cb ta])).get K.next=A (.row I 3 [cb ta]):=ae.a2 _ _
  have aa:cr P (K.push (.row I 3 [[D F 0,D F 0,D F 0]])) 46 (.ptr K.next 0 0) (c3 ta)=A (K.push (.row I 3 [cb ta])):=by
   have:=Dc (t:=bt) (u:=ta) (ae.a2 K (.row I 3 [cb bt]));rw[ae.lb]at this;exact this
  have aq:=y.get aO;have ap:=y.get U;cases O:(ta.b==3)with
  |false=>
   have ab:¬ta.b=3:=al;refine b3 aa (jX Q) O ?_;exact aD.2 ⟨al,k.trans y⟩
  |true=>
   have ab:ta.b=3:=al;cases af:(ta.d==0)with
   |false=>
    have an:¬ta.d=0:=al;refine cv aa (jX Q) O af ?_;exact aD.2 ⟨al,k.trans y⟩
   |true=>
    have an:ta.d=0:=al;have ak:ta≠bt:=by rintro rfl;revert ab;decide
    refine bh aa (jX Q) O af (cI aq) (o ap) ?_;refine cT (SW (m.aB y) i.n i.a q) λG z=> ?_
    refine bN ?_;exact aD.2 ⟨al,k.trans (y.trans z)⟩
 have aJ:(i.op==11)=false:=beq_eq_false_iff_ne.2 av;by_cases aw:i.op=12
 ·have t:∀j:Int,(i.op==j)=(12==j):=λj=>al
  have e:eC x f c i=(decide (0<(a6 c i.a).d/\a6 c i.b=da)&&iT x f i.n (a6 c i.a)):=by grind[eC]
  rw[e];clear e;simp-implicitDefEqProofs(disch:=try exact aW)only[reduceAdd,reduceLeDiff,reduceIte,bB,B,cI aO,o U,dU,dQ,dT,dR,dS,fh,t,Int.reduceBEq,c2,hp];refine bw (nK m i.a q) λK p=> ?_
  have am:=RN x f c i.n i.a;generalize aE:a6 c i.a=ta at*;by_cases N:0<ta.d
  ·have ak:ta≠bt:=by
    intro e;rw[e]at N;revert N;decide
   refine cv @DJ N (cI (p.get aO)) (o (p.get U)) ?_;refine cT (SW (m.aB p) i.n i.a q) λG z=> ?_
   have E:=p.trans z;rw[am ak];cases aZ:iT x f i.n ta with
   |false=>
    refine bN ?_;exact aD.2 ⟨aX,k.trans E⟩
   |true=>
    refine cv (cI (E.get aO)) (o (E.get U)) @c2 @fh ?_;refine cT (kh ((m.aB E).aB (au.push _ _)) (hc _ bb trivial i.b) q aX) λaY aF=> ?_
    refine bN ?_;exact aD.2 ⟨by grind[jV],k.trans (E.trans ((au.push _ _).trans aF))⟩
  ·refine bG @DJ N ?_;exact aD.2 ⟨al,k.trans p⟩
 have aL:(i.op==12)=false:=beq_eq_false_iff_ne.2 aw;refine bh B (cI aO) aH aN aP (ag aQ (ag aR (ag aS (ag aT (ag aU (ag aV (ag aI (ag aJ aL)))))))) ?_;refine bw (ajE m q aC ad aA) λK p=> ?_
 exact aD.2 ⟨rfl,k.trans p⟩
