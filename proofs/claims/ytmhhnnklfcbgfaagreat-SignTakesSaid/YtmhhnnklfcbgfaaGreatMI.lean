/-
  Texts of one proof, laid together: Oc Od Oe Of Og.
-/
import Derived.Test.YtmhhnnklfcbgfaaGreatMH
set_option linter.unusedVariables false
set_option linter.unusedSimpArgs false
set_option linter.defProp false
open Option renaming some→A
open Bool renaming true→J,false→I
open Go.cv.af renaming int→D,str→X,bool→C
open Go.IntKind renaming i64→F
namespace Go.Proofs.YtmhhnnklfcbgfaaGreat
open Go.cv
open Nat (reduceAdd reduceLeDiff)
section
open Go.a2
set_option maxRecDepth 2000
section
variable {H:ae}{ok:Nat->Prop}
theorem Nt{x:bq}{l:List cS}{v rv:af}{a b cc d:af}{zX r n:Nat}(au:r<=1000000)(t:l.length<=1000000){L1:af->af->af->af->ae->O}{Q:af->ae->Prop}{N:Nat}:
  ∀(j k m:Nat) (H:ae),k+j=l.length->j<m->H.get zX=A (.row I 5 [[a,b,cc,d,D F x.main]])->cE H ok x (.agg [a,b,cc,d,D F x.main])->aI mv H ok l v->
  ((l.drop k).all (eK x.ca.length)=I->∀H',aw H H'->Q (C I) H')->((l.drop k).all (eK x.ca.length)=J->∀H',aw H H'->W (L1 (.ptr zX 0 0) rv (D F n) (D F ((r+1:Nat):Int)) H') Q)->
  W (ya (aK P aD) N L1 m (.ptr zX 0 0) rv (D F n) (D F r) v (D F l.length) (D F k) H) Q
 |_,_,0,_,_,y,_,_,_,_,_=>aa
 |0,k,m+1,H,u,_,aQ,aF,h,c,dU=>by
  have S:¬(k:Int)<(l.length:Int):=aa;have:=dU al H (aw.refl _);refine bT @ya.eq_2 @C9.eq_1 @C_.eq_1 ?_;omega
 |j+1,k,m+1,H,u,y,aQ,aF,h,c,dU=>by
  have w:k<l.length:=aa;obtain⟨L,q,ro,els,G,E,_,g,e,s,rfl⟩:=h.at_ (K:=mv) jz (j:=(k:Int)) (a:=l[k]) aa al;have M:=ae.bm g;have R:=ae.bm aQ;have o:H.get L=A (.row ro 4 els):=g;rw[cj]at e;have on:=Nt (x:=x) (l:=l) (v:=v) (rv:=rv) (a:=a) (b:=b) (cc:=cc) (d:=d) (zX:=zX) (r:=r) (n:=n) au t (L1:=L1) (Q:=Q) (N:=N) j (k+1) m;rw[List.drop_eq_getElem_cons w,List.all_cons]at c dU;have i:=aw.push H (.row I 4 [X s::cj l[k]]);refine gE @ya.eq_2 @C9.eq_1 E o e aQ ?_;refine bz (z8 (aF.aC i) l[k]) λH1 B=> ?_
  have q:=i.trans B;cases z:eK x.ca.length l[k]with
  |false=>
   refine bM ?_;grind[aE]
  |true=>
   rw[z,Bool.true_and]at c dU;refine bM ?_;exact on H1 aa aa (q.get aQ) (aF.aC q) (h.aC q) (λf H' p=>c f H' (q.trans p)) λf H' p=>dU f H' (q.trans p)
theorem Nz{x:bq}{a b cc d:af}{zX:Nat}(M:x.ca.length<=1000000){N:Nat}(z:8<N):
  ∀(j k m:Nat) (H:ae),k+j=x.ca.length->j<m->H.get zX=A (.row I 5 [[a,b,cc,d,D F x.main]])->cE H ok x (.agg [a,b,cc,d,D F x.main])->
  W (uq (aK P aD) N m (.ptr zX 0 0) a (D F x.ca.length) (D F k) H) λr H'=>r= C ((x.ca.drop k).all (nS x))/\aw H H'
 |_,_,0,_,_,G,_,_=>aa
 |0,k,m+1,H,B,_,aQ,aF=>by
  have h:¬(k:Int)<(x.ca.length:Int):=aa;refine bT @uq.eq_2 @x0.eq_1 @x_.eq_1 ?_;grind[aE,aw.refl]
 |j+1,k,m+1,H,B,G,aQ,aF=>by
  have t:=aF;obtain⟨_,v,bY,b',R,T,w,ah,ai,ay,aM⟩:=aF;cases v;cases w;have h:(k:Int)<(x.ca.length:Int):=aa;have E:k<x.ca.length:=aa;obtain⟨L,n,ro,els,S,u,_,g,e,s,fv,rfl,aB⟩:=ah.at_ (K:=nw) fx (j:=(k:Int)) (a:=x.ca[k]) aa al;have U:=ae.bm g;have V:=ae.bm aQ;have i:H.get L=A (.row ro 2 els):=g;have o:=aB.one;have on:=Nz (x:=x) (a:=a) (b:=b) (cc:=cc) (d:=d) (zX:=zX) M z j (k+1) m;rw[List.drop_eq_getElem_cons E,List.all_cons,nS];have c:=aw.push H (.row I 2 [[X s,fv]]);by_cases gp:(8:Int)<(x.ca[k].length:Int)
  ·simp-implicitDefEqProofs(disch:=try exact aY)only[uq,x0,reduceAdd,reduceLeDiff,reduceIte,e3,h,decide_true,u,i,e,o,aB.len jz,gp];grind[aE]
  ·have y:decide (x.ca[k].length<=8)=true:=al;simp-implicitDefEqProofs(disch:=try exact aY)only[uq,x0,reduceAdd,reduceLeDiff,reduceIte,e3,h,decide_true,decide_false,u,i,e,o,aB.len jz,gp];rw[y,Bool.true_and];refine Nt (x:=x) (l:=x.ca[k]) aa aa x.ca[k].length 0 N _ aa aa (c.get aQ) (t.aC c) (aB.aC c) (λf H' p=> ?_) λf H' p=> ?_
   ·rw[List.drop_zero]at f;exact⟨al,c.trans p⟩
   ·rw[List.drop_zero]at f;have q:=c.trans p;refine(on H' aa aa (q.get aQ) (t.aC q)).mono ?_;rintro r Q ⟨rfl,O⟩;exact⟨al,q.trans O⟩
def ahJ{x:bq}{v:af}(aF:cE H ok x v)(e:x.ca.length<=1000000):W (aK P aD 73 [v] H) λr H'=>r= C (x.ca.all (nS x))/\aw H H':=by
 obtain⟨_,rfl,a,b,cc,d,rfl,ah,ai,ay,aM⟩:=aF;refine agN (x.ca.length+9) ?_;have c:=aw.push H (.row I 5 [[a,b,cc,d,D F x.main]]);refine bb @IV.eq_1 aa @eU.eq_1 (dQ ah ai ay aM) (oN (ae.a1 H (.row I 5 [[a,b,cc,d,D F x.main]]))) (ah.bf fx) ?_;refine(Nz (ok:=ok) (x:=x) e (N:=x.ca.length+9) aa x.ca.length 0 (x.ca.length+9) _ aa aa (ae.a1 _ _) ⟨_,rfl,a,b,cc,d,rfl,ah.aC c,ai.aC c,ay.aC c,aM.aC c⟩).mono ?_;rintro r g ⟨rfl,f⟩;exact⟨aW,c.trans f⟩
end
end
section
open Go.a2
set_option maxRecDepth 2000
def cf(i:In)(wi:af):List af:=[D F i.op,D F i.a,D F i.b,D F i.c,D F i.n,wi]
def cJ(x:bq)(f:Nat)(c:bQ)(i:In)(a b cc d v w wi:af):List af:=[a,b,cc,d,D F x.main,D F f,D F c.params,v,C c.has,D F c.res.b,D F c.res.r,D F c.res.d,w,D F i.op,D F i.a,D F i.b,D F i.c,D F i.n,wi]
structure ig(H:ae)(ok:Nat->Prop)(x:bq)(c:bQ)(i:In)(a b cc d v w wi:af):Prop where
 ah:aI nw H ok x.ca a
 ai:aI fc H ok x.globals b
 ay:aI fO H ok x.ax cc
 aM:aI nx H ok x.sites d
 bS:aI fc H ok c.vars v
 b2:aI fJ H ok c.ins w
 i1:aI aN H ok i.args wi
theorem ig.aC{H H':ae}{ok:Nat->Prop}{x:bq}{c:bQ}{i:In}{a b cc d v w wi:af}(s:ig H ok x c i a b cc d v w wi)(p:aw H H'):ig H' ok x c i a b cc d v w wi:=
 ⟨s.ah.aC p,s.ai.aC p,s.ay.aC p,s.aM.aC p,s.bS.aC p,s.b2.aC p,s.i1.aC p⟩
section
variable {H:ae}{ok:Nat->Prop}{x:bq}{f:Nat}{c:bQ}{i:In}{a b cc d v w wi:af}
def iP(s:ig H ok x c i a b cc d v w wi)(f l:Nat):fl l (.agg (cJ x f c i a b cc d v w wi))=A (.ptr l 0 0,.row I 19 [cJ x f c i a b cc d v w wi]):=
 mH l _ (by have e:=s.ah.one;have g:=s.ai.one;have h:=s.ay.one;have j:=s.aM.one;have k:=s.bS.one;have m:=s.b2.one;have n:=s.i1.one;simp[cJ,e,g,h,j,k,m,n];simp[af.one])
section
variable {zX:Nat}(g:H.get zX=A (.row I 19 [cJ x f c i a b cc d v w wi]))
include g
theorem cP:aJ P H 280 (.ptr zX 0 0)=A (.agg (cJ x f c i a b cc d v w wi)):=
 hA (n:=19) (i:=0) (c:=0) aG aG g rfl aa
theorem Aq:aJ P H 89 (.ptr zX 0 13)=A (.agg (cf i wi)):=
 hA (n:=6) (i:=0) (c:=13) aG aG g rfl aa
theorem abN:aJ P H 46 (.ptr zX 0 9)=A (c8 c.res):=
 hA (n:=3) (i:=0) (c:=9) aG aG g rfl aa
theorem g3:aJ P H 3 (.ptr zX 0 5)=A (D F f)/\aJ P H 22 (.ptr zX 0 0)=A a/\aJ P H 23 (.ptr zX 0 1)=A b/\aJ P H 24 (.ptr zX 0 2)=A cc/\aJ P H 25 (.ptr zX 0 3)=A d
  /\aJ P H 23 (.ptr zX 0 7)=A v/\aJ P H 4 (.ptr zX 0 8)=A (C c.has)/\aJ P H 47 (.ptr zX 0 12)=A w:=by
 rw[cJ]at g;exact kP g
end
theorem oc(s:ig H ok x c i a b cc d v w wi)(n:Int)(B:c.vars.length<=1000000000):W (aK P aD 243 [.agg (cJ x f c i a b cc d v w wi),D F n] H) λr H'=>r=c8 (a7 c n)/\aw H H':=by
 refine af5 0 ?_;have h:=iP s f;have o:aw (H.push (.row I 19 [cJ x f c i a b cc d v w wi])) ((H.push (.row I 19 [cJ x f c i a b cc d v w wi])).push (.row I 3 [[D F 0,D F 0,D F 0]])):=aw.push _ _;have k:=(aw.push H (.row I 19 [cJ x f c i a b cc d v w wi])).trans o;have e:((H.push (.row I 19 [cJ x f c i a b cc d v w wi])).push (.row I 3 [[D F 0,D F 0,D F 0]])).get (H.next+1)=A (.row I 3 [cj bw]):=ae.a1 _ _;have aQ:=o.get (ae.a1 H (.row I 19 [cJ x f c i a b cc d v w wi]));have bad:a7 c n=bw->W (eg ((H.push (.row I 19 [cJ x f c i a b cc d v w wi])).push (.row I 3 [[D F 0,D F 0,D F 0]])) (aK P aD 167 [] ((H.push (.row I 19 [cJ x f c i a b cc d v w wi])).push (.row I 3 [[D F 0,D F 0,D F 0]]))) λx15 m=>gG m (cz P m 46 (.ptr (H.next+1) 0 0) x15) λl=>aU (aJ P l 46 (.ptr (H.next+1) 0 0)) λr=>A (r,l)) λr H'=>r=c8 (a7 c n)/\aw H H':=by
  intro aL;refine bz Gv λK p=> ?_
  have ed:=p.get e;have q:=ae.bm ed;simp-implicitDefEqProofs(disch:=try exact aY)only[reduceAdd,reduceLeDiff,reduceIte,bB,D1 ed,kT,R (ae.cO q)];exact aE.2 ⟨by rw[aL],(k.trans p).pc aa _⟩
 by_cases g:n<0
 ·refine cu @xk.eq_1 h @ae.fW g ?_;grind[a7,gz]
 ·by_cases ar:(c.vars.length:Int)<=n
  ·refine bb @xk.eq_1 h (g3 aQ) g ar (s.bS.bf cW) ?_;grind[a7,gz]
  ·have E:n.toNat<c.vars.length:=aa;obtain⟨p,cs,u,y,rfl⟩:=(s.bS.aC k).agg (K:=fc) cW uG (j:=n) (a:=c.vars[n.toNat]) aa al;have z:aJ P ((H.push (.row I 19 [cJ x f c i a b cc d v w wi])).push (.row I 3 [[D F 0,D F 0,D F 0]])) 46 p=A (c8 c.vars[n.toNat]):=y;have t:=ae.bm e;simp-implicitDefEqProofs(disch:=try exact aY)only[xk,reduceAdd,reduceLeDiff,reduceIte,bB,h,g3 aQ,g,ar,s.bS.len cW,u,z,D1 e,R (ae.cO t),decide_false];refine aE.2 ⟨?_,k.pc aa _⟩;grind[a7,jW]
def fT(c:bQ)(t:cS)(l:List Int):Bool:=l.all (λn=>decide (a7 c n=t))&&decide (t≠bw)
theorem NJ(c:bQ)(t:cS)(a:Int)(l:List Int):fT c t (a::l)=(decide (a7 c a=t)&&fT c t l):=by grind[fT]
theorem T6{t:cS}{l:List Int}{lv:af}{ok':Nat->Prop}{zX T:Nat}(h:c.vars.length<=1000000000)(o:l.length<=1000000000){N:Nat}:∀(j k m:Nat) (H:ae),k+j=l.length->j<m->H.get zX=A (.row I 19 [cJ x f c i a b cc d v w wi])->H.get T=A (.row I 3 [cj t])->ig H ok x c i a b cc d v w wi->aI aN H ok' l lv->
  W (xl (aK P aD) N m (.ptr zX 0 0) (.ptr T 0 0) lv (D F l.length) (D F k) H) λr H'=>r= C (fT c t (l.drop k))/\aw H H'
 |_,_,0,_,_,hm,_,_,_,_=>aa
 |0,k,m+1,H,n,_,aQ,e,s,ar=>by
  have E:¬(k:Int)<(l.length:Int):=aa;refine bT @xl.eq_2 @Ck.eq_1 @Ik.eq_1 ?_;refine bz Gv λK p=> ?_
  refine cu (R (p.get e)) (R e) @iW @eY ?_;grind[aE,fT]
 |j+1,k,m+1,H,n,hm,aQ,e,s,ar=>by
  have q:k<l.length:=aa;obtain⟨p,y,z⟩:=ar.int (j:=(k:Int)) (a:=l[k]) aa al;have on:=T6 (t:=t) (l:=l) (lv:=lv) (ok':=ok') (zX:=zX) (T:=T) h o (N:=N) j (k+1) m;rw[List.drop_eq_getElem_cons q];refine dd @xl.eq_2 @Ck.eq_1 y z (cP aQ) ?_;refine bz (oc s l[k] h) λK p=> ?_
  by_cases he:a7 c l[k]=t
  ·have g:decide (a7 c l[k]≠t)=false:=al;refine dd (R (p.get e)) (R e) @iW @eY g ?_;refine(on K aa aa (p.get aQ) (p.get e) (s.aC p) (ar.aC p)).mono ?_;rintro r B ⟨rfl,u⟩;exact⟨by grind[NJ],p.trans u⟩
  ·have g:decide (a7 c l[k]≠t)=true:=al;refine dd (R (p.get e)) (R e) @iW @eY g ?_;grind[aE,NJ]
def mo(s:ig H ok x c i a b cc d v w wi){t:cS}{l:List Int}{lv:af}{ok':Nat->Prop}(ar:aI aN H ok' l lv)(h:c.vars.length<=1000000000)(m:l.length<=1000000000):W (aK P aD 244 [.agg (cJ x f c i a b cc d v w wi),c8 t,lv] H) λr H'=>r= C (fT c t l)/\aw H H':=by
 refine af6 (l.length+1) ?_;have k:=iP s f;have j:=kk t;have g:aw (H.push (.row I 19 [cJ x f c i a b cc d v w wi])) ((H.push (.row I 19 [cJ x f c i a b cc d v w wi])).push (.row I 3 [cj t])):=aw.push _ _;have e:=(aw.push H (.row I 19 [cJ x f c i a b cc d v w wi])).trans g;refine dd @Ij.eq_1 k j @eU.eq_1 (ar.bf bV) ?_;refine(T6 (ok:=ok) (ok':=ok') (t:=t) (l:=l) h m l.length 0 (l.length+1) _ aa aa (g.get (ae.a1 _ _)) (ae.a1 _ _) (s.aC e) (ar.aC e)).mono ?_;rintro r o ⟨rfl,n⟩;exact⟨aW,e.trans n⟩
def kx(s:ig H ok x c i a b cc d v w wi){l:List Int}{lv:af}{ok':Nat->Prop}(ar:aI aN H ok' l lv)(g:c.vars.length<=1000000000)(h:l.length<=1000000000):W (aK P aD 241 [.agg (cJ x f c i a b cc d v w wi),lv] H) λr H'=>r= C (fT c di l)/\aw H H':=by
 refine af3 0 ?_;have e:=aw.push H (.row I 19 [cJ x f c i a b cc d v w wi]);refine bT @Ih.eq_1 (iP s f) (cP (ae.a1 H (.row I 19 [cJ x f c i a b cc d v w wi]))) ?_;refine bz (mo (s.aC e) (t:=di) (ar.aC e) g h) λK p=> ?_
 exact aE.2 ⟨rfl,e.trans p⟩
def pf(s:ig H ok x c i a b cc d v w wi){l:List Int}{lv:af}{ok':Nat->Prop}(ar:aI aN H ok' l lv)(g:c.vars.length<=1000000000)(h:l.length<=1000000000):W (aK P aD 242 [.agg (cJ x f c i a b cc d v w wi),lv] H) λr H'=>r= C (fT c eG l)/\aw H H':=by
 refine af4 0 ?_;have e:=aw.push H (.row I 19 [cJ x f c i a b cc d v w wi]);refine bT @Ii.eq_1 (iP s f) (cP (ae.a1 H (.row I 19 [cJ x f c i a b cc d v w wi]))) ?_;refine bz (mo (s.aC e) (t:=eG) (ar.aC e) g h) λK p=> ?_
 exact aE.2 ⟨rfl,e.trans p⟩
end
end
section
open Go.a2
set_option maxRecDepth 2000
section
variable {H:ae}{ok:Nat->Prop}{x:bq}{f:Nat}{c:bQ}{i:In}{a b cc d v w wi:af}
def fq(v:af)(b:bA)(k:cv.K->O):jK (A (v,b)) k=k (.new v b):=rfl
theorem hd(H:ae)(ok:Nat->Prop)(h:ok H.next)(n:Int):aI aN (H.push (.row I 1 [[D F n]])) ok [n] (.az H.next 0 1 1 (A 1)):=
 .inr (.inl ⟨H.next,0,A 1,I,_,rfl,h,ae.a1 _ _,aW,λj a b=>by
  rcases j with _|j
  ·cases b;exact⟨_,rfl,rfl⟩
  grind⟩)
theorem DZ(H:ae)(ok:Nat->Prop)(h:ok H.next)(n m:Int):aI aN (H.push (.row I 1 [[D F n],[D F m]])) ok [n,m] (.az H.next 0 2 1 (A 2)):=
 .inr (.inl ⟨H.next,0,A 2,I,_,rfl,h,ae.a1 _ _,aW,λj a b=>by
  rcases j with _|_|j
  ·cases b;exact⟨_,rfl,rfl⟩
  ·cases b;exact⟨_,rfl,rfl⟩
  grind⟩)
theorem sb(H:ae)(ok:Nat->Prop)(h:ok H.next)(n m q:Int):aI aN (H.push (.row I 1 [[D F n],[D F m],[D F q]])) ok [n,m,q] (.az H.next 0 3 1 (A 3)):=
 .inr (.inl ⟨H.next,0,A 3,I,_,rfl,h,ae.a1 _ _,aW,λj a b=>by
  rcases j with _|_|_|j
  ·cases b;exact⟨_,rfl,rfl⟩
  ·cases b;exact⟨_,rfl,rfl⟩
  ·cases b;exact⟨_,rfl,rfl⟩
  grind⟩)
def hC(l:Nat)(n m:Int):gu P l 30 2 [(0,D F n),(1,D F m)]=A (.az l 0 2 1 (A 2),.row I 1 [[D F n],[D F m]]):=by
 obtain⟨z,a,c,d⟩:=bV.ft;have b:gb P 3=A (D F 0):=aG;rw[b]at a;cases a;simp[gu,bV.un,bV.ts,b,lZ,af.cells,af.one]
def o6(l:Nat)(n m q:Int):gu P l 30 3 [(0,D F n),(1,D F m),(2,D F q)]=A (.az l 0 3 1 (A 3),.row I 1 [[D F n],[D F m],[D F q]]):=by
 have a:gb P 3=A (D F 0):=aG;simp[gu,bV.un,bV.ts,a,lZ,af.cells,af.one]
def aI.zo{α:Type}{K:e0 α}{t e:Nat}(y:fj t e K.esz)(c:ev P e=A J){l:List α}{v:af}(h:aI K H ok l v){j:Int}{a:α}(b:0<=j)(d:l[j.toNat]? =A a):∃p cs,ct P t v (D F j)=A p/\(∀H',aw H H'->aJ P H' e p=A (.agg cs))/\K.V H ok a cs:=by
 obtain⟨L,i,ro,els,cs,ah,_,ai,ay,aM⟩:=h.at_ y b d;refine⟨_,cs,ah,λH' p=> ?_,aM⟩;rw[hA c y.ts (p.get ai) ay aa,List.drop_zero,List.take_of_length_le (by have:=(K.len aM).1;omega)]
def aI.Ea{l:List cS}{v:af}(h:aI fc H ok l v){j:Int}{t:cS}(a:0<=j)(b:l[j.toNat]? =A t):∃p,ct P 23 v (D F j)=A p/\∀H',aw H H'->aJ P H' 46 p=A (c8 t):=by
 obtain⟨p,cs,c,d,rfl⟩:=h.zo (K:=fc) cW uG a b;exact⟨p,c,d⟩
def aI.ahO{l:List su}{v:af}(h:aI nx H ok l v){j:Int}{z:su}(a:0<=j)(b:l[j.toNat]? =A z):∃L n,ct P 25 v (D F j)=A (.ptr L n 0)/\∀H',aw H H'->aJ P H' 3 (.ptr L n 0)=A (D F z.f)/\aJ P H' 46 (.ptr L n 1)=A (c8 z.ty):=by
 obtain⟨L,n,ro,els,cs,ah,_,ai,ay,rfl⟩:=h.at_ (K:=nx) fV a b;refine⟨L,n,ah,λH' p=>⟨?_,?_⟩⟩
 ·have g:H'.get L=A (.row ro 4 els):=p.get ai;exact te g ay
 ·exact hA (n:=3) (c:=1) aG aG (p.get ai) ay (by exact ds 4)
def aI.aec{l:List (List cS)}{v:af}(h:aI nw H ok l v){j:Int}{fs:List cS}(a:0<=j)(b:l[j.toNat]? =A fs):∃L n fv,ct P 22 v (D F j)=A (.ptr L n 0)/\(∀H',aw H H'->aJ P H' 93 (.ptr L n 1)=A fv)/\aI mv H ok fs fv:=by
 obtain⟨L,n,ro,els,cs,ah,_,ai,ay,s,fv,rfl,aB⟩:=h.at_ (K:=nw) fx a b;refine⟨L,n,fv,ah,λH' p=> ?_,aB⟩;have g:H'.get L=A (.row ro 2 els):=p.get ai;exact te g ay
def aI.ZA{l:List cS}{v:af}(h:aI mv H ok l v){j:Int}{t:cS}(a:0<=j)(b:l[j.toNat]? =A t):∃L n,ct P 93 v (D F j)=A (.ptr L n 0)/\∀H',aw H H'->aJ P H' 46 (.ptr L n 1)=A (c8 t):=by
 obtain⟨L,n,ro,els,cs,ah,_,ai,ay,s,rfl⟩:=h.at_ (K:=mv) jz a b;exact⟨L,n,ah,λH' p=>hA (n:=3) (c:=1) aG aG (p.get ai) ay (by exact ds 4)⟩
theorem vo(c:bQ)(t:cS)(n:Int):fT c t [n]=(decide (a7 c n=t)&&decide (t≠bw)):=by simp[fT]
theorem T0(s:ig H ok x c i a b cc d v w wi)(k n:Int)(g:c.vars.length<=1000000000)(B:(a7 c k).d<=1000):W (aK P aD 247 [.agg (cJ x f c i a b cc d v w wi),D F k,D F n] H) λr H'=>r= C (decide (0<(a7 c k).d)&&fT c (less (a7 c k)) [n])/\aw H H':=by
 refine af9 0 ?_;have h:=aw.push H (.row I 19 [cJ x f c i a b cc d v w wi]);have aQ:=ae.a1 H (.row I 19 [cJ x f c i a b cc d v w wi]);refine bT @Io.eq_1 (iP s f) (cP aQ) ?_;refine bz (oc (s.aC h) k g) λK p=> ?_
 have q:=h.trans p;have iD:=ae.bm (p.get aQ);generalize a7 c k=t at*;have z:=ae.a1 K (.row I 3 [cj bw]);have E:aw K (K.push (.row I 3 [cj t])):=aw.push _ _;by_cases e:t.d<=0
 ·refine o7 @c8.eq_1 @cj.eq_1 e ?_;exact aE.2 ⟨al,q.trans (aw.push _ _)⟩
 ·have j:=p.get aQ;simp-implicitDefEqProofs(disch:=try exact aY)only[cJ]at j;have ed:=p.get aQ;have o:(cJ x f c i a b cc d v w wi).take 19=cJ x f c i a b cc d v w wi:=rfl;have u:=wrap_i64 (show 0<=t.d-1 by omega) (show t.d-1<=9223372036854775807 by omega);refine gE @c8.eq_1 @cj.eq_1 e u ed (ag o @c3) ?_;refine bz (mo (((s.aC q).aC (aw.push _ _)).aC (aw.push _ _)) (t:=less t) (l:=[n]) (hd _ ba trivial n) g aW) λy m=> ?_
  exact aE.2 ⟨al,((q.trans (aw.push _ _)).trans (aw.push _ _)).trans m⟩
theorem JL(s:ig H ok x c i a b cc d v w wi)(n:Int):W (aK P aD 259 [.agg (cJ x f c i a b cc d v w wi),D F n] H) λr H'=>r= C (within n c.ins.length)/\aw H H':=by
 refine agi 0 ?_;have g:=aw.push H (.row I 19 [cJ x f c i a b cc d v w wi]);have aQ:=ae.a1 H (.row I 19 [cJ x f c i a b cc d v w wi]);by_cases e:0<=n
 ·refine dd @Cp.eq_1 (iP s f) (g3 aQ) (s.b2.bf eJ) e ?_;grind[aE,within]
 ·refine bT @Cp.eq_1 (iP s f) e ?_;grind[aE,within]
def kY(s:ig H ok x c i a b cc d v w wi)(f:Nat):bG (A (.agg (cJ x f c i a b cc d v w wi))) (.agg (cJ x f c i a b cc d v w wi))=true:=by
 simp[bG,cJ,af.beq,e9.beq,s.ah.rd,s.ai.rd,s.ay.rd,s.aM.rd,s.bS.rd,s.b2.rd,s.i1.rd]
def z1(x:bq)(c:bQ)(n k:Int):Bool:=match eR x.globals n with
 |some t=>fT c t [k]
 |none=>I
theorem T5(s:ig H ok x c i a b cc d v w wi)(n k:Int)(o:c.vars.length<=1000000000):W (aK P aD 260 [.agg (cJ x f c i a b cc d v w wi),D F n,D F k] H) λr H'=>r= C (z1 x c n k)/\aw H H':=by
 refine agj 0 ?_;have e:=aw.push H (.row I 19 [cJ x f c i a b cc d v w wi]);have aQ:=ae.a1 H (.row I 19 [cJ x f c i a b cc d v w wi]);rw[z1];by_cases g:0<=n
 ·by_cases ah:n<(x.globals.length:Int)
  ·have y:n.toNat<x.globals.length:=aa;have m:eR x.globals n=A x.globals[n.toNat]:=by grind[jW]
   obtain⟨pp,u,h⟩:=(s.ai.aC e).Ea (j:=n) (t:=x.globals[n.toNat]) g al;rw[m];generalize x.globals[n.toNat]=t at*;refine bb @xt.eq_1 (iP s f) (g3 aQ) (cP aQ) (s.ai.bf cW) (ag g (ag ah (ag u (ag (h _ (aw.refl _)) (ag @fq @c3))))) ?_;refine cY (mo ((s.aC e).aC (aw.push _ _)) (t:=t) (l:=[k]) (hd _ ba trivial k) o aW) λK p=> ?_
   have q:=(aw.push (H.push (.row I 19 [cJ x f c i a b cc d v w wi])) (.row I 1 [[D F k]])).trans p;refine bM ?_;refine dy (λH' p=>(ag (cP (p.get aQ)) (ag (g3 (p.get aQ)) (ag (kY s) (ag fz (ag eY (ag (dD s.ah) (ag (dD s.ai) (ag (dD s.ay) (ag (dD s.aM) (ag (s.ai.bf cW) (h H' p)))))))))))) (aE.2 ⟨rfl,e.trans q⟩)
  ·refine bb @xt.eq_1 (iP s f) (g3 aQ) (s.ai.bf cW) g ah ?_;refine dy (λH' p=>(ag (cP (p.get aQ)) (ag (g3 (p.get aQ)) (ag (kY s) (ag fz (ag eY (ag (dD s.ah) (ag (dD s.ai) (ag (dD s.ay) (ag (dD s.aM) (ag (s.ai.bf cW) (s.aM.bf fV)))))))))))) (aE.2 ⟨by grind[gz],e⟩)
 ·refine bT @xt.eq_1 (iP s f) g ?_;refine dy (λH' p=>(ag (cP (p.get aQ)) (ag (g3 (p.get aQ)) (ag (kY s) (ag fz (ag eY (ag (dD s.ah) (ag (dD s.ai) (ag (dD s.ay) (dD s.aM)))))))))) (aE.2 ⟨by grind[gz],e⟩)
def DY(x:bq)(f:Nat)(c:bQ)(n k:Int):Bool:=match eR x.sites n with
 |some z=>z.f==(f:Int)&&fT c z.ty [k]
 |none=>I
theorem T8(s:ig H ok x c i a b cc d v w wi)(n k:Int)(u:c.vars.length<=1000000000):W (aK P aD 248 [.agg (cJ x f c i a b cc d v w wi),D F n,D F k] H) λr H'=>r= C (DY x f c n k)/\aw H H':=by
 refine af_ 0 ?_;have e:=aw.push H (.row I 19 [cJ x f c i a b cc d v w wi]);have aQ:=ae.a1 H (.row I 19 [cJ x f c i a b cc d v w wi]);rw[DY];by_cases g:0<=n
 ·by_cases ah:n<(x.sites.length:Int)
  ·have B:n.toNat<x.sites.length:=aa;have q:eR x.sites n=A x.sites[n.toNat]:=by grind[jW]
   obtain⟨L,m,o,h⟩:=(s.aM.aC e).ahO (j:=n) (z:=x.sites[n.toNat]) g al;rw[q];generalize x.sites[n.toNat]=z at*;simp only[];cases aB:(z.f==(f:Int))with
   |true=>
    refine bb @uc.eq_1 (iP s f) (g3 aQ) (cP aQ) (s.aM.bf fV) (ag g (ag ah (ag o (ag (h _ (aw.refl _)) (ag aB (ag @fq @c3)))))) ?_;refine cY (mo ((s.aC e).aC (aw.push _ _)) (t:=z.ty) (l:=[k]) (hd _ ba trivial k) u aW) λK p=> ?_
    have y:=(aw.push (H.push (.row I 19 [cJ x f c i a b cc d v w wi])) (.row I 1 [[D F k]])).trans p;refine bM ?_;refine dy (λH' p=>(ag (cP (p.get aQ)) (ag (g3 (p.get aQ)) (ag (kY s) (ag fz (ag eY (ag (dD s.ah) (ag (dD s.ai) (ag (dD s.ay) (ag (dD s.aM) (ag (s.aM.bf fV) (h H' p)))))))))))) (aE.2 ⟨al,e.trans y⟩)
   |false=>
    refine bb @uc.eq_1 (iP s f) (g3 aQ) (s.aM.bf fV) g (ag ah (ag o (ag (h _ (aw.refl _)) aB))) ?_;refine dy (λH' p=>(ag (cP (p.get aQ)) (ag (g3 (p.get aQ)) (ag (kY s) (ag fz (ag eY (ag (dD s.ah) (ag (dD s.ai) (ag (dD s.ay) (ag (dD s.aM) (ag (s.aM.bf fV) (h H' p)))))))))))) (aE.2 ⟨al,e⟩)
  ·refine bb @uc.eq_1 (iP s f) (g3 aQ) (s.aM.bf fV) g ah ?_;refine dy (λH' p=>(ag (cP (p.get aQ)) (ag (g3 (p.get aQ)) (ag (kY s) (ag fz (ag eY (ag (dD s.ah) (ag (dD s.ai) (ag (dD s.ay) (ag (dD s.aM) (ag (s.ai.bf cW) (s.aM.bf fV)))))))))))) (aE.2 ⟨by grind[gz],e⟩)
 ·refine bT @uc.eq_1 (iP s f) g ?_;refine dy (λH' p=>(ag (cP (p.get aQ)) (ag (g3 (p.get aQ)) (ag (kY s) (ag fz (ag eY (ag (dD s.ah) (ag (dD s.ai) (ag (dD s.ay) (dD s.aM)))))))))) (aE.2 ⟨by grind[gz],e⟩)
end
end
section
open Go.a2
set_option maxRecDepth 2000
section
variable {H:ae}{ok:Nat->Prop}{x:bq}{f:Nat}{c:bQ}{i:In}{a b cc d v w wi:af}
theorem qD{H:ae}{i:In}{w:af}{L:Nat}{r:List af}(h:H.get L=A (.row I 6 [r]))(hw:w.one=J)(au:r.length=6:=by rfl):cz P H 89 (.ptr L 0 0) (.agg (cf i w))=A (H.set L (.row I 6 [cf i w])):=by
 rw[fb (n:=6) aG h rfl rfl (by grind[cf,af.cells,af.one]) b0];grind[cf,af.cells,gl,List.drop_of_length_le]
def fU{H:ae}{i:In}{w:af}{zI:Nat}(h:H.get zI=A (.row I 6 [[D F i.op,D F i.a,D F i.b,D F i.c,D F i.n,w]])):aJ P H 3 (.ptr zI 0 0)=A (D F i.op)/\aJ P H 30 (.ptr zI 0 5)=A w:=by
 exact kP h
theorem j5(c:bQ)(l:List Int):fT c di l=l.all (λn=>decide (a7 c n=di)):=by rw[fT,decide_eq_true aj2,Bool.and_true]
theorem mP(c:bQ)(l:List Int):fT c eG l=l.all (λn=>decide (a7 c n=eG)):=by rw[fT,decide_eq_true ajZ,Bool.and_true]
theorem T4(s:ig H ok x c i a b cc d v w wi)(k q n:Int)(U:c.vars.length<=1000000000):W (aK P aD 246 [.agg (cJ x f c i a b cc d v w wi),D F k,D F q,D F n] H) λr H'=>r= C (fT c (fh x (a7 c k) q) [n])/\aw H H':=by
 refine af8 0 ?_;have ad:=aw.push H (.row I 19 [cJ x f c i a b cc d v w wi]);have S:=ae.a1 H (.row I 19 [cJ x f c i a b cc d v w wi]);refine bT @Im.eq_1 (iP s f) (cP S) ?_;refine bz (oc (s.aC ad) k U) λK ab=> ?_
 have ao:=ad.trans ab;have T:=ab.get S;have iD:=ae.bm T;generalize a7 c k=t at*;have st:=D1 (t:=bw) (u:=t) (ae.a1 K (.row I 3 [cj bw]));have Y:aw K (K.push (.row I 3 [cj t])):=aw.push _ _;have aQ:=Y.get T;have R:(K.push (.row I 3 [cj t])).get K.next=A (.row I 3 [cj t]):=ae.a1 _ _
 have Q:=ao.trans Y;have ai:=s.aC Q;have B:=j7 R;have E:aJ P (K.push (.row I 3 [cj t])) 3 (.ptr K.next 0 1)=A (D F t.r):=by
  rw[cj]at R ⊢;exact abn
 have no:∀{e:Bool},fh x t q=bw->fT c (fh x t q) [n]=false:=λh=>by rw[h,vo];simp
 have o:cz P (K.push (.row I 3 [[D F 0,D F 0,D F 0]])) 46 (.ptr K.next 0 0) (c8 t)=A ((K.push (.row I 3 [cj bw])).set K.next (.row I 3 [cj t])):=st;rw[ae.lD]at o;have bad:fh x t q=bw->W (A (af.bool I,K.push (.row I 3 [cj t]))) λr H'=>r= C (fT c (fh x t q) [n])/\aw H H':=λh=>aE.2 ⟨by rw[no (e:=true) h],Q⟩
 cases ar:(t.b==3)with
 |false=>
  have g:(t.b != 3)=true:=al;have ak:¬t.b=3:=al;refine bT o B g ?_;grind[fh,m5]
 |true=>
  have g:(t.b != 3)=false:=al;cases au:(t.d==0)with
  |false=>
   have y:(t.d != 0)=true:=al;have ak:¬t.d=0:=al;refine cu o B g y ?_;grind[fh,m5]
  |true=>
   have y:(t.d != 0)=false:=al;have ay:m5 x t=eR x.ca t.r:=by grind[m5]
   by_cases G:t.r<0
   ·refine bb o B E g y G ?_;grind[fh,gz]
   by_cases N:(x.ca.length:Int)<=t.r
   ·refine bb o B E g y (ag G (ag N (ag (g3 aQ) (s.ah.bf fx)))) ?_;grind[fh,gz]
   have aB:t.r.toNat<x.ca.length:=aa;have av:eR x.ca t.r=A x.ca[t.r.toNat]:=by grind[jW]
   obtain⟨L,m,fv,i1,i2,i3⟩:=ai.ah.aec (j:=t.r) (fs:=x.ca[t.r.toNat]) aa al;generalize x.ca[t.r.toNat]=fs at*;have ax:fh x t q=(eR fs q).getD bw:=by grind[fh]
   have base:=[46];by_cases O:0<=q
   ·by_cases bS:q<(fs.length:Int)
    ·have aA:q.toNat<fs.length:=aa;obtain⟨M,e,am,V⟩:=i3.ZA (j:=q) (t:=fs[q.toNat]) aa al;have aj:fh x t q=fs[q.toNat]:=by grind[jW]
     rw[aj];generalize fs[q.toNat]=u at*;refine bb @fq o B E g (ag y (ag G (ag N (ag O (ag bS (ag (g3 aQ) (ag (cP aQ) (ag (s.ah.bf fx) (ag (i3.bf jz) (ag i1 (ag (i2 _ (aw.refl _)) (ag am (ag (V _ (aw.refl _)) @c3))))))))))))) ?_;refine cY (mo (ai.aC (aw.push _ _)) (t:=u) (l:=[n]) (hd _ ba trivial n) U aW) λap p=> ?_
     have an:=(aw.push (K.push (.row I 3 [cj t])) (.row I 1 [[D F n]])).trans p;refine bM ?_;refine dy (λH' p=>(ag (cP (p.get aQ)) (ag (g3 (p.get aQ)) (ag (kY s) (ag fz (ag eY (ag (i3.bf jz) (V H' p)))))))) (aE.2 ⟨rfl,Q.trans an⟩)
    ·refine bb o B E g y (ag G (ag N (ag O (ag bS (ag (g3 aQ) (ag (s.ah.bf fx) (ag (i3.bf jz) (ag i1 (i2 _ (aw.refl _)))))))))) ?_;refine lT (l5 aG ?_) (bad (by grind[gz]));refine mq ?_ ?_
     ·simp only[ia,cv.K.heap,List.forall_mem_cons];grind[aw.refl]
     ·simp only[List.forall_mem_cons]
      repeat' first|(intro v z;cases z;done)|(intro v z;cases z;intro H' p;simp only[Nat.zero_add,Nat.reduceAdd,i3.len jz,fz];done)|(intro _ h;cases h;done)|refine ag ?_ ?_
   ·refine bb o B E g y (ag G (ag N (ag O (ag (g3 aQ) (ag (s.ah.bf fx) (ag i1 (i2 _ (aw.refl _)))))))) ?_;refine lT (l5 aG ?_) (bad (by grind[gz]));refine mq ?_ ?_
    ·simp only[ia,cv.K.heap,List.forall_mem_cons];grind[aw.refl]
    ·simp only[List.forall_mem_cons]
     repeat' first|(intro v z;cases z;done)|(intro v z;cases z;intro H' p;simp only[Nat.zero_add,Nat.reduceAdd,fz];done)|(intro _ h;cases h;done)|refine ag ?_ ?_
theorem ak2(s:ig H ok x c i a b cc d v w wi)(g:c.vars.length<=1000000000):W (aK P aD 245 [.agg (cJ x f c i a b cc d v w wi)] H) λr H'=>r= C (hs i.n (a7 c i.a) (a7 c i.b) (a7 c i.c))/\aw H H':=by
 refine af7 0 ?_;have st:=qD (i:=i) (w:=wi) (ae.a1 (H.push (.row I 19 [cJ x f c i a b cc d v w wi])) (.row I 6 [[D F 0,D F 0,D F 0,D F 0,D F 0,.aq]])) s.i1.one;simp only[kT]at st;have k:aw H ((H.push (.row I 19 [cJ x f c i a b cc d v w wi])).push (.row I 6 [cf i wi])):=(aw.push _ _).trans (aw.push _ _);have aQ:((H.push (.row I 19 [cJ x f c i a b cc d v w wi])).push (.row I 6 [cf i wi])).get H.next=A (.row I 19 [cJ x f c i a b cc d v w wi]):=(aw.push _ _).get (ae.a1 _ _)
 have U:((H.push (.row I 19 [cJ x f c i a b cc d v w wi])).push (.row I 6 [cf i wi])).get (H.next+1)=A (.row I 6 [[D F i.op,D F i.a,D F i.b,D F i.c,D F i.n,wi]]):=ae.a1 _ _;have m:=fU U;refine dd @Il.eq_1 (iP s f) (Aq (ae.a1 H (.row I 19 [cJ x f c i a b cc d v w wi]))) st @ae.gD ?_;have h:=s.aC k;generalize ((H.push (.row I 19 [cJ x f c i a b cc d v w wi])).push (.row I 6 [cf i wi]))=H0 at*;have iD:=ae.bm aQ;have au:=ae.bm U;generalize H.next+1=zI at*
 generalize H.next=zX at*
 by_cases L:i.n=14
 ·have aL:∀j:Int,(i.n==j)=(14==j):=λj=>al
  rw[L];simp-implicitDefEqProofs(disch:=try exact aY)only[lG,reduceAdd,reduceLeDiff,reduceIte,bB,m,cP aQ,o U,aL,Int.reduceBEq,c3,hC,o6];refine bz (kx (h.aC (aw.push _ _)) (sb _ ba trivial i.a i.b i.c) g aW) λK p=> ?_
  exact aE.2 ⟨by grind[j5,hs],k.trans ((aw.push _ _).trans p)⟩
 have ad:(i.n==14)=false:=beq_eq_false_iff_ne.2 L;by_cases M:i.n=15
 ·have aL:∀j:Int,(i.n==j)=(15==j):=λj=>al
  rw[M];simp-implicitDefEqProofs(disch:=try exact aY)only[lG,reduceAdd,reduceLeDiff,reduceIte,bB,m,cP aQ,o U,aL,Int.reduceBEq,c3,hC,o6];refine bz (kx (h.aC (aw.push _ _)) (sb _ ba trivial i.a i.b i.c) g aW) λK p=> ?_
  exact aE.2 ⟨by grind[j5,hs],k.trans ((aw.push _ _).trans p)⟩
 have af:(i.n==15)=false:=beq_eq_false_iff_ne.2 M;by_cases N:i.n=16
 ·have aL:∀j:Int,(i.n==j)=(16==j):=λj=>al
  rw[N];simp-implicitDefEqProofs(disch:=try exact aY)only[lG,reduceAdd,reduceLeDiff,reduceIte,bB,m,cP aQ,o U,aL,Int.reduceBEq,c3,hC,o6];refine bz (kx (h.aC (aw.push _ _)) (sb _ ba trivial i.a i.b i.c) g aW) λK p=> ?_
  exact aE.2 ⟨by grind[j5,hs],k.trans ((aw.push _ _).trans p)⟩
 have ah:(i.n==16)=false:=beq_eq_false_iff_ne.2 N;by_cases O:i.n=17
 ·have aL:∀j:Int,(i.n==j)=(17==j):=λj=>al
  rw[O];simp-implicitDefEqProofs(disch:=try exact aY)only[lG,reduceAdd,reduceLeDiff,reduceIte,bB,m,cP aQ,o U,aL,Int.reduceBEq,c3,hC,o6];refine bz (kx (h.aC (aw.push _ _)) (sb _ ba trivial i.a i.b i.c) g aW) λK p=> ?_
  exact aE.2 ⟨by grind[j5,hs],k.trans ((aw.push _ _).trans p)⟩
 have ai:(i.n==17)=false:=beq_eq_false_iff_ne.2 O;by_cases Q:i.n=18
 ·have aL:∀j:Int,(i.n==j)=(18==j):=λj=>al
  rw[Q];simp-implicitDefEqProofs(disch:=try exact aY)only[lG,reduceAdd,reduceLeDiff,reduceIte,bB,m,cP aQ,o U,aL,Int.reduceBEq,c3,hC,o6];refine bz (kx (h.aC (aw.push _ _)) (sb _ ba trivial i.a i.b i.c) g aW) λK p=> ?_
  exact aE.2 ⟨by grind[j5,hs],k.trans ((aw.push _ _).trans p)⟩
 have aj:(i.n==18)=false:=beq_eq_false_iff_ne.2 Q;by_cases R:i.n=19
 ·have aL:∀j:Int,(i.n==j)=(19==j):=λj=>al
  rw[R];simp-implicitDefEqProofs(disch:=try exact aY)only[lG,ql,reduceAdd,reduceLeDiff,reduceIte,bB,m,cP aQ,o U,aL,Int.reduceBEq,c3,hC,o6];refine bz (pf (h.aC (aw.push _ _)) (hd _ ba trivial i.a) g aW) λK p=> ?_
  have e:=(aw.push H0 (.row I 1 [[D F i.a]])).trans p;cases z:fT c eG [i.a]with
  |false=>
   refine bM ?_;exact aE.2 ⟨by grind[mP,hs],k.trans e⟩
  |true=>
   refine cu (cP (e.get aQ)) (o (e.get U)) @hC @fq ?_;refine cY (kx ((h.aC e).aC (aw.push _ _)) (DZ _ ba trivial i.b i.c) g aW) λy u=> ?_
   refine bM ?_;exact aE.2 ⟨by grind[mP,j5,hs],k.trans (e.trans ((aw.push _ _).trans u))⟩
 have ak:(i.n==19)=false:=beq_eq_false_iff_ne.2 R;by_cases S:i.n=20
 ·have aL:∀j:Int,(i.n==j)=(20==j):=λj=>al
  rw[S];simp-implicitDefEqProofs(disch:=try exact aY)only[lG,ql,reduceAdd,reduceLeDiff,reduceIte,bB,m,cP aQ,o U,aL,Int.reduceBEq,c3,hC,o6];refine bz (pf (h.aC (aw.push _ _)) (hd _ ba trivial i.a) g aW) λK p=> ?_
  have e:=(aw.push H0 (.row I 1 [[D F i.a]])).trans p;cases z:fT c eG [i.a]with
  |false=>
   refine bM ?_;exact aE.2 ⟨by grind[mP,hs],k.trans e⟩
  |true=>
   refine cu (cP (e.get aQ)) (o (e.get U)) @hC @fq ?_;refine cY (kx ((h.aC e).aC (aw.push _ _)) (DZ _ ba trivial i.b i.c) g aW) λy u=> ?_
   refine bM ?_;exact aE.2 ⟨by grind[mP,j5,hs],k.trans (e.trans ((aw.push _ _).trans u))⟩
 have am:(i.n==20)=false:=beq_eq_false_iff_ne.2 S;by_cases T:i.n=21
 ·have aL:∀j:Int,(i.n==j)=(21==j):=λj=>al
  rw[T];simp-implicitDefEqProofs(disch:=try exact aY)only[lG,ql,ub,reduceAdd,reduceLeDiff,reduceIte,bB,m,cP aQ,o U,ea,dX,d_,dY,dZ,fq,uK,aL,Int.reduceBEq,c3];refine bz (pf (h.aC (aw.push _ _)) (hd _ ba trivial i.a) g aW) λK p=> ?_
  have e:=(aw.push H0 (.row I 1 [[D F i.a]])).trans p;cases z:fT c eG [i.a]with
  |false=>
   refine bM ?_;refine dy (λH' p=>(ag (cP (p.get aQ)) (ag (o (p.get U)) (ag (kY s) fz)))) (aE.2 ⟨by grind[mP,hs],k.trans e⟩)
  |true=>
   refine bF (cP (e.get aQ)) (o (e.get U)) ?_;refine cY (oc (h.aC e) i.b g) λy u=> ?_
   have q:=e.trans u;refine cu @fq (cP (q.get aQ)) (o (q.get U)) @c3 ?_;refine cY (mo ((h.aC q).aC (aw.push _ _)) (t:=a7 c i.b) (l:=[i.c]) (hd _ ba trivial i.c) g aW) λab G=> ?_
   have B:=q.trans (aw.push y (.row I 1 [[D F i.c]]));have E:=B.trans G;refine bM ?_;refine dy (λH' p=>(ag (cP (p.get aQ)) (ag (o (p.get U)) (ag (kY s) (ag fz eY))))) (aE.2 ⟨by grind[vo,hs],k.trans E⟩)
 have an:(i.n==21)=false:=beq_eq_false_iff_ne.2 T;by_cases V:i.n=22
 ·have aL:∀j:Int,(i.n==j)=(22==j):=λj=>al
  rw[V];simp-implicitDefEqProofs(disch:=try exact aY)only[lG,ql,ub,reduceAdd,reduceLeDiff,reduceIte,bB,m,cP aQ,o U,ea,dX,d_,dY,dZ,fq,uK,aL,Int.reduceBEq,c3];refine bz (pf (h.aC (aw.push _ _)) (hd _ ba trivial i.a) g aW) λK p=> ?_
  have e:=(aw.push H0 (.row I 1 [[D F i.a]])).trans p;cases z:fT c eG [i.a]with
  |false=>
   refine bM ?_;refine dy (λH' p=>(ag (cP (p.get aQ)) (ag (o (p.get U)) (ag (kY s) fz)))) (aE.2 ⟨by grind[mP,hs],k.trans e⟩)
  |true=>
   refine bF (cP (e.get aQ)) (o (e.get U)) ?_;refine cY (oc (h.aC e) i.b g) λy u=> ?_
   have q:=e.trans u;refine cu @fq (cP (q.get aQ)) (o (q.get U)) @c3 ?_;refine cY (mo ((h.aC q).aC (aw.push _ _)) (t:=a7 c i.b) (l:=[i.c]) (hd _ ba trivial i.c) g aW) λab G=> ?_
   have B:=q.trans (aw.push y (.row I 1 [[D F i.c]]));have E:=B.trans G;refine bM ?_;refine dy (λH' p=>(ag (cP (p.get aQ)) (ag (o (p.get U)) (ag (kY s) (ag fz eY))))) (aE.2 ⟨by grind[vo,hs],k.trans E⟩)
 have ao:(i.n==22)=false:=beq_eq_false_iff_ne.2 V;by_cases Y:i.n=23
 ·have aL:∀j:Int,(i.n==j)=(23==j):=λj=>al
  rw[Y];simp-implicitDefEqProofs(disch:=try exact aY)only[lG,ql,ub,Cl,reduceAdd,reduceLeDiff,reduceIte,bB,m,cP aQ,o U,aL,Int.reduceBEq,c3,hC,o6];refine bz (pf (h.aC (aw.push _ _)) (sb _ ba trivial i.a i.b i.c) g aW) λK p=> ?_
  exact aE.2 ⟨by grind[mP,hs],k.trans ((aw.push _ _).trans p)⟩
 have ap:(i.n==23)=false:=beq_eq_false_iff_ne.2 Y;by_cases aa:i.n=24
 ·have aL:∀j:Int,(i.n==j)=(24==j):=λj=>al
  rw[aa];simp-implicitDefEqProofs(disch:=try exact aY)only[lG,ql,ub,Cl,reduceAdd,reduceLeDiff,reduceIte,bB,m,cP aQ,o U,aL,Int.reduceBEq,c3,hC,o6];refine bz (pf (h.aC (aw.push _ _)) (sb _ ba trivial i.a i.b i.c) g aW) λK p=> ?_
  exact aE.2 ⟨by grind[mP,hs],k.trans ((aw.push _ _).trans p)⟩
 have ar:(i.n==24)=false:=beq_eq_false_iff_ne.2 aa;refine bb @lG.eq_1 @ql.eq_1 @ub.eq_1 @Cl.eq_1 @nY.eq_1 (ag (o U) (ag ad (ag af (ag ah (ag ai (ag aj (ag ak (ag am (ag an (ag ao (ag ap ar))))))))))) ?_;grind[aE,hs]
end
end
section
open Go.a2
set_option maxRecDepth 2000
section
variable {H:ae}{ok:Nat->Prop}{x:bq}{f:Nat}{c:bQ}{i:In}{a b cc d v w wi:af}
def Ez(t:cS):pw P 46 (c8 t) 2=A (D F t.d):=aG
theorem oK(c:bQ)(t:cS)(n:Int):fT c t [n]=decide (a7 c n≠bw/\a7 c n=t):=by
 grind[vo]
def h2{H:ae}{c:bQ}{v w:af}{zC:Nat}(h:H.get zC=A (.row I 7 [cL c v w])):aJ P H 3 (.ptr zC 0 0)=A (D F c.params)/\aJ P H 23 (.ptr zC 0 1)=A v/\aJ P H 4 (.ptr zC 0 2)=A (C c.has)/\aJ P H 47 (.ptr zC 0 6)=A w:=by
 rw[cL]at h;exact kP h
def rn{H:ae}{c:bQ}{v w:af}{zC:Nat}(h:H.get zC=A (.row I 7 [cL c v w])):aJ P H 46 (.ptr zC 0 3)=A (c8 c.res):=
 hA (n:=3) (i:=0) (c:=3) aG aG h rfl aa
theorem o8{H:ae}{c:bQ}{v w:af}{L:Nat}{r:List af}(h:H.get L=A (.row I 7 [r]))(a:v.one=J)(hw:w.one=J)(au:r.length=7:=by rfl):cz P H 49 (.ptr L 0 0) (.agg (cL c v w))=A (H.set L (.row I 7 [cL c v w])):=by
 rw[fb (n:=7) aG h rfl rfl (by simp[cL,af.cells,a,hw];simp[af.one]) b0];grind[cL,af.cells,gl,List.drop_of_length_le]
def aI.sV{l:List bQ}{v:af}(h:aI fO H ok l v){j:Int}{g:bQ}(a:0<=j)(b:l[j.toNat]? =A g):∃p gv gw,ct P 24 v (D F j)=A p/\(∀H',aw H H'->aJ P H' 49 p=A (.agg (cL g gv gw)))/\aI fc H ok g.vars gv/\aI fJ H ok g.ins gw:=by
 obtain⟨p,cs,c,d,gv,gw,rfl,bS,b2⟩:=h.zo (K:=fO) cG Tt a b;exact⟨p,gv,gw,c,d,bS,b2⟩
theorem akT{g:bQ}{gv gw:af}{zX zI G:Nat}(aQ:H.get zX=A (.row I 19 [cJ x f c i a b cc d v w wi]))(U:H.get zI=A (.row I 6 [[D F i.op,D F i.a,D F i.b,D F i.c,D F i.n,wi]]))(gd:H.get G=A (.row I 7 [cL g gv gw]))(h:ig H ok x c i a b cc d v w wi)(e:c.vars.length<=1000000000){N:Nat}:
  W (uh (aK P aD) N (.ptr zX 0 0) (.ptr zI 0 0) (.ptr G 0 0) H) λr H'=>r= C (i.a== -1||(g.has&&decide (a7 c i.a≠bw/\a7 c i.a=g.res)))/\aw H H':=by
 have j:=fU U;cases ah:(i.a== -1)with
 |true=>
  refine bT @uh.eq_1 (o U) ah ?_;grind[aE,aw.refl]
 |false=>
  cases ai:g.has with
  |false=>
   have l2:=h2 gd;rw[ai]at l2;refine cu @uh.eq_1 (o U) l2 ah ?_;grind[aE,aw.refl]
  |true=>
   have l2:=h2 gd;rw[ai]at l2;refine bb @uh.eq_1 (cP aQ) (o U) l2 (rn gd) (ag ah (ag @c3 @fq)) ?_;refine cY (mo (h.aC (aw.push _ _)) (t:=g.res) (l:=[i.a]) (hd _ ba trivial i.a) e aW) λK p=> ?_
   refine bM ?_;exact aE.2 ⟨by rw[oK];rfl,(aw.push _ _).trans p⟩
theorem T3{g:bQ}{gv gw:af}{zX zI G:Nat}(u:c.vars.length<=1000000000)(L:i.args.length<=g.vars.length)(z:g.vars.length<=1000000000){N:Nat}:∀(j k m:Nat) (H:ae),k+j=i.args.length->j<m->H.get zX=A (.row I 19 [cJ x f c i a b cc d v w wi])->H.get zI=A (.row I 6 [[D F i.op,D F i.a,D F i.b,D F i.c,D F i.n,wi]])->H.get G=A (.row I 7 [cL g gv gw])->ig H ok x c i a b cc d v w wi->aI fc H ok g.vars gv->
  W (xr (aK P aD) N m (.ptr zX 0 0) (.ptr zI 0 0) (.ptr G 0 0) wi (D F i.args.length) (D F k) H) λr H'=>r= C (lg c g (i.args.drop k) k&&(i.a== -1||(g.has&&decide (a7 c i.a≠bw/\a7 c i.a=g.res))))/\aw H H'
 |_,_,0,_,_,hm,_,_,_,_,_=>aa
 |0,k,m+1,H,E,_,aQ,U,gd,h,o=>by
  have V:¬(k:Int)<(i.args.length:Int):=aa;refine bF @xr.eq_2 @Co.eq_1 ?_;grind[lg,akT]
 |j+1,k,m+1,H,E,hm,aQ,U,gd,h,o=>by
  have M:k<i.args.length:=aa;have Y:k<g.vars.length:=aa;obtain⟨ad,Q,R⟩:=h.i1.int (j:=(k:Int)) (a:=i.args[k]) aa al;obtain⟨y,S,s⟩:=o.Ea (j:=(k:Int)) (t:=g.vars[k]) aa al;have on:=T3 (g:=g) (gv:=gv) (gw:=gw) (zX:=zX) (zI:=zI) (G:=G) u L z (N:=N) j (k+1) m;have B:g.vars[k]? =A g.vars[k]:=al;rw[List.drop_eq_getElem_cons M,lg,B];have pp:=aw.push H (.row I 1 [[D F i.args[k]]]);have l2:=h2 gd;have O:=h2 (pp.get gd);refine bb @xr.eq_2 @Co.eq_1 Q R (cP aQ) (ag l2 (ag S (ag (s _ (aw.refl _)) @c3))) ?_;refine bz (mo (h.aC pp) (t:=g.vars[k]) (l:=[i.args[k]]) (hd _ ba trivial i.args[k]) u aW) λK p=> ?_
  have q:=pp.trans p;refine ob (cP aQ) (cP (pp.get aQ)) l2 O (s _ (aw.refl _)) (ag (s _ pp) (ag (kY h) (ag (dD o) @eY))) ?_;have e:(decide (a7 c i.args[k]≠bw)&&decide (g.vars[k]=a7 c i.args[k]))=fT c g.vars[k] [i.args[k]]:=by
   grind[oK]
  rw[<-Bool.and_assoc,e];cases ab:fT c g.vars[k] [i.args[k]]with
  |false=>
   grind[aE]
  |true=>
   refine bM ?_;refine(on K aa aa (q.get aQ) (q.get U) (q.get gd) (h.aC q) (o.aC q)).mono ?_;rintro r T ⟨rfl,y⟩;exact⟨aW,q.trans y⟩
theorem akU(s:ig H ok x c i a b cc d v w wi)(M:c.vars.length<=1000000000)(N:∀g∈x.ax,g.vars.length<=1000000000):W (aK P aD 258 [.agg (cJ x f c i a b cc d v w wi)] H) λr H'=>r= C (mI x c i)/\aw H H':=by
 refine agh (i.args.length+1) ?_;have st:=qD (i:=i) (w:=wi) (ae.a1 (H.push (.row I 19 [cJ x f c i a b cc d v w wi])) (.row I 6 [[D F 0,D F 0,D F 0,D F 0,D F 0,.aq]])) s.i1.one;simp only[kT]at st;have q:aw H ((H.push (.row I 19 [cJ x f c i a b cc d v w wi])).push (.row I 6 [cf i wi])):=(aw.push _ _).trans (aw.push _ _);have aQ:((H.push (.row I 19 [cJ x f c i a b cc d v w wi])).push (.row I 6 [cf i wi])).get H.next=A (.row I 19 [cJ x f c i a b cc d v w wi]):=(aw.push _ _).get (ae.a1 _ _)
 have U:((H.push (.row I 19 [cJ x f c i a b cc d v w wi])).push (.row I 6 [cf i wi])).get (H.next+1)=A (.row I 6 [[D F i.op,D F i.a,D F i.b,D F i.c,D F i.n,wi]]):=ae.a1 _ _;have ab:=fU U;refine dd @Iu.eq_1 (iP s f) (Aq (ae.a1 H (.row I 19 [cJ x f c i a b cc d v w wi]))) st @ae.gD ?_;have e:=s.aC q;generalize ((H.push (.row I 19 [cJ x f c i a b cc d v w wi])).push (.row I 6 [cf i wi]))=H0 at*;have iD:=ae.bm aQ;have V:=ae.bm U;generalize H.next+1=zI at*
 generalize H.next=zX at*
 rw[mI];by_cases k:i.c<0
 ·refine bF (o U) k ?_;grind[aE,gz]
 by_cases bS:(x.ax.length:Int)<=i.c
 ·refine dd (o U) (g3 aQ) (e.ay.bf cG) k bS ?_;grind[aE,gz]
 have Q:i.c.toNat<x.ax.length:=aa;have aR:eR x.ax i.c=A x.ax[i.c.toNat]:=by grind[jW]
 obtain⟨p,gv,gw,u,y,m,K⟩:=e.ay.sV (j:=i.c) (g:=x.ax[i.c.toNat]) aa al;have O:=N _ (List.getElem_mem Q);rw[aR];generalize x.ax[i.c.toNat]=G at*;simp only[];have z:=o8 (c:=G) (v:=gv) (w:=gw) (ae.a1 H0 (.row I 7 [[D F 0,.aq,C I,D F 0,D F 0,D F 0,.aq]])) m.one K.one;have pp:=aw.push H0 (.row I 7 [cL G gv gw]);have gd:(H0.push (.row I 7 [cL G gv gw])).get H0.next=A (.row I 7 [cL G gv gw]):=ae.a1 _ _
 have L:=pp.get aQ;have B:=pp.get U;have t:=fU B;have l2:=h2 gd;have bad:¬(0<=G.params/\G.params<=G.vars.length/\(i.args.length:Int)=G.params)->(decide (0<=G.params/\G.params<=G.vars.length/\(i.args.length:Int)=G.params)&&(lg c G i.args 0&&(i.a== -1||G.has&&decide (a7 c i.a≠bw/\a7 c i.a=G.res))))=false:=λh=>al
 by_cases Y:(i.args.length:Int)=G.params
 ·have l:((i.args.length:Int) != G.params)=false:=al;by_cases E:(G.vars.length:Int)<G.params
  ·refine bb (o U) (g3 aQ) (e.ay.bf cG) (e.i1.bf bV) (m.bf cW) (ag k (ag bS (ag u (ag (y _ (aw.refl _)) (ag z (ag @ae.gD (ag t (ag l2 (ag l E))))))))) ?_;exact aE.2 ⟨al,q.trans pp⟩
  ·refine bb (o U) (g3 aQ) (e.ay.bf cG) (e.i1.bf bV) (m.bf cW) (ag k (ag bS (ag u (ag (y _ (aw.refl _)) (ag z (ag @ae.gD (ag t (ag l2 (ag l E))))))))) ?_;have R:decide (0<=G.params/\G.params<=G.vars.length/\(i.args.length:Int)=G.params)=true:=al;rw[R,Bool.true_and];refine(T3 (g:=G) M aa O i.args.length 0 (i.args.length+1) _ aa aa L B gd (e.aC pp) (m.aC pp)).mono ?_;rintro r T ⟨rfl,S⟩;exact⟨al,(q.trans pp).trans S⟩
 ·have l:((i.args.length:Int) != G.params)=true:=al;refine bb (o U) (g3 aQ) (e.ay.bf cG) (e.i1.bf bV) k (ag bS (ag u (ag (y _ (aw.refl _)) (ag z (ag @ae.gD (ag t (ag l2 l))))))) ?_;exact aE.2 ⟨al,q.trans pp⟩
def eH(x:bq)(f:Nat)(c:bQ)(i:In):Bool:=
 let a:=a7 c i.a
 let b:=a7 c i.b
 let d:=a7 c i.c
 match i.op with
 |1=>decide (a=di)||(decide (a=eG)&&(i.n==0||i.n==1))
 |2=>decide (a≠bw)&&kZ a
 |3=>decide (a≠bw/\a=b)
 |4=>hs i.n a b d
 |5=>(i.n==12&&decide (a=di/\b=di))||(i.n==13&&decide (a=eG/\b=eG))
 |6=>decide (a≠bw/\a=fh x b i.c)
 |7=>decide (b≠bw/\b=fh x a i.c)
 |8=>decide (a≠bw/\0<b.d/\d=di/\a=less b)
 |9=>decide (d≠bw/\0<a.d/\b=di/\d=less a)
 |10=>decide (a=di/\0<b.d)
 |11=>decide (a≠bw/\a.b=3/\a.d=0)&&je x f i.n a
 |12=>decide (0<a.d/\b=di)&&je x f i.n a
 |13=>mI x c i
 |14=>decide (a=di)
 |15=>decide (a=di)
 |16=>within i.n c.ins.length
 |17=>decide (a=eG)&&(within i.n c.ins.length&&within i.c c.ins.length)
 |18=>bif c.has then decide (a≠bw/\a=c.res)else i.a== -1
 |19=>decide (a≠bw)&&decide (eR x.globals i.n=A a)
 |20=>decide (a≠bw)&&decide (eR x.globals i.n=A a)
 |_=>I
def ajl(x:bq)(f:Nat)(c:bQ)(i:In):dM x f c i=(named i&&eH x f c i):=rfl
theorem Ng(x:bq)(c:bQ)(n k:Int):z1 x c n k=(decide (a7 c k≠bw)&&decide (eR x.globals n=A (a7 c k))):=by
 grind[z1,oK]
theorem SS(x:bq)(f:Nat)(c:bQ)(n k:Int)(h:a7 c k≠bw):DY x f c n k=je x f n (a7 c k):=by
 grind[DY,je,oK]
theorem akW(s:ig H ok x c i a b cc d v w wi)(u:c.vars.length<=1000000000)(L:∀g∈x.ax,g.vars.length<=1000000000)(E:13<=i.op)(G:i.op<=20):W (aK P aD 249 [.agg (cJ x f c i a b cc d v w wi)] H) λr H'=>r= C (eH x f c i)/\aw H H':=by
 refine aga 0 ?_;have st:=qD (i:=i) (w:=wi) (ae.a1 (H.push (.row I 19 [cJ x f c i a b cc d v w wi])) (.row I 6 [[D F 0,D F 0,D F 0,D F 0,D F 0,.aq]])) s.i1.one;simp only[kT]at st;have h:aw H ((H.push (.row I 19 [cJ x f c i a b cc d v w wi])).push (.row I 6 [cf i wi])):=(aw.push _ _).trans (aw.push _ _);have aQ:((H.push (.row I 19 [cJ x f c i a b cc d v w wi])).push (.row I 6 [cf i wi])).get H.next=A (.row I 19 [cJ x f c i a b cc d v w wi]):=(aw.push _ _).get (ae.a1 _ _)
 have U:((H.push (.row I 19 [cJ x f c i a b cc d v w wi])).push (.row I 6 [cf i wi])).get (H.next+1)=A (.row I 6 [[D F i.op,D F i.a,D F i.b,D F i.c,D F i.n,wi]]):=ae.a1 _ _;have m:=fU U;refine dd @Ip.eq_1 (iP s f) (Aq (ae.a1 H (.row I 19 [cJ x f c i a b cc d v w wi]))) st @ae.gD ?_;have k:=s.aC h;generalize ((H.push (.row I 19 [cJ x f c i a b cc d v w wi])).push (.row I 6 [cf i wi]))=H0 at*;have iD:=ae.bm aQ;have ad:=ae.bm U;generalize H.next+1=zI at*
 generalize H.next=zX at*
 by_cases E:i.op=13
 ·have t:∀j:Int,(i.op==j)=(13==j):=λj=>al
  have e:eH x f c i=mI x c i:=by grind[eH]
  rw[e];clear e;simp-implicitDefEqProofs(disch:=try exact aY)only[nZ,me,reduceAdd,reduceLeDiff,reduceIte,bB,m,cP aQ,o U,ea,dX,d_,dY,dZ,fq,t,Int.reduceBEq,c3];refine bz (akU k u L) λK p=> ?_
  exact aE.2 ⟨rfl,h.trans p⟩
 by_cases S:i.op=14
 ·have t:∀j:Int,(i.op==j)=(14==j):=λj=>al
  have e:eH x f c i=decide (a7 c i.a=di):=by grind[eH]
  rw[e];clear e;simp-implicitDefEqProofs(disch:=try exact aY)only[nZ,me,reduceAdd,reduceLeDiff,reduceIte,bB,m,cP aQ,o U,ea,dX,d_,dY,dZ,fq,t,Int.reduceBEq,c3];refine bz (kx (k.aC (aw.push _ _)) (hd _ ba trivial i.a) u aW) λK p=> ?_
  exact aE.2 ⟨by rw[j5];simp,h.trans ((aw.push _ _).trans p)⟩
 by_cases T:i.op=15
 ·have t:∀j:Int,(i.op==j)=(15==j):=λj=>al
  have e:eH x f c i=decide (a7 c i.a=di):=by grind[eH]
  rw[e];clear e;simp-implicitDefEqProofs(disch:=try exact aY)only[nZ,me,reduceAdd,reduceLeDiff,reduceIte,bB,m,cP aQ,o U,ea,dX,d_,dY,dZ,fq,t,Int.reduceBEq,c3];refine bz (kx (k.aC (aw.push _ _)) (hd _ ba trivial i.a) u aW) λK p=> ?_
  exact aE.2 ⟨by rw[j5];simp,h.trans ((aw.push _ _).trans p)⟩
 by_cases V:i.op=16
 ·have t:∀j:Int,(i.op==j)=(16==j):=λj=>al
  have e:eH x f c i=within i.n c.ins.length:=by grind[eH]
  rw[e];clear e;simp-implicitDefEqProofs(disch:=try exact aY)only[nZ,me,reduceAdd,reduceLeDiff,reduceIte,bB,m,cP aQ,o U,ea,dX,d_,dY,dZ,fq,t,Int.reduceBEq,c3];refine bz (JL k i.n) λK p=> ?_
  exact aE.2 ⟨rfl,h.trans p⟩
 by_cases Y:i.op=17
 ·have t:∀j:Int,(i.op==j)=(17==j):=λj=>al
  have e:eH x f c i=(decide (a7 c i.a=eG)&&(within i.n c.ins.length&&within i.c c.ins.length)):=by grind[eH]
  rw[e];clear e;simp-implicitDefEqProofs(disch:=try exact aY)only[nZ,me,reduceAdd,reduceLeDiff,reduceIte,bB,m,cP aQ,o U,ea,dX,d_,dY,dZ,fq,t,Int.reduceBEq,c3];refine bz (pf (k.aC (aw.push _ _)) (hd _ ba trivial i.a) u aW) λK p=> ?_
  have q:=(aw.push H0 (.row I 1 [[D F i.a]])).trans p;have e:fT c eG [i.a]=decide (a7 c i.a=eG):=by rw[mP];simp
  rw[e];cases M:decide (a7 c i.a=eG)with
  |false=>
   refine bM ?_;exact aE.2 ⟨aW,h.trans q⟩
  |true=>
   refine bF (cP (q.get aQ)) (o (q.get U)) ?_;refine cY (JL (k.aC q) i.n) λQ N=> ?_
   have y:=q.trans N;cases hw:within i.n c.ins.length with
   |false=>
    refine bM ?_;exact aE.2 ⟨aW,h.trans y⟩
   |true=>
    refine bF (cP (y.get aQ)) (o (y.get U)) ?_;refine cY (JL (k.aC y) i.c) λR O=> ?_
    refine bM ?_;exact aE.2 ⟨aW,h.trans (y.trans O)⟩
 by_cases aa:i.op=18
 ·have t:∀j:Int,(i.op==j)=(18==j):=λj=>al
  have e:eH x f c i=bif c.has then decide (a7 c i.a≠bw/\a7 c i.a=c.res)else i.a== -1:=by grind[eH]
  rw[e];clear e;cases z:c.has with
  |true=>
   have lv:=g3 aQ;rw[z]at lv;simp-implicitDefEqProofs(disch:=try exact aY)only[nZ,me,reduceAdd,reduceLeDiff,reduceIte,bB,m,cP aQ,o U,ea,dX,d_,dY,dZ,fq,t,Int.reduceBEq,c3,lv,abN aQ];refine cY (mo (k.aC (aw.push _ _)) (t:=c.res) (l:=[i.a]) (hd _ ba trivial i.a) u aW) λK p=> ?_
   have q:=(aw.push H0 (.row I 1 [[D F i.a]])).trans p;have B:=g3 (q.get aQ);rw[z]at B;rw[<-oK];cases M:fT c c.res [i.a]with
   |true=>
    refine bM ?_;exact aE.2 ⟨rfl,h.trans q⟩
   |false=>
    refine bK B ?_;exact aE.2 ⟨rfl,h.trans q⟩
  |false=>
   have lv:=g3 aQ;rw[z]at lv;simp-implicitDefEqProofs(disch:=try exact aY)only[nZ,me,reduceAdd,reduceLeDiff,reduceIte,bB,m,cP aQ,o U,ea,dX,d_,dY,dZ,fq,t,Int.reduceBEq,c3,lv,Bool.not_false];grind[aE]
 by_cases ab:i.op=19
 ·have t:∀j:Int,(i.op==j)=(19==j):=λj=>al
  have e:eH x f c i=(decide (a7 c i.a≠bw)&&decide (eR x.globals i.n=A (a7 c i.a))):=by grind[eH]
  rw[e];clear e;simp-implicitDefEqProofs(disch:=try exact aY)only[nZ,me,reduceAdd,reduceLeDiff,reduceIte,bB,m,cP aQ,o U,ea,dX,d_,dY,dZ,fq,t,Int.reduceBEq,c3];refine bz (T5 k i.n i.a u) λK p=> ?_
  exact aE.2 ⟨by rw[Ng],h.trans p⟩
 by_cases G:i.op=20
 ·have t:∀j:Int,(i.op==j)=(20==j):=λj=>al
  have e:eH x f c i=(decide (a7 c i.a≠bw)&&decide (eR x.globals i.n=A (a7 c i.a))):=by grind[eH]
  rw[e];clear e;simp-implicitDefEqProofs(disch:=try exact aY)only[nZ,me,reduceAdd,reduceLeDiff,reduceIte,bB,m,cP aQ,o U,ea,dX,d_,dY,dZ,fq,t,Int.reduceBEq,c3];refine bz (T5 k i.n i.a u) λK p=> ?_
  exact aE.2 ⟨by rw[Ng],h.trans p⟩
 omega
theorem akV(s:ig H ok x c i a b cc d v w wi)(q:c.vars.length<=1000000000)(aB:∀g∈x.ax,g.vars.length<=1000000000)(aj:∀v,(a7 c v).d<=1000)(ah:1<=i.op)(aA:i.op<=20):W (aK P aD 218 [.agg (cJ x f c i a b cc d v w wi)] H) λr H'=>r= C (eH x f c i)/\aw H H':=by
 refine afR 0 ?_;have st:=qD (i:=i) (w:=wi) (ae.a1 (H.push (.row I 19 [cJ x f c i a b cc d v w wi])) (.row I 6 [[D F 0,D F 0,D F 0,D F 0,D F 0,.aq]])) s.i1.one;simp only[kT]at st;have k:aw H ((H.push (.row I 19 [cJ x f c i a b cc d v w wi])).push (.row I 6 [cf i wi])):=(aw.push _ _).trans (aw.push _ _);have aQ:((H.push (.row I 19 [cJ x f c i a b cc d v w wi])).push (.row I 6 [cf i wi])).get H.next=A (.row I 19 [cJ x f c i a b cc d v w wi]):=(aw.push _ _).get (ae.a1 _ _)
 have U:((H.push (.row I 19 [cJ x f c i a b cc d v w wi])).push (.row I 6 [cf i wi])).get (H.next+1)=A (.row I 6 [[D F i.op,D F i.a,D F i.b,D F i.c,D F i.n,wi]]):=ae.a1 _ _;have B:=fU U;refine dd @H4.eq_1 (iP s f) (Aq (ae.a1 H (.row I 19 [cJ x f c i a b cc d v w wi]))) st @ae.gD ?_;have m:=s.aC k;generalize ((H.push (.row I 19 [cJ x f c i a b cc d v w wi])).push (.row I 6 [cf i wi]))=H0 at*;have iD:=ae.bm aQ;have a0:=ae.bm U;generalize H.next+1=zI at*
 generalize H.next=zX at*
 by_cases ah:i.op=1
 ·have t:∀j:Int,(i.op==j)=(1==j):=λj=>by rw[ah]
  have e:eH x f c i=(decide (a7 c i.a=di)||(decide (a7 c i.a=eG)&&(i.n==0||i.n==1))):=by simp only[eH,ah]
  rw[e];clear e;simp-implicitDefEqProofs(disch:=try exact aY)only[reduceAdd,reduceLeDiff,reduceIte,bB,B,cP aQ,o U,ea,dX,d_,dY,dZ,fq,t,Int.reduceBEq,c3,hC];refine bz (kx (m.aC (aw.push _ _)) (hd _ ba trivial i.a) q aW) λK p=> ?_
  have y:=(aw.push H0 (.row I 1 [[D F i.a]])).trans p;have e:fT c di [i.a]=decide (a7 c i.a=di):=by rw[j5];simp
  rw[e];cases M:decide (a7 c i.a=di)with
  |true=>
   refine bM ?_;exact aE.2 ⟨aW,k.trans y⟩
  |false=>
   refine cu (cP (y.get aQ)) (o (y.get U)) @c3 @fq ?_;refine cY (pf ((m.aC y).aC (aw.push _ _)) (hd _ ba trivial i.a) q aW) λG z=> ?_
   have E:=y.trans ((aw.push _ _).trans z);have e:fT c eG [i.a]=decide (a7 c i.a=eG):=by rw[mP];simp
   rw[e];cases hw:decide (a7 c i.a=eG)with
   |false=>
    refine bM ?_;exact aE.2 ⟨aW,k.trans E⟩
   |true=>
    cases dL:(i.n==0)with
    |true=>
     refine bF (o (E.get U)) dL ?_;exact aE.2 ⟨aW,k.trans E⟩
    |false=>
     refine bF (o (E.get U)) dL ?_;exact aE.2 ⟨aW,k.trans E⟩
 have aH:(i.op==1)=false:=beq_eq_false_iff_ne.2 ah;by_cases ai:i.op=2
 ·have t:∀j:Int,(i.op==j)=(2==j):=λj=>by rw[ai]
  have e:eH x f c i=(decide (a7 c i.a≠bw)&&kZ (a7 c i.a)):=by simp only[eH,ai]
  rw[e];clear e;simp-implicitDefEqProofs(disch:=try exact aY)only[reduceAdd,reduceLeDiff,reduceIte,bB,B,cP aQ,o U,ea,dX,d_,dY,dZ,fq,t,Int.reduceBEq,c3,hC];refine bz (oc m i.a q) λK p=> ?_
  refine cB (FA (a7 c i.a)) ?_;rintro _ G ⟨rfl,z⟩;refine⟨z.1,aE.2 ⟨?_,k.trans (p.trans z)⟩⟩;by_cases h:a7 c i.a=bw
  ·rw[h];rfl
  grind
 have aN:(i.op==2)=false:=beq_eq_false_iff_ne.2 ai;by_cases ay:i.op=3
 ·have t:∀j:Int,(i.op==j)=(3==j):=λj=>by rw[ay]
  have e:eH x f c i=decide (a7 c i.a≠bw/\a7 c i.a=a7 c i.b):=by simp only[eH,ay]
  rw[e];clear e;simp-implicitDefEqProofs(disch:=try exact aY)only[reduceAdd,reduceLeDiff,reduceIte,bB,B,cP aQ,o U,ea,dX,d_,dY,dZ,fq,t,Int.reduceBEq,c3,hC];refine bz (oc m i.a q) λK p=> ?_
  refine bT (cP (p.get aQ)) (o (p.get U)) @c3 ?_;refine bz (mo ((m.aC p).aC (aw.push _ _)) (t:=a7 c i.a) (l:=[i.b]) (hd _ ba trivial i.b) q aW) λG z=> ?_
  have E:=p.trans ((aw.push _ _).trans z);simp-implicitDefEqProofs(disch:=try exact aY)only[reduceAdd,reduceLeDiff,reduceIte,bB,cP aQ,cP (p.get aQ),cP (((aw.push K _).get (p.get aQ))),cP (E.get aQ),o U,o (p.get U),kY m,fz,Bool.and_self];refine aE.2 ⟨?_,k.trans E⟩;rw[vo];by_cases h:a7 c i.a=a7 c i.b
  ·simp[h]
  grind
 have aO:(i.op==3)=false:=beq_eq_false_iff_ne.2 ay;by_cases aM:i.op=4
 ·have t:∀j:Int,(i.op==j)=(4==j):=λj=>by rw[aM]
  have e:eH x f c i=hs i.n (a7 c i.a) (a7 c i.b) (a7 c i.c):=by simp only[eH,aM]
  rw[e];clear e;simp-implicitDefEqProofs(disch:=try exact aY)only[reduceAdd,reduceLeDiff,reduceIte,bB,B,cP aQ,o U,ea,dX,d_,dY,dZ,fq,t,Int.reduceBEq,c3,hC];refine bz (ak2 m q) λK p=> ?_
  exact aE.2 ⟨rfl,k.trans p⟩
 have aP:(i.op==4)=false:=beq_eq_false_iff_ne.2 aM;by_cases R:i.op=5
 ·have t:∀j:Int,(i.op==j)=(5==j):=λj=>by rw[R]
  have e:eH x f c i=((i.n==12&&decide (a7 c i.a=di/\a7 c i.b=di))||(i.n==13&&decide (a7 c i.a=eG/\a7 c i.b=eG))):=by simp only[eH,R]
  rw[e];clear e;cases dL:(i.n==12)with
  |true=>
   have cX:(i.n==13)=false:=by
    grind
   simp-implicitDefEqProofs(disch:=try exact aY)only[reduceAdd,reduceLeDiff,reduceIte,bB,B,cP aQ,o U,ea,dX,d_,dY,dZ,fq,t,Int.reduceBEq,hC,dL];refine cY (kx (m.aC (aw.push _ _)) (DZ _ ba trivial i.a i.b) q aW) λK p=> ?_
   have y:=(aw.push H0 (.row I 1 [[D F i.a],[D F i.b]])).trans p;cases M:fT c di [i.a,i.b]with
   |true=>
    refine bM ?_;exact aE.2 ⟨by grind[j5],k.trans y⟩
   |false=>
    refine JC (o (y.get U)) cX ?_;refine aE.2 ⟨?_,k.trans y⟩;grind[j5]
  |false=>
   cases cX:(i.n==13)with
   |false=>
    simp-implicitDefEqProofs(disch:=try exact aY)only[reduceAdd,reduceLeDiff,reduceIte,bB,B,cP aQ,o U,ea,dX,d_,dY,dZ,fq,t,Int.reduceBEq,dL,cX];grind[aE]
   |true=>
    simp-implicitDefEqProofs(disch:=try exact aY)only[reduceAdd,reduceLeDiff,reduceIte,bB,B,cP aQ,o U,ea,dX,d_,dY,dZ,fq,t,Int.reduceBEq,hC,dL,cX];refine cY (pf (m.aC (aw.push _ _)) (DZ _ ba trivial i.a i.b) q aW) λK p=> ?_
    refine bM ?_;refine aE.2 ⟨?_,k.trans ((aw.push _ _).trans p)⟩;rw[mP];simp
 have aR:(i.op==5)=false:=beq_eq_false_iff_ne.2 R;by_cases S:i.op=6
 ·have t:∀j:Int,(i.op==j)=(6==j):=λj=>by rw[S]
  have e:eH x f c i=decide (a7 c i.a≠bw/\a7 c i.a=fh x (a7 c i.b) i.c):=by simp only[eH,S]
  rw[e];clear e;simp-implicitDefEqProofs(disch:=try exact aY)only[reduceAdd,reduceLeDiff,reduceIte,bB,B,cP aQ,o U,ea,dX,d_,dY,dZ,fq,t,Int.reduceBEq,c3,hC];refine bz (T4 m i.b i.c i.a q) λK p=> ?_
  exact aE.2 ⟨by rw[oK],k.trans p⟩
 have aS:(i.op==6)=false:=beq_eq_false_iff_ne.2 S;by_cases T:i.op=7
 ·have t:∀j:Int,(i.op==j)=(7==j):=λj=>by rw[T]
  have e:eH x f c i=decide (a7 c i.b≠bw/\a7 c i.b=fh x (a7 c i.a) i.c):=by simp only[eH,T]
  rw[e];clear e;simp-implicitDefEqProofs(disch:=try exact aY)only[reduceAdd,reduceLeDiff,reduceIte,bB,B,cP aQ,o U,ea,dX,d_,dY,dZ,fq,t,Int.reduceBEq,c3,hC];refine bz (T4 m i.a i.c i.b q) λK p=> ?_
  exact aE.2 ⟨by rw[oK],k.trans p⟩
 have aT:(i.op==7)=false:=beq_eq_false_iff_ne.2 T;by_cases V:i.op=8
 ·have t:∀j:Int,(i.op==j)=(8==j):=λj=>by rw[V]
  have e:eH x f c i=decide (a7 c i.a≠bw/\0<(a7 c i.b).d/\a7 c i.c=di/\a7 c i.a=less (a7 c i.b)):=by simp only[eH,V]
  rw[e];clear e;simp-implicitDefEqProofs(disch:=try exact aY)only[reduceAdd,reduceLeDiff,reduceIte,bB,B,cP aQ,o U,ea,dX,d_,dY,dZ,fq,t,Int.reduceBEq,c3,hC];refine bz (T0 m i.b i.a q (aj _)) λK p=> ?_
  rw[oK];by_cases L:0<(a7 c i.b).d
  ·by_cases ah:a7 c i.a≠bw/\a7 c i.a=less (a7 c i.b)
   ·rw[decide_eq_true L,decide_eq_true ah];refine cu (cP (p.get aQ)) (o (p.get U)) @c3 @fq ?_;refine cY (kx ((m.aC p).aC (aw.push _ _)) (hd _ ba trivial i.c) q aW) λG z=> ?_
    refine bM ?_;refine aE.2 ⟨?_,k.trans (p.trans ((aw.push _ _).trans z))⟩;grind[j5]
   ·rw[decide_eq_true L,decide_eq_false ah];refine bK @Bool.and_false ?_;refine aE.2 ⟨?_,k.trans p⟩;grind
  ·rw[decide_eq_false L];refine bK @Bool.false_and ?_;refine aE.2 ⟨?_,k.trans p⟩;grind
 have aU:(i.op==8)=false:=beq_eq_false_iff_ne.2 V;by_cases Y:i.op=9
 ·have t:∀j:Int,(i.op==j)=(9==j):=λj=>by rw[Y]
  have e:eH x f c i=decide (a7 c i.c≠bw/\0<(a7 c i.a).d/\a7 c i.b=di/\a7 c i.c=less (a7 c i.a)):=by simp only[eH,Y]
  rw[e];clear e;simp-implicitDefEqProofs(disch:=try exact aY)only[reduceAdd,reduceLeDiff,reduceIte,bB,B,cP aQ,o U,ea,dX,d_,dY,dZ,fq,t,Int.reduceBEq,c3,hC];refine bz (T0 m i.a i.c q (aj _)) λK p=> ?_
  rw[oK];by_cases L:0<(a7 c i.a).d
  ·by_cases ah:a7 c i.c≠bw/\a7 c i.c=less (a7 c i.a)
   ·rw[decide_eq_true L,decide_eq_true ah];refine cu (cP (p.get aQ)) (o (p.get U)) @c3 @fq ?_;refine cY (kx ((m.aC p).aC (aw.push _ _)) (hd _ ba trivial i.b) q aW) λG z=> ?_
    refine bM ?_;refine aE.2 ⟨?_,k.trans (p.trans ((aw.push _ _).trans z))⟩;grind[j5]
   ·rw[decide_eq_true L,decide_eq_false ah];refine bK @Bool.and_false ?_;refine aE.2 ⟨?_,k.trans p⟩;grind
  ·rw[decide_eq_false L];refine bK @Bool.false_and ?_;refine aE.2 ⟨?_,k.trans p⟩;grind
 have aV:(i.op==9)=false:=beq_eq_false_iff_ne.2 Y;by_cases ar:i.op=10
 ·have t:∀j:Int,(i.op==j)=(10==j):=λj=>al
  have e:eH x f c i=decide (a7 c i.a=di/\0<(a7 c i.b).d):=by grind[eH]
  rw[e];clear e;simp-implicitDefEqProofs(disch:=try exact aY)only[reduceAdd,reduceLeDiff,reduceIte,bB,B,cP aQ,o U,ea,dX,d_,dY,dZ,fq,t,Int.reduceBEq,c3,hC];refine bz (kx (m.aC (aw.push _ _)) (hd _ ba trivial i.a) q aW) λK p=> ?_
  have y:=(aw.push H0 (.row I 1 [[D F i.a]])).trans p;have e:fT c di [i.a]=decide (a7 c i.a=di):=by rw[j5];simp
  rw[e];by_cases M:a7 c i.a=di
  ·rw[decide_eq_true M];refine bF (cP (y.get aQ)) (o (y.get U)) ?_;refine cY (oc (m.aC y) i.b q) λG z=> ?_
   refine bK @Ez ?_;exact aE.2 ⟨al,k.trans (y.trans z)⟩
  ·rw[decide_eq_false M];refine bM ?_;exact aE.2 ⟨al,k.trans y⟩
 have aI:(i.op==10)=false:=beq_eq_false_iff_ne.2 ar;by_cases au:i.op=11
 ·have t:∀j:Int,(i.op==j)=(11==j):=λj=>al
  have e:eH x f c i=(decide (a7 c i.a≠bw/\(a7 c i.a).b=3/\(a7 c i.a).d=0)&&je x f i.n (a7 c i.a)):=by grind[eH]
  rw[e];clear e;simp-implicitDefEqProofs(disch:=try exact aY)only[reduceAdd,reduceLeDiff,reduceIte,bB,B,cP aQ,o U,ea,dX,d_,dY,dZ,fq,t,Int.reduceBEq,c3,hC];refine bz (oc m i.a q) λK p=> ?_
  have am:=SS x f c i.n i.a;generalize aF:a7 c i.a=ta at*;have y:aw H0 (K.push (.row I 3 [cj ta])):=p.trans (aw.push _ _);have Q:(K.push (.row I 3 [cj ta])).get K.next=A (.row I 3 [cj ta]):=ae.a1 _ _
  have ab:cz P (K.push (.row I 3 [[D F 0,D F 0,D F 0]])) 46 (.ptr K.next 0 0) (c8 ta)=A (K.push (.row I 3 [cj ta])):=by
   have:=D1 (t:=bw) (u:=ta) (ae.a1 K (.row I 3 [cj bw]));rw[ae.lD]at this;exact this
  have ap:=y.get aQ;have ao:=y.get U;cases O:(ta.b==3)with
  |false=>
   have ad:¬ta.b=3:=al;refine bT ab (j7 Q) O ?_;exact aE.2 ⟨al,k.trans y⟩
  |true=>
   have ad:ta.b=3:=al;cases af:(ta.d==0)with
   |false=>
    have an:¬ta.d=0:=al;refine cu ab (j7 Q) O af ?_;exact aE.2 ⟨al,k.trans y⟩
   |true=>
    have an:ta.d=0:=al;have ak:ta≠bw:=by rintro rfl;revert ad;decide
    refine bb ab (j7 Q) O af (cP ap) (o ao) ?_;refine cY (T8 (m.aC y) i.n i.a q) λG z=> ?_
    refine bM ?_;exact aE.2 ⟨al,k.trans (y.trans z)⟩
 have aJ:(i.op==11)=false:=beq_eq_false_iff_ne.2 au;by_cases av:i.op=12
 ·have t:∀j:Int,(i.op==j)=(12==j):=λj=>al
  have e:eH x f c i=(decide (0<(a7 c i.a).d/\a7 c i.b=di)&&je x f i.n (a7 c i.a)):=by grind[eH]
  rw[e];clear e;simp-implicitDefEqProofs(disch:=try exact aY)only[reduceAdd,reduceLeDiff,reduceIte,bB,B,cP aQ,o U,ea,dX,d_,dY,dZ,fq,t,Int.reduceBEq,c3,hC];refine bz (oc m i.a q) λK p=> ?_
  have am:=SS x f c i.n i.a;generalize aF:a7 c i.a=ta at*;by_cases N:0<ta.d
  ·have ak:ta≠bw:=by
    intro e;rw[e]at N;revert N;decide
   refine cu @Ez N (cP (p.get aQ)) (o (p.get U)) ?_;refine cY (T8 (m.aC p) i.n i.a q) λG z=> ?_
   have E:=p.trans z;rw[am ak];cases aZ:je x f i.n ta with
   |false=>
    refine bM ?_;exact aE.2 ⟨aW,k.trans E⟩
   |true=>
    refine cu (cP (E.get aQ)) (o (E.get U)) @c3 @fq ?_;refine cY (kx ((m.aC E).aC (aw.push _ _)) (hd _ ba trivial i.b) q aW) λaX aG=> ?_
    refine bM ?_;exact aE.2 ⟨by grind[j5],k.trans (E.trans ((aw.push _ _).trans aG))⟩
  ·refine bF @Ez N ?_;exact aE.2 ⟨al,k.trans p⟩
 have aL:(i.op==12)=false:=beq_eq_false_iff_ne.2 av;refine bb B (cP aQ) aH aN aO (ag aP (ag aR (ag aS (ag aT (ag aU (ag aV (ag aI (ag aJ aL)))))))) ?_;refine bz (akW m q aB aa aA) λK p=> ?_
 exact aE.2 ⟨rfl,k.trans p⟩
