/-
  Texts of one proof, laid together: Og Oh Oi.
-/
import Derived.Test.YtmhhnnklfcbgfaaGreatML
set_option linter.unusedVariables false
set_option linter.unusedSimpArgs false
set_option linter.defProp false
open Option renaming some→D
open Bool renaming true→C,false→Z
open Go.bo.aa renaming int→J,bool→y
open Go.IntKind renaming i64→X
namespace Go.Proofs.YtmhhnnklfcbgfaaGreat
open Go.bo
section
open Go.bp
section
variable {H:ad}{ok:Nat->Prop}{x:bQ}{f:Nat}{c:b3}{i:In}{a b cc d v w wi:aa}
def yS(t:cz):lP P 46 (cX t) 2=D (J X t.d):=ag
def k5(c:b3)(t:cz)(n:Int):ev c t [n]=decide (a1 c n≠bt/\a1 c n=t):=by
 rw[sO];by_cases h:a1 c n=t
 ·simp[h]
 ·simp[h]
def gj{H:ad}{c:b3}{v w:aa}{zC:Nat}(h:H.get zC=D (.row Z 7 [ct c v w])):aj P H 3 (.ptr zC 0 0)=D (J X c.params)/\aj P H 23 (.ptr zC 0 1)=D v/\aj P H 4 (.ptr zC 0 2)=D (y c.has)/\aj P H 47 (.ptr zC 0 6)=D w:=by
 rw[ct]at h;simp-implicitDefEqProofs(disch:=try exact al)only[bM,h]
def oe{H:ad}{c:b3}{v w:aa}{zC:Nat}(h:H.get zC=D (.row Z 7 [ct c v w])):aj P H 46 (.ptr zC 0 3)=D (cX c.res):=
 fY (n:=3) (i:=0) (c:=3) ag ag h rfl (by exact Nat.le_add_left 6 1)
def nK{H:ad}{c:b3}{v w:aa}{L:Nat}{r:List aa}(h:H.get L=D (.row Z 7 [r]))(b:v.one=C)(hw:w.one=C)(a:r.length=7:=by rfl):bA P H 49 (.ptr L 0 0) (.agg (ct c v w))=D (H.set L (.row Z 7 [ct c v w])):=by
 rw[fN (n:=7) ag h rfl rfl (by simp[ct,aa.cells,b,hw];simp[aa.one]) b_];simp[ct,aa.cells,eI,List.drop_of_length_le (Nat.le_of_eq a)]
def aZ.pP{l:List b3}{v:aa}(h:aZ fr H ok l v){j:Int}{g:b3}(a:0<=j)(b:l[j.toNat]? =D g):∃p gv gw,a6 P 24 v (J X j)=D p/\(∀H',ay H H'->aj P H' 49 p=D (.agg (ct g gv gw)))/\aZ ei H ok g.vars gv/\aZ e7 H ok g.ins gw:=by
 obtain⟨p,cs,c,d,gv,gw,rfl,b8,cg⟩:=h.vy (K:=fr) c0 IL a b;exact⟨p,gv,gw,c,d,b8,cg⟩
def abm{g:b3}{gv gw:aa}{zX I G:Nat}(aT:H.get zX=D (.row Z 19 [cl x f c i a b cc d v w wi]))(aQ:H.get I=D (.row Z 6 [[J X i.op,J X i.a,J X i.b,J X i.c,J X i.n,wi]]))(ez:H.get G=D (.row Z 7 [ct g gv gw]))(j:gb H ok x c i a b cc d v w wi)(h:c.vars.length<=1000000000){N:Nat}:
  W (lA (aC P ax) N (.ptr zX 0 0) (.ptr I 0 0) (.ptr G 0 0) H) λr H'=>r= y (i.a== -1||(g.has&&decide (a1 c i.a≠bt/\a1 c i.a=g.res)))/\ay H H':=by
 have k:=eP aQ;cases ae:(i.a== -1)with
 |true=>
  simp-implicitDefEqProofs(disch:=try exact al)only[lA,aq,aO,aG,aM,bg aQ,ae];exact aK.2 ⟨rfl,ay.refl _⟩
 |false=>
  cases ah:g.has with
  |false=>
   have e:=gj ez;rw[ah]at e;simp-implicitDefEqProofs(disch:=try exact al)only[lA,aq,aO,aG,aM,bg aQ,e,ae];exact aK.2 ⟨rfl,ay.refl _⟩
  |true=>
   have e:=gj ez;rw[ah]at e;simp-implicitDefEqProofs(disch:=try exact al)only[lA,aq,aO,aG,aM,cG aT,bg aQ,e,oe ez,ae,eW,hV];refine cE (jo (j.aI (ay.push _ _)) (t:=g.res) (l:=[i.a]) (fU _ bH trivial i.a) h (by simp)) ?_;rintro _ K ⟨rfl,p⟩;refine⟨p.1,?_⟩;simp-implicitDefEqProofs(disch:=try exact al)only[aq];exact aK.2 ⟨by rw[k5];rfl,(ay.push _ _).trans p⟩
def Jd{g:b3}{gv gw:aa}{zX I G:Nat}(u:c.vars.length<=1000000000)(S:i.args.length<=g.vars.length)(O:g.vars.length<=1000000000){N:Nat}:∀(j k m:Nat) (H:ad),k+j=i.args.length->j<m->H.get zX=D (.row Z 19 [cl x f c i a b cc d v w wi])->H.get I=D (.row Z 6 [[J X i.op,J X i.a,J X i.b,J X i.c,J X i.n,wi]])->H.get G=D (.row Z 7 [ct g gv gw])->gb H ok x c i a b cc d v w wi->aZ ei H ok g.vars gv->
  W (nb (aC P ax) N m (.ptr zX 0 0) (.ptr I 0 0) (.ptr G 0 0) wi (J X i.args.length) (J X k) H) λr H'=>r= y (im c g (i.args.drop k) k&&(i.a== -1||(g.has&&decide (a1 c i.a≠bt/\a1 c i.a=g.res))))/\ay H H'
 |_,_,0,_,_,hm,_,_,_,_,_=>ai
 |0,k,m+1,H,R,_,aT,aQ,ez,o,s=>by
  have z:¬(k:Int)<(i.args.length:Int):=ai;simp-implicitDefEqProofs(disch:=try exact al)only[nb,uM,aq,aG,z,decide_false];rw[List.drop_of_length_le ai,im,Bool.true_and];exact abm aT aQ ez o u
 |j+1,k,m+1,H,R,hm,aT,aQ,ez,o,s=>by
  have z:(k:Int)<(i.args.length:Int):=ai;have E:k<i.args.length:=ai;have B:k<g.vars.length:=ai;obtain⟨af,U,V⟩:=o.i1.int (j:=(k:Int)) (a:=i.args[k]) ai (by simp[E]);obtain⟨M,Y,A⟩:=s.yA (j:=(k:Int)) (t:=g.vars[k]) ai (by simp[B]);have on:=Jd (g:=g) (gv:=gv) (gw:=gw) (zX:=zX) (I:=I) (G:=G) u S O (N:=N) j (k+1) m;have Q:g.vars[k]? =D g.vars[k]:=by simp[B]
  rw[List.drop_eq_getElem_cons E,im,Q];have pp:=ay.push H (.row Z 1 [[J X i.args[k]]]);have L:=gj ez;have T:=gj (pp.get ez);simp-implicitDefEqProofs(disch:=try exact al)only[nb,uM,aq,aO,aG,aM,z,decide_true,U,V,cG aT,L,Y,A _ (ay.refl _),eW];refine bk (jo (o.aI pp) (t:=g.vars[k]) (l:=[i.args[k]]) (fU _ bH trivial i.args[k]) u (by simp)) ?_;rintro _ K ⟨rfl,p⟩;refine⟨p.1,?_⟩;have q:=pp.trans p;simp-implicitDefEqProofs(disch:=try exact al)only[aq,aO,cG aT,cG (pp.get aT),L,T,A _ (ay.refl _),A _ pp,jZ o,eA s,br];have e:(decide (a1 c i.args[k]≠bt)&&decide (g.vars[k]=a1 c i.args[k]))=ev c g.vars[k] [i.args[k]]:=by
   rw[k5];by_cases h:a1 c i.args[k]=g.vars[k]
   ·simp[h]
   ·simp[h,eq_comm (a:=g.vars[k])]
  rw[<-Bool.and_assoc,e];cases ae:ev c g.vars[k] [i.args[k]]with
  |false=>
   simp-implicitDefEqProofs(disch:=try exact al)only[aq,Bool.not_false];exact aK.2 ⟨by simp,q⟩
  |true=>
   simp-implicitDefEqProofs(disch:=try exact al)only[aq,aG,Bool.not_true,c3 (show k<=1000000000 by omega)];refine(on K ai ai (q.get aT) (q.get aQ) (q.get ez) (o.aI q) (s.aI q)).mono ?_;rintro r ab ⟨rfl,M⟩;exact⟨by simp,q.trans M⟩
def abn(s:gb H ok x c i a b cc d v w wi)(Q:c.vars.length<=1000000000)(R:∀g∈x.o,g.vars.length<=1000000000):W (aC P ax 258 [.agg (cl x f c i a b cc d v w wi)] H) λr H'=>r= y (jE x c i)/\ay H H':=by
 refine bZ (λ_=>UH (i.args.length+1)) ?_;have st:=r4 (i:=i) (w:=wi) (ad.bq (H.push (.row Z 19 [cl x f c i a b cc d v w wi])) (.row Z 6 [[J X 0,J X 0,J X 0,J X 0,J X 0,.aB]])) s.i1.one;simp only[jc]at st;have l:ay H ((H.push (.row Z 19 [cl x f c i a b cc d v w wi])).push (.row Z 6 [cf i wi])):=(ay.push _ _).trans (ay.push _ _);have aT:((H.push (.row Z 19 [cl x f c i a b cc d v w wi])).push (.row Z 6 [cf i wi])).get H.next=D (.row Z 19 [cl x f c i a b cc d v w wi]):=(ay.push _ _).get (ad.bq _ _)
 have aQ:((H.push (.row Z 19 [cl x f c i a b cc d v w wi])).push (.row Z 6 [cf i wi])).get (H.next+1)=D (.row Z 6 [[J X i.op,J X i.a,J X i.b,J X i.c,J X i.n,wi]]):=ad.bq _ _;have ae:=eP aQ;simp-implicitDefEqProofs(disch:=try exact al)only[rr,Nat.reduceAdd,aq,aO,aM,ad.ds,gE s f,wJ (ad.bq H (.row Z 19 [cl x f c i a b cc d v w wi])),st,ad.fE];have e:=s.aI l;generalize ((H.push (.row Z 19 [cl x f c i a b cc d v w wi])).push (.row Z 6 [cf i wi]))=H0 at*;have ab:=ad.b6 aT;have aa:=ad.b6 aQ;generalize H.next+1=I at*
 generalize H.next=zX at*
 rw[jE];by_cases k:i.c<0
 ·simp-implicitDefEqProofs(disch:=try exact al)only[aq,aG,bg aQ,k,decide_true];exact aK.2 ⟨by rw[eL.2 (.inl k)],l⟩
 by_cases b8:(x.o.length:Int)<=i.c
 ·simp-implicitDefEqProofs(disch:=try exact al)only[aq,aO,aG,aM,bg aQ,fo aT,e.ak.len c0,k,b8,decide_true,decide_false];exact aK.2 ⟨by rw[eL.2 (.inr b8)],l⟩
 have t:i.c.toNat<x.o.length:=ai;have S:dE x.o i.c=D x.o[i.c.toNat]:=by rw[hj ai];simp[t]
 obtain⟨p,gv,gw,A,B,q,N⟩:=e.ak.pP (j:=i.c) (g:=x.o[i.c.toNat]) ai (by simp[t]);have T:=R _ (List.getElem_mem t);rw[S];generalize x.o[i.c.toNat]=G at*;simp only[];have E:=nK (c:=G) (v:=gv) (w:=gw) (ad.bq H0 (.row Z 7 [[J X 0,.aB,y Z,J X 0,J X 0,J X 0,.aB]])) q.one N.one;have pp:=ay.push H0 (.row Z 7 [ct G gv gw]);have ez:(H0.push (.row Z 7 [ct G gv gw])).get H0.next=D (.row Z 7 [ct G gv gw]):=ad.bq _ _
 have O:=pp.get aT;have K:=pp.get aQ;have z:=eP K;have u:=gj ez;have bad:¬(0<=G.params/\G.params<=G.vars.length/\(i.args.length:Int)=G.params)->(decide (0<=G.params/\G.params<=G.vars.length/\(i.args.length:Int)=G.params)&&(im c G i.args 0&&(i.a== -1||G.has&&decide (a1 c i.a≠bt/\a1 c i.a=G.res))))=false:=λh=>by rw[decide_eq_false h,Bool.false_and]
 by_cases M:(i.args.length:Int)=G.params
 ·have m:((i.args.length:Int) != G.params)=false:=by simp[M]
  by_cases L:(G.vars.length:Int)<G.params
  ·simp-implicitDefEqProofs(disch:=try exact al)only[bf,Nat.reduceAdd,aq,aO,aG,aM,bg aQ,fo aT,e.ak.len c0,e.i1.len cU,q.len dh,k,b8,A,B _ (ay.refl _),E,ad.fE,z,u,m,L,decide_true,decide_false];exact aK.2 ⟨by rw[bad ai],l.trans pp⟩
  ·simp-implicitDefEqProofs(disch:=try exact al)only[bf,Nat.reduceAdd,aq,aO,aG,aM,bg aQ,fo aT,e.ak.len c0,e.i1.len cU,q.len dh,k,b8,A,B _ (ay.refl _),E,ad.fE,z,u,m,L,decide_false];have U:decide (0<=G.params/\G.params<=G.vars.length/\(i.args.length:Int)=G.params)=true:=by simp;omega
   rw[U,Bool.true_and];refine(Jd (g:=G) Q ai T i.args.length 0 (i.args.length+1) _ ai ai O K ez (e.aI pp) (q.aI pp)).mono ?_;rintro r Y ⟨rfl,V⟩;exact⟨by rw[List.drop_zero],(l.trans pp).trans V⟩
 ·have m:((i.args.length:Int) != G.params)=true:=by simp[M]
  simp-implicitDefEqProofs(disch:=try exact al)only[bf,Nat.reduceAdd,aq,aO,aG,aM,bg aQ,fo aT,e.ak.len c0,e.i1.len cU,k,b8,A,B _ (ay.refl _),E,ad.fE,z,u,m,decide_false];exact aK.2 ⟨by rw[bad ai],l.trans pp⟩
def dJ(x:bQ)(f:Nat)(c:b3)(i:In):Bool:=
 let a:=a1 c i.a
 let b:=a1 c i.b
 let d:=a1 c i.c
 match i.op with
 |1=>decide (a=cN)||(decide (a=dI)&&(i.n==0||i.n==1))
 |2=>decide (a≠bt)&&h8 a
 |3=>decide (a≠bt/\a=b)
 |4=>fH i.n a b d
 |5=>(i.n==12&&decide (a=cN/\b=cN))||(i.n==13&&decide (a=dI/\b=dI))
 |6=>decide (a≠bt/\a=dW x b i.c)
 |7=>decide (b≠bt/\b=dW x a i.c)
 |8=>decide (a≠bt/\0<b.d/\d=cN/\a=less b)
 |9=>decide (d≠bt/\0<a.d/\b=cN/\d=less a)
 |10=>decide (a=cN/\0<b.d)
 |11=>decide (a≠bt/\a.b=3/\a.d=0)&&gO x f i.n a
 |12=>decide (0<a.d/\b=cN)&&gO x f i.n a
 |13=>jE x c i
 |14=>decide (a=cN)
 |15=>decide (a=cN)
 |16=>within i.n c.ins.length
 |17=>decide (a=dI)&&(within i.n c.ins.length&&within i.c c.ins.length)
 |18=>bif c.has then decide (a≠bt/\a=c.res)else i.a== -1
 |19=>decide (a≠bt)&&decide (dE x.globals i.n=D a)
 |20=>decide (a≠bt)&&decide (dE x.globals i.n=D a)
 |_=>Z
def Z8(x:bQ)(f:Nat)(c:b3)(i:In):dw x f c i=(named i&&dJ x f c i):=rfl
def Ea(x:bQ)(c:b3)(n k:Int):wa x c n k=(decide (a1 c k≠bt)&&decide (dE x.globals n=D (a1 c k))):=by
 rw[wa];cases h:dE x.globals n with
 |none=>simp
 |some t=>simp only[k5,bn];by_cases e:a1 c k=t<;>simp[e,eq_comm (a:=t)]
def Iq(x:bQ)(f:Nat)(c:b3)(n k:Int)(h:a1 c k≠bt):ym x f c n k=gO x f n (a1 c k):=by
 rw[ym,gO];cases dE x.sites n with
 |none=>rfl
 |some z=>
  simp only[k5];by_cases e:a1 c k=z.ty
  ·have ah:z.ty≠bt:=e▸h;simp[e,ah]
  ·simp[e,eq_comm (a:=z.ty)]
def abp(s:gb H ok x c i a b cc d v w wi)(u:c.vars.length<=1000000000)(U:∀g∈x.o,g.vars.length<=1000000000)(A:13<=i.op)(B:i.op<=20):W (aC P ax 249 [.agg (cl x f c i a b cc d v w wi)] H) λr H'=>r= y (dJ x f c i)/\ay H H':=by
 refine bZ (λ_=>UB 0) ?_;have st:=r4 (i:=i) (w:=wi) (ad.bq (H.push (.row Z 19 [cl x f c i a b cc d v w wi])) (.row Z 6 [[J X 0,J X 0,J X 0,J X 0,J X 0,.aB]])) s.i1.one;simp only[jc]at st;have h:ay H ((H.push (.row Z 19 [cl x f c i a b cc d v w wi])).push (.row Z 6 [cf i wi])):=(ay.push _ _).trans (ay.push _ _);have aT:((H.push (.row Z 19 [cl x f c i a b cc d v w wi])).push (.row Z 6 [cf i wi])).get H.next=D (.row Z 19 [cl x f c i a b cc d v w wi]):=(ay.push _ _).get (ad.bq _ _)
 have aQ:((H.push (.row Z 19 [cl x f c i a b cc d v w wi])).push (.row Z 6 [cf i wi])).get (H.next+1)=D (.row Z 6 [[J X i.op,J X i.a,J X i.b,J X i.c,J X i.n,wi]]):=ad.bq _ _;have m:=eP aQ;simp-implicitDefEqProofs(disch:=try exact al)only[rh,Nat.reduceAdd,aq,aO,aM,ad.ds,gE s f,wJ (ad.bq H (.row Z 19 [cl x f c i a b cc d v w wi])),st,ad.fE];have k:=s.aI h;generalize ((H.push (.row Z 19 [cl x f c i a b cc d v w wi])).push (.row Z 6 [cf i wi]))=H0 at*;have ae:=ad.b6 aT;have ab:=ad.b6 aQ;generalize H.next+1=I at*
 generalize H.next=zX at*
 by_cases A:i.op=13
 ·have t:∀j:Int,(i.op==j)=(13==j):=λj=>by rw[A]
  have e:dJ x f c i=jE x c i:=by simp only[dJ,A]
  rw[e];clear e;simp-implicitDefEqProofs(disch:=try exact al)only[aq,aG,m,cG aT,t,Int.reduceBEq];refine bk (abn k u U) ?_;rintro _ K ⟨rfl,p⟩;exact⟨p.1,aK.2 ⟨rfl,h.trans p⟩⟩
 by_cases G:i.op=14
 ·have t:∀j:Int,(i.op==j)=(14==j):=λj=>by rw[G]
  have e:dJ x f c i=decide (a1 c i.a=cN):=by simp only[dJ,G]
  rw[e];clear e;simp-implicitDefEqProofs(disch:=try exact al)only[iG,aq,aO,aG,aM,m,cG aT,bg aQ,t,Int.reduceBEq,eW];refine bk (hT (k.aI (ay.push _ _)) (fU _ bH trivial i.a) u (by simp)) ?_;rintro _ K ⟨rfl,p⟩;exact⟨p.1,aK.2 ⟨by rw[hq];simp,h.trans ((ay.push _ _).trans p)⟩⟩
 by_cases L:i.op=15
 ·have t:∀j:Int,(i.op==j)=(15==j):=λj=>by rw[L]
  have e:dJ x f c i=decide (a1 c i.a=cN):=by simp only[dJ,L]
  rw[e];clear e;simp-implicitDefEqProofs(disch:=try exact al)only[iG,aq,aO,aG,aM,m,cG aT,bg aQ,t,Int.reduceBEq,eW];refine bk (hT (k.aI (ay.push _ _)) (fU _ bH trivial i.a) u (by simp)) ?_;rintro _ K ⟨rfl,p⟩;exact⟨p.1,aK.2 ⟨by rw[hq];simp,h.trans ((ay.push _ _).trans p)⟩⟩
 by_cases M:i.op=16
 ·have t:∀j:Int,(i.op==j)=(16==j):=λj=>by rw[M]
  have e:dJ x f c i=within i.n c.ins.length:=by simp only[dJ,M]
  rw[e];clear e;simp-implicitDefEqProofs(disch:=try exact al)only[iG,aq,aO,aG,aM,m,cG aT,bg aQ,t,Int.reduceBEq];refine bk (BF k i.n) ?_;rintro _ K ⟨rfl,p⟩;exact⟨p.1,aK.2 ⟨rfl,h.trans p⟩⟩
 by_cases N:i.op=17
 ·have t:∀j:Int,(i.op==j)=(17==j):=λj=>by rw[N]
  have e:dJ x f c i=(decide (a1 c i.a=dI)&&(within i.n c.ins.length&&within i.c c.ins.length)):=by simp only[dJ,N]
  rw[e];clear e;simp-implicitDefEqProofs(disch:=try exact al)only[iG,aq,aO,aG,aM,m,cG aT,bg aQ,t,Int.reduceBEq,eW];refine bk (lH (k.aI (ay.push _ _)) (fU _ bH trivial i.a) u (by simp)) ?_;rintro _ K ⟨rfl,p⟩;refine⟨p.1,?_⟩;have q:=(ay.push H0 (.row Z 1 [[J X i.a]])).trans p;have e:ev c dI [i.a]=decide (a1 c i.a=dI):=by rw[iv];simp
  rw[e];cases V:decide (a1 c i.a=dI)with
  |false=>
   simp-implicitDefEqProofs(disch:=try exact al)only[aq];exact aK.2 ⟨by simp,h.trans q⟩
  |true=>
   simp-implicitDefEqProofs(disch:=try exact al)only[aq,aO,aM,cG (q.get aT),bg (q.get aQ)];refine cE (BF (k.aI q) i.n) ?_;rintro _ Y ⟨rfl,S⟩;refine⟨S.1,?_⟩;have z:=q.trans S;cases hw:within i.n c.ins.length with
   |false=>
    simp-implicitDefEqProofs(disch:=try exact al)only[aq];exact aK.2 ⟨by simp,h.trans z⟩
   |true=>
    simp-implicitDefEqProofs(disch:=try exact al)only[aq,aO,aM,cG (z.get aT),bg (z.get aQ)];refine cE (BF (k.aI z) i.c) ?_;rintro _ aa ⟨rfl,T⟩;refine⟨T.1,?_⟩;simp-implicitDefEqProofs(disch:=try exact al)only[aq];exact aK.2 ⟨by simp,h.trans (z.trans T)⟩
 by_cases O:i.op=18
 ·have t:∀j:Int,(i.op==j)=(18==j):=λj=>by rw[O]
  have e:dJ x f c i=bif c.has then decide (a1 c i.a≠bt/\a1 c i.a=c.res)else i.a== -1:=by simp only[dJ,O]
  rw[e];clear e;cases E:c.has with
  |true=>
   have lv:=fo aT;rw[E]at lv;simp-implicitDefEqProofs(disch:=try exact al)only[iG,Nat.reduceAdd,aq,aO,aG,aM,m,cG aT,bg aQ,hV,t,Int.reduceBEq,eW,lv,Pt aT];refine cE (jo (k.aI (ay.push _ _)) (t:=c.res) (l:=[i.a]) (fU _ bH trivial i.a) u (by simp)) ?_;rintro _ K ⟨rfl,p⟩;refine⟨p.1,?_⟩;have q:=(ay.push H0 (.row Z 1 [[J X i.a]])).trans p;have R:=fo (q.get aT);rw[E]at R;rw[<-k5];cases V:ev c c.res [i.a]with
   |true=>
    simp-implicitDefEqProofs(disch:=try exact al)only[aq];exact aK.2 ⟨rfl,h.trans q⟩
   |false=>
    simp-implicitDefEqProofs(disch:=try exact al)only[Nat.reduceAdd,aq,aO,aM,R,Bool.not_true];exact aK.2 ⟨rfl,h.trans q⟩
  |false=>
   have lv:=fo aT;rw[E]at lv;simp-implicitDefEqProofs(disch:=try exact al)only[iG,Nat.reduceAdd,aq,aO,aG,aM,m,bg aQ,t,Int.reduceBEq,lv,Bool.not_false];exact aK.2 ⟨rfl,h⟩
 by_cases Q:i.op=19
 ·have t:∀j:Int,(i.op==j)=(19==j):=λj=>by rw[Q]
  have e:dJ x f c i=(decide (a1 c i.a≠bt)&&decide (dE x.globals i.n=D (a1 c i.a))):=by simp only[dJ,Q]
  rw[e];clear e;simp-implicitDefEqProofs(disch:=try exact al)only[iG,m5,aq,aO,aG,aM,m,cG aT,bg aQ,t,Int.reduceBEq];refine bk (Jf k i.n i.a u) ?_;rintro _ K ⟨rfl,p⟩;exact⟨p.1,aK.2 ⟨by rw[Ea],h.trans p⟩⟩
 by_cases B:i.op=20
 ·have t:∀j:Int,(i.op==j)=(20==j):=λj=>by rw[B]
  have e:dJ x f c i=(decide (a1 c i.a≠bt)&&decide (dE x.globals i.n=D (a1 c i.a))):=by simp only[dJ,B]
  rw[e];clear e;simp-implicitDefEqProofs(disch:=try exact al)only[iG,m5,aq,aO,aG,aM,m,cG aT,bg aQ,t,Int.reduceBEq];refine bk (Jf k i.n i.a u) ?_;rintro _ K ⟨rfl,p⟩;exact⟨p.1,aK.2 ⟨by rw[Ea],h.trans p⟩⟩
 omega
def abo(s:gb H ok x c i a b cc d v w wi)(z:c.vars.length<=1000000000)(aA:∀g∈x.o,g.vars.length<=1000000000)(ap:∀v,(a1 c v).d<=1000)(ae:1<=i.op)(az:i.op<=20):W (aC P ax 218 [.agg (cl x f c i a b cc d v w wi)] H) λr H'=>r= y (dJ x f c i)/\ay H H':=by
 refine bZ (λ_=>Ui 0) ?_;have st:=r4 (i:=i) (w:=wi) (ad.bq (H.push (.row Z 19 [cl x f c i a b cc d v w wi])) (.row Z 6 [[J X 0,J X 0,J X 0,J X 0,J X 0,.aB]])) s.i1.one;simp only[jc]at st;have k:ay H ((H.push (.row Z 19 [cl x f c i a b cc d v w wi])).push (.row Z 6 [cf i wi])):=(ay.push _ _).trans (ay.push _ _);have aT:((H.push (.row Z 19 [cl x f c i a b cc d v w wi])).push (.row Z 6 [cf i wi])).get H.next=D (.row Z 19 [cl x f c i a b cc d v w wi]):=(ay.push _ _).get (ad.bq _ _)
 have aQ:((H.push (.row Z 19 [cl x f c i a b cc d v w wi])).push (.row Z 6 [cf i wi])).get (H.next+1)=D (.row Z 6 [[J X i.op,J X i.a,J X i.b,J X i.c,J X i.n,wi]]):=ad.bq _ _;have B:=eP aQ;simp-implicitDefEqProofs(disch:=try exact al)only[qW,Nat.reduceAdd,aq,aO,aM,ad.ds,gE s f,wJ (ad.bq H (.row Z 19 [cl x f c i a b cc d v w wi])),st,ad.fE];have q:=s.aI k;generalize ((H.push (.row Z 19 [cl x f c i a b cc d v w wi])).push (.row Z 6 [cf i wi]))=H0 at*;have a3:=ad.b6 aT;have a2:=ad.b6 aQ;generalize H.next+1=I at*
 generalize H.next=zX at*
 by_cases ae:i.op=1
 ·have t:∀j:Int,(i.op==j)=(1==j):=λj=>by rw[ae]
  have e:dJ x f c i=(decide (a1 c i.a=cN)||(decide (a1 c i.a=dI)&&(i.n==0||i.n==1))):=by simp only[dJ,ae]
  rw[e];clear e;simp-implicitDefEqProofs(disch:=try exact al)only[aq,aO,aG,aM,B,cG aT,bg aQ,t,Int.reduceBEq,eW];refine bk (hT (q.aI (ay.push _ _)) (fU _ bH trivial i.a) z (by simp)) ?_;rintro _ K ⟨rfl,p⟩;refine⟨p.1,?_⟩;have A:=(ay.push H0 (.row Z 1 [[J X i.a]])).trans p;have e:ev c cN [i.a]=decide (a1 c i.a=cN):=by rw[hq];simp
  rw[e];cases L:decide (a1 c i.a=cN)with
  |true=>
   simp-implicitDefEqProofs(disch:=try exact al)only[aq];exact aK.2 ⟨by simp,k.trans A⟩
  |false=>
   simp-implicitDefEqProofs(disch:=try exact al)only[aq,aO,aM,cG (A.get aT),bg (A.get aQ),eW,hV];refine cE (lH ((q.aI A).aI (ay.push _ _)) (fU _ bH trivial i.a) z (by simp)) ?_;rintro _ M ⟨rfl,m⟩;refine⟨m.1,?_⟩;have E:=A.trans ((ay.push _ _).trans m);have e:ev c dI [i.a]=decide (a1 c i.a=dI):=by rw[iv];simp
   rw[e];cases hw:decide (a1 c i.a=dI)with
   |false=>
    simp-implicitDefEqProofs(disch:=try exact al)only[aq];exact aK.2 ⟨by simp,k.trans E⟩
   |true=>
    cases dq:(i.n==0)with
    |true=>
     simp-implicitDefEqProofs(disch:=try exact al)only[aq,aO,aG,aM,bg (E.get aQ),dq];exact aK.2 ⟨by simp,k.trans E⟩
    |false=>
     simp-implicitDefEqProofs(disch:=try exact al)only[aq,aO,aG,aM,bg (E.get aQ),dq];exact aK.2 ⟨by simp,k.trans E⟩
 have aE:(i.op==1)=false:=beq_eq_false_iff_ne.2 ae;by_cases ah:i.op=2
 ·have t:∀j:Int,(i.op==j)=(2==j):=λj=>by rw[ah]
  have e:dJ x f c i=(decide (a1 c i.a≠bt)&&h8 (a1 c i.a)):=by simp only[dJ,ah]
  rw[e];clear e;simp-implicitDefEqProofs(disch:=try exact al)only[aq,aO,aG,aM,B,cG aT,bg aQ,t,Int.reduceBEq];refine bk (kP q i.a z) ?_;rintro _ K ⟨rfl,p⟩;refine⟨p.1,?_⟩;refine bk (zF (a1 c i.a)) ?_;rintro _ M ⟨rfl,m⟩;refine⟨m.1,aK.2 ⟨?_,k.trans (p.trans m)⟩⟩;by_cases h:a1 c i.a=bt
  ·rw[h];rfl
  ·rw[decide_eq_true h,Bool.true_and]
 have aN:(i.op==2)=false:=beq_eq_false_iff_ne.2 ah;by_cases ak:i.op=3
 ·have t:∀j:Int,(i.op==j)=(3==j):=λj=>by rw[ak]
  have e:dJ x f c i=decide (a1 c i.a≠bt/\a1 c i.a=a1 c i.b):=by simp only[dJ,ak]
  rw[e];clear e;simp-implicitDefEqProofs(disch:=try exact al)only[aq,aO,aG,aM,B,cG aT,bg aQ,t,Int.reduceBEq];refine bk (kP q i.a z) ?_;rintro _ K ⟨rfl,p⟩;refine⟨p.1,?_⟩;simp-implicitDefEqProofs(disch:=try exact al)only[aq,aO,aM,cG (p.get aT),bg (p.get aQ),eW];refine bk (jo ((q.aI p).aI (ay.push _ _)) (t:=a1 c i.a) (l:=[i.b]) (fU _ bH trivial i.b) z (by simp)) ?_;rintro _ M ⟨rfl,m⟩;refine⟨m.1,?_⟩;have E:=p.trans ((ay.push _ _).trans m);simp-implicitDefEqProofs(disch:=try exact al)only[aq,aO,cG aT,cG (p.get aT),cG (((ay.push K _).get (p.get aT))),bg aQ,bg (p.get aQ),jZ q];refine aK.2 ⟨?_,k.trans E⟩
  rw[sO];by_cases h:a1 c i.a=a1 c i.b
  ·simp[h]
  ·simp[h,eq_comm (a:=a1 c i.b)]
 have aP:(i.op==3)=false:=beq_eq_false_iff_ne.2 ak;by_cases au:i.op=4
 ·have t:∀j:Int,(i.op==j)=(4==j):=λj=>by rw[au]
  have e:dJ x f c i=fH i.n (a1 c i.a) (a1 c i.b) (a1 c i.c):=by simp only[dJ,au]
  rw[e];clear e;simp-implicitDefEqProofs(disch:=try exact al)only[aq,aG,B,cG aT,t,Int.reduceBEq];refine bk (abq q z) ?_;rintro _ K ⟨rfl,p⟩;exact⟨p.1,aK.2 ⟨rfl,k.trans p⟩⟩
 have aR:(i.op==4)=false:=beq_eq_false_iff_ne.2 au;by_cases ab:i.op=5
 ·have t:∀j:Int,(i.op==j)=(5==j):=λj=>by rw[ab]
  have e:dJ x f c i=((i.n==12&&decide (a1 c i.a=cN/\a1 c i.b=cN))||(i.n==13&&decide (a1 c i.a=dI/\a1 c i.b=dI))):=by simp only[dJ,ab]
  rw[e];clear e;cases dq:(i.n==12)with
  |true=>
   have cP:(i.n==13)=false:=by
    have h:i.n=12:=by simpa using dq
    rw[h];rfl
   simp-implicitDefEqProofs(disch:=try exact al)only[aq,aO,aG,aM,B,cG aT,bg aQ,hV,t,Int.reduceBEq,yn,dq];refine cE (hT (q.aI (ay.push _ _)) (yo _ bH trivial i.a i.b) z (by simp)) ?_;rintro _ K ⟨rfl,p⟩;refine⟨p.1,?_⟩;have A:=(ay.push H0 (.row Z 1 [[J X i.a],[J X i.b]])).trans p;cases L:ev c cN [i.a,i.b]with
   |true=>
    simp-implicitDefEqProofs(disch:=try exact al)only[aq];exact aK.2 ⟨by rw[hq]at L;simp at L;simp[L],k.trans A⟩
   |false=>
    simp-implicitDefEqProofs(disch:=try exact al)only[aq,aO,aG,aM,bg (A.get aQ),cP];refine aK.2 ⟨?_,k.trans A⟩;rw[hq]at L;have h:¬(a1 c i.a=cN/\a1 c i.b=cN):=λh=>by simp[h]at L
    rw[decide_eq_false h];rfl
  |false=>
   cases cP:(i.n==13)with
   |false=>
    simp-implicitDefEqProofs(disch:=try exact al)only[aq,aO,aG,aM,B,bg aQ,t,Int.reduceBEq,dq,cP];exact aK.2 ⟨by simp,k⟩
   |true=>
    simp-implicitDefEqProofs(disch:=try exact al)only[aq,aO,aG,aM,B,cG aT,bg aQ,hV,t,Int.reduceBEq,yn,dq,cP];refine cE (lH (q.aI (ay.push _ _)) (yo _ bH trivial i.a i.b) z (by simp)) ?_;rintro _ K ⟨rfl,p⟩;refine⟨p.1,?_⟩;simp-implicitDefEqProofs(disch:=try exact al)only[aq];refine aK.2 ⟨?_,k.trans ((ay.push _ _).trans p)⟩;rw[iv];simp
 have aU:(i.op==5)=false:=beq_eq_false_iff_ne.2 ab;by_cases af:i.op=6
 ·have t:∀j:Int,(i.op==j)=(6==j):=λj=>by rw[af]
  have e:dJ x f c i=decide (a1 c i.a≠bt/\a1 c i.a=dW x (a1 c i.b) i.c):=by simp only[dJ,af]
  rw[e];clear e;simp-implicitDefEqProofs(disch:=try exact al)only[aq,aO,aG,aM,B,cG aT,bg aQ,t,Int.reduceBEq];refine bk (Je q i.b i.c i.a z) ?_;rintro _ K ⟨rfl,p⟩;exact⟨p.1,aK.2 ⟨by rw[k5],k.trans p⟩⟩
 have aV:(i.op==6)=false:=beq_eq_false_iff_ne.2 af;by_cases ag:i.op=7
 ·have t:∀j:Int,(i.op==j)=(7==j):=λj=>by rw[ag]
  have e:dJ x f c i=decide (a1 c i.b≠bt/\a1 c i.b=dW x (a1 c i.a) i.c):=by simp only[dJ,ag]
  rw[e];clear e;simp-implicitDefEqProofs(disch:=try exact al)only[aq,aO,aG,aM,B,cG aT,bg aQ,t,Int.reduceBEq];refine bk (Je q i.a i.c i.b z) ?_;rintro _ K ⟨rfl,p⟩;exact⟨p.1,aK.2 ⟨by rw[k5],k.trans p⟩⟩
 have aW:(i.op==7)=false:=beq_eq_false_iff_ne.2 ag;by_cases aj:i.op=8
 ·have t:∀j:Int,(i.op==j)=(8==j):=λj=>by rw[aj]
  have e:dJ x f c i=decide (a1 c i.a≠bt/\0<(a1 c i.b).d/\a1 c i.c=cN/\a1 c i.a=less (a1 c i.b)):=by simp only[dJ,aj]
  rw[e];clear e;simp-implicitDefEqProofs(disch:=try exact al)only[aq,aO,aG,aM,B,cG aT,bg aQ,t,Int.reduceBEq];refine bk (Jb q i.b i.a z (ap _)) ?_;rintro _ K ⟨rfl,p⟩;refine⟨p.1,?_⟩;rw[k5];by_cases G:0<(a1 c i.b).d
  ·by_cases ae:a1 c i.a≠bt/\a1 c i.a=less (a1 c i.b)
   ·rw[decide_eq_true G,decide_eq_true ae];simp-implicitDefEqProofs(disch:=try exact al)only[aq,aO,aM,cG (p.get aT),bg (p.get aQ),eW,hV];refine cE (hT ((q.aI p).aI (ay.push _ _)) (fU _ bH trivial i.c) z (by simp)) ?_;rintro _ M ⟨rfl,m⟩;refine⟨m.1,?_⟩;simp-implicitDefEqProofs(disch:=try exact al)only[aq,aO];refine aK.2 ⟨?_,k.trans (p.trans ((ay.push _ _).trans m))⟩;have g:decide (a1 c i.a≠bt/\0<(a1 c i.b).d/\a1 c i.c=cN/\a1 c i.a=less (a1 c i.b))=decide (a1 c i.c=cN):=by
     by_cases aS:a1 c i.c=cN
     ·rw[decide_eq_true aS,decide_eq_true ⟨ae.1,G,aS,ae.2⟩]
     ·rw[decide_eq_false aS,decide_eq_false (λh=>aS h.2.2.1)]
    rw[hq,g];simp
   ·rw[decide_eq_true G,decide_eq_false ae];simp-implicitDefEqProofs(disch:=try exact al)only[aq,Bool.and_false];refine aK.2 ⟨?_,k.trans p⟩;rw[decide_eq_false];exactλh=>ae ⟨h.1,h.2.2.2⟩
  ·rw[decide_eq_false G];simp-implicitDefEqProofs(disch:=try exact al)only[aq,Bool.false_and];refine aK.2 ⟨?_,k.trans p⟩;rw[decide_eq_false];exactλh=>G h.2.1
 have aX:(i.op==8)=false:=beq_eq_false_iff_ne.2 aj;by_cases am:i.op=9
 ·have t:∀j:Int,(i.op==j)=(9==j):=λj=>by rw[am]
  have e:dJ x f c i=decide (a1 c i.c≠bt/\0<(a1 c i.a).d/\a1 c i.b=cN/\a1 c i.c=less (a1 c i.a)):=by simp only[dJ,am]
  rw[e];clear e;simp-implicitDefEqProofs(disch:=try exact al)only[aq,aO,aG,aM,B,cG aT,bg aQ,t,Int.reduceBEq];refine bk (Jb q i.a i.c z (ap _)) ?_;rintro _ K ⟨rfl,p⟩;refine⟨p.1,?_⟩;rw[k5];by_cases G:0<(a1 c i.a).d
  ·by_cases ae:a1 c i.c≠bt/\a1 c i.c=less (a1 c i.a)
   ·rw[decide_eq_true G,decide_eq_true ae];simp-implicitDefEqProofs(disch:=try exact al)only[aq,aO,aM,cG (p.get aT),bg (p.get aQ),eW,hV];refine cE (hT ((q.aI p).aI (ay.push _ _)) (fU _ bH trivial i.b) z (by simp)) ?_;rintro _ M ⟨rfl,m⟩;refine⟨m.1,?_⟩;simp-implicitDefEqProofs(disch:=try exact al)only[aq,aO];refine aK.2 ⟨?_,k.trans (p.trans ((ay.push _ _).trans m))⟩;have g:decide (a1 c i.c≠bt/\0<(a1 c i.a).d/\a1 c i.b=cN/\a1 c i.c=less (a1 c i.a))=decide (a1 c i.b=cN):=by
     by_cases aS:a1 c i.b=cN
     ·rw[decide_eq_true aS,decide_eq_true ⟨ae.1,G,aS,ae.2⟩]
     ·rw[decide_eq_false aS,decide_eq_false (λh=>aS h.2.2.1)]
    rw[hq,g];simp
   ·rw[decide_eq_true G,decide_eq_false ae];simp-implicitDefEqProofs(disch:=try exact al)only[aq,Bool.and_false];refine aK.2 ⟨?_,k.trans p⟩;rw[decide_eq_false];exactλh=>ae ⟨h.1,h.2.2.2⟩
  ·rw[decide_eq_false G];simp-implicitDefEqProofs(disch:=try exact al)only[aq,Bool.false_and];refine aK.2 ⟨?_,k.trans p⟩;rw[decide_eq_false];exactλh=>G h.2.1
 have aY:(i.op==9)=false:=beq_eq_false_iff_ne.2 am;by_cases V:i.op=10
 ·have t:∀j:Int,(i.op==j)=(10==j):=λj=>by rw[V]
  have e:dJ x f c i=decide (a1 c i.a=cN/\0<(a1 c i.b).d):=by simp only[dJ,V]
  rw[e];clear e;simp-implicitDefEqProofs(disch:=try exact al)only[aq,aO,aG,aM,B,cG aT,bg aQ,t,Int.reduceBEq,eW];refine bk (hT (q.aI (ay.push _ _)) (fU _ bH trivial i.a) z (by simp)) ?_;rintro _ K ⟨rfl,p⟩;refine⟨p.1,?_⟩;have A:=(ay.push H0 (.row Z 1 [[J X i.a]])).trans p;have e:ev c cN [i.a]=decide (a1 c i.a=cN):=by rw[hq];simp
  rw[e];by_cases L:a1 c i.a=cN
  ·rw[decide_eq_true L];simp-implicitDefEqProofs(disch:=try exact al)only[aq,aO,aM,cG (A.get aT),bg (A.get aQ)];refine cE (kP (q.aI A) i.b z) ?_;rintro _ M ⟨rfl,m⟩;refine⟨m.1,?_⟩;simp-implicitDefEqProofs(disch:=try exact al)only[aq,aG,yS];exact aK.2 ⟨by simp[L],k.trans (A.trans m)⟩
  ·rw[decide_eq_false L];simp-implicitDefEqProofs(disch:=try exact al)only[aq];exact aK.2 ⟨by simp[L],k.trans A⟩
 have aF:(i.op==10)=false:=beq_eq_false_iff_ne.2 V;by_cases Y:i.op=11
 ·have t:∀j:Int,(i.op==j)=(11==j):=λj=>by rw[Y]
  have e:dJ x f c i=(decide (a1 c i.a≠bt/\(a1 c i.a).b=3/\(a1 c i.a).d=0)&&gO x f i.n (a1 c i.a)):=by simp only[dJ,Y]
  rw[e];clear e;simp-implicitDefEqProofs(disch:=try exact al)only[aq,aO,aG,aM,B,cG aT,bg aQ,t,Int.reduceBEq];refine bk (kP q i.a z) ?_;rintro _ K ⟨rfl,p⟩;refine⟨p.1,?_⟩;have an:=Iq x f c i.n i.a;generalize aD:a1 c i.a=ta at*;have A:ay H0 (K.push (.row Z 3 [b7 ta])):=p.trans (ay.push _ _);have U:(K.push (.row Z 3 [b7 ta])).get K.next=D (.row Z 3 [b7 ta]):=ad.bq _ _
  have ao:bA P (K.push (.row Z 3 [[J X 0,J X 0,J X 0]])) 46 (.ptr K.next 0 0) (cX ta)=D (K.push (.row Z 3 [b7 ta])):=by
   have:=yq (t:=bt) (u:=ta) (ad.bq K (.row Z 3 [b7 bt]));rw[ad.jd]at this;exact this
  have aw:=A.get aT;have av:=A.get aQ;cases N:(ta.b==3)with
  |false=>
   have O:¬ta.b=3:=by simpa using N
   simp-implicitDefEqProofs(disch:=try exact al)only[Nat.reduceAdd,aq,aO,aG,aM,ao,b5 U,N];exact aK.2 ⟨by simp[O],k.trans A⟩
  |true=>
   have O:ta.b=3:=by simpa using N
   cases Q:(ta.d==0)with
   |false=>
    have T:¬ta.d=0:=by simpa using Q
    simp-implicitDefEqProofs(disch:=try exact al)only[Nat.reduceAdd,aq,aO,aG,aM,ao,b5 U,N,Q];exact aK.2 ⟨by simp[T],k.trans A⟩
   |true=>
    have T:ta.d=0:=by simpa using Q
    have R:ta≠bt:=by rintro rfl;revert O;decide
    simp-implicitDefEqProofs(disch:=try exact al)only[Nat.reduceAdd,aq,aO,aG,aM,ao,b5 U,N,Q,cG aw,bg av];refine cE (Ji (q.aI A) i.n i.a z) ?_;rintro _ M ⟨rfl,m⟩;refine⟨m.1,?_⟩;simp-implicitDefEqProofs(disch:=try exact al)only[aq];exact aK.2 ⟨by rw[an R];simp[R,O,T],k.trans (A.trans m)⟩
 have aH:(i.op==11)=false:=beq_eq_false_iff_ne.2 Y;by_cases aa:i.op=12
 ·have t:∀j:Int,(i.op==j)=(12==j):=λj=>by rw[aa]
  have e:dJ x f c i=(decide (0<(a1 c i.a).d/\a1 c i.b=cN)&&gO x f i.n (a1 c i.a)):=by simp only[dJ,aa]
  rw[e];clear e;simp-implicitDefEqProofs(disch:=try exact al)only[aq,aO,aG,aM,B,cG aT,bg aQ,t,Int.reduceBEq];refine bk (kP q i.a z) ?_;rintro _ K ⟨rfl,p⟩;refine⟨p.1,?_⟩;have an:=Iq x f c i.n i.a;generalize aD:a1 c i.a=ta at*;by_cases S:0<ta.d
  ·have R:ta≠bt:=by
    intro e;rw[e]at S;revert S;decide
   simp-implicitDefEqProofs(disch:=try exact al)only[aq,aO,aG,aM,yS,S,decide_true,cG (p.get aT),bg (p.get aQ)];refine cE (Ji (q.aI p) i.n i.a z) ?_;rintro _ M ⟨rfl,m⟩;refine⟨m.1,?_⟩;have E:=p.trans m;rw[an R];cases a0:gO x f i.n ta with
   |false=>
    simp-implicitDefEqProofs(disch:=try exact al)only[aq];exact aK.2 ⟨by simp,k.trans E⟩
   |true=>
    simp-implicitDefEqProofs(disch:=try exact al)only[aq,aO,aM,cG (E.get aT),bg (E.get aQ),eW,hV];refine cE (hT ((q.aI E).aI (ay.push _ _)) (fU _ bH trivial i.b) z (by simp)) ?_;rintro _ aZ ⟨rfl,ar⟩;refine⟨ar.1,?_⟩;simp-implicitDefEqProofs(disch:=try exact al)only[aq];exact aK.2 ⟨by rw[hq];simp[],k.trans (E.trans ((ay.push _ _).trans ar))⟩
  ·simp-implicitDefEqProofs(disch:=try exact al)only[aq,aG,yS,S,decide_false];exact aK.2 ⟨by simp[],k.trans p⟩
 have aL:(i.op==12)=false:=beq_eq_false_iff_ne.2 aa;simp-implicitDefEqProofs(disch:=try exact al)only[aq,aG,B,cG aT,aE,aN,aP,aR,aU,aV,aW,aX,aY,aF,aH,aL];refine bk (abp q z aA ai az) ?_;rintro _ K ⟨rfl,p⟩;exact⟨p.1,aK.2 ⟨rfl,k.trans p⟩⟩
end
end
section
open Go.bp
section
variable {H:ad}{ok:Nat->Prop}{x:bQ}{f:Nat}{c:b3}{i:In}{a b cc d v w wi:aa}
def db(h:aZ bu H ok i.args wi)(l:Nat):b0 l (.agg (cf i wi))=D (.ptr l 0 0,.row Z 6 [cf i wi]):=vG h i.op i.a i.b i.c i.n l
def e3{I:Nat}(h:H.get I=D (.row Z 6 [cf i wi])):aj P H 89 (.ptr I 0 0)=D (.agg (cf i wi)):=E0 h
def ht(n:Nat):((n:Int)==0)=(n==0):=by cases h:(n==0)<;>simp_all
def wZ(hw:aZ bu H ok i.args wi)(e:(i.op==13)=Z):W (aC P ax 240 [.agg (cf i wi),y C,y Z,y Z,y C] H) λr H'=>r= y ((i.b==0)&&((i.c==0)&&(i.args.length==0)))/\ay H H':=by
 refine bZ (λ_=>lf 0) ?_;have d:=ay.push H (.row Z 6 [cf i wi]);have aQ:(H.push (.row Z 6 [cf i wi])).get H.next=D (.row Z 6 [[J X i.op,J X i.a,J X i.b,J X i.c,J X i.n,wi]]):=ad.bq _ _
 have g:=eP aQ;cases ah:(i.b==0)with
 |false=>
  simp-implicitDefEqProofs(disch:=try exact al)only[ed,aq,aO,aG,aM,db hw,bg aQ,ah];exact aK.2 ⟨by simp,d⟩
 |true=>
  cases ak:(i.c==0)with
  |false=>
   simp-implicitDefEqProofs(disch:=try exact al)only[ed,aq,aO,aG,aM,db hw,bg aQ,ah,ak];exact aK.2 ⟨by simp,d⟩
  |true=>
   cases f:(i.args.length==0)with
   |false=>
    simp-implicitDefEqProofs(disch:=try exact al)only[ed,aq,aO,aG,aM,db hw,g,bg aQ,hw.len cU,ht,e,ah,ak,f];exact aK.2 ⟨by simp,d⟩
   |true=>
    simp-implicitDefEqProofs(disch:=try exact al)only[ed,aq,aO,aG,aM,db hw,g,bg aQ,hw.len cU,ht,e,ah,ak,f];exact aK.2 ⟨by simp,d⟩
def wY(hw:aZ bu H ok i.args wi)(e:(i.op==13)=Z):W (aC P ax 240 [.agg (cf i wi),y C,y Z,y Z,y Z] H) λr H'=>r= y ((i.b==0)&&((i.c==0)&&((i.n==0)&&(i.args.length==0))))/\ay H H':=by
 refine bZ (λ_=>lf 0) ?_;have d:=ay.push H (.row Z 6 [cf i wi]);have aQ:(H.push (.row Z 6 [cf i wi])).get H.next=D (.row Z 6 [[J X i.op,J X i.a,J X i.b,J X i.c,J X i.n,wi]]):=ad.bq _ _
 have g:=eP aQ;cases ah:(i.b==0)with
 |false=>
  simp-implicitDefEqProofs(disch:=try exact al)only[ed,aq,aO,aG,aM,db hw,bg aQ,ah];exact aK.2 ⟨by simp,d⟩
 |true=>
  cases ak:(i.c==0)with
  |false=>
   simp-implicitDefEqProofs(disch:=try exact al)only[ed,aq,aO,aG,aM,db hw,bg aQ,ah,ak];exact aK.2 ⟨by simp,d⟩
  |true=>
   cases au:(i.n==0)with
   |false=>
    simp-implicitDefEqProofs(disch:=try exact al)only[ed,aq,aO,aG,aM,db hw,bg aQ,ah,ak,au];exact aK.2 ⟨by simp,d⟩
   |true=>
    cases f:(i.args.length==0)with
    |false=>
     simp-implicitDefEqProofs(disch:=try exact al)only[ed,aq,aO,aG,aM,db hw,g,bg aQ,hw.len cU,ht,e,ah,ak,au,f];exact aK.2 ⟨by simp,d⟩
    |true=>
     simp-implicitDefEqProofs(disch:=try exact al)only[ed,aq,aO,aG,aM,db hw,g,bg aQ,hw.len cU,ht,e,ah,ak,au,f];exact aK.2 ⟨by simp,d⟩
def F2(hw:aZ bu H ok i.args wi)(e:(i.op==13)=Z):W (aC P ax 240 [.agg (cf i wi),y C,y C,y Z,y Z] H) λr H'=>r= y ((i.c==0)&&((i.n==0)&&(i.args.length==0)))/\ay H H':=by
 refine bZ (λ_=>lf 0) ?_;have d:=ay.push H (.row Z 6 [cf i wi]);have aQ:(H.push (.row Z 6 [cf i wi])).get H.next=D (.row Z 6 [[J X i.op,J X i.a,J X i.b,J X i.c,J X i.n,wi]]):=ad.bq _ _
 have g:=eP aQ;cases ak:(i.c==0)with
 |false=>
  simp-implicitDefEqProofs(disch:=try exact al)only[ed,aq,aO,aG,aM,db hw,bg aQ,ak];exact aK.2 ⟨by simp,d⟩
 |true=>
  cases au:(i.n==0)with
  |false=>
   simp-implicitDefEqProofs(disch:=try exact al)only[ed,aq,aO,aG,aM,db hw,bg aQ,ak,au];exact aK.2 ⟨by simp,d⟩
  |true=>
   cases f:(i.args.length==0)with
   |false=>
    simp-implicitDefEqProofs(disch:=try exact al)only[ed,aq,aO,aG,aM,db hw,g,bg aQ,hw.len cU,ht,e,ak,au,f];exact aK.2 ⟨by simp,d⟩
   |true=>
    simp-implicitDefEqProofs(disch:=try exact al)only[ed,aq,aO,aG,aM,db hw,g,bg aQ,hw.len cU,ht,e,ak,au,f];exact aK.2 ⟨by simp,d⟩
def F3(hw:aZ bu H ok i.args wi)(e:(i.op==13)=Z):W (aC P ax 240 [.agg (cf i wi),y C,y C,y Z,y C] H) λr H'=>r= y ((i.c==0)&&(i.args.length==0))/\ay H H':=by
 refine bZ (λ_=>lf 0) ?_;have d:=ay.push H (.row Z 6 [cf i wi]);have aQ:(H.push (.row Z 6 [cf i wi])).get H.next=D (.row Z 6 [[J X i.op,J X i.a,J X i.b,J X i.c,J X i.n,wi]]):=ad.bq _ _
 have g:=eP aQ;cases ak:(i.c==0)with
 |false=>
  simp-implicitDefEqProofs(disch:=try exact al)only[ed,aq,aO,aG,aM,db hw,bg aQ,ak];exact aK.2 ⟨by simp,d⟩
 |true=>
  cases f:(i.args.length==0)with
  |false=>
   simp-implicitDefEqProofs(disch:=try exact al)only[ed,aq,aO,aG,aM,db hw,g,bg aQ,hw.len cU,ht,e,ak,f];exact aK.2 ⟨by simp,d⟩
  |true=>
   simp-implicitDefEqProofs(disch:=try exact al)only[ed,aq,aO,aG,aM,db hw,g,bg aQ,hw.len cU,ht,e,ak,f];exact aK.2 ⟨by simp,d⟩
def w1(hw:aZ bu H ok i.args wi)(e:(i.op==13)=Z):W (aC P ax 240 [.agg (cf i wi),y C,y C,y C,y Z] H) λr H'=>r= y ((i.n==0)&&(i.args.length==0))/\ay H H':=by
 refine bZ (λ_=>lf 0) ?_;have d:=ay.push H (.row Z 6 [cf i wi]);have aQ:(H.push (.row Z 6 [cf i wi])).get H.next=D (.row Z 6 [[J X i.op,J X i.a,J X i.b,J X i.c,J X i.n,wi]]):=ad.bq _ _
 have g:=eP aQ;cases au:(i.n==0)with
 |false=>
  simp-implicitDefEqProofs(disch:=try exact al)only[ed,aq,aO,aG,aM,db hw,bg aQ,au];exact aK.2 ⟨by simp,d⟩
 |true=>
  cases f:(i.args.length==0)with
  |false=>
   simp-implicitDefEqProofs(disch:=try exact al)only[ed,aq,aO,aG,aM,db hw,g,bg aQ,hw.len cU,ht,e,au,f];exact aK.2 ⟨by simp,d⟩
  |true=>
   simp-implicitDefEqProofs(disch:=try exact al)only[ed,aq,aO,aG,aM,db hw,g,bg aQ,hw.len cU,ht,e,au,f];exact aK.2 ⟨by simp,d⟩
def SF(hw:aZ bu H ok i.args wi)(d:(i.op==13)=Z):W (aC P ax 240 [.agg (cf i wi),y C,y C,y C,y C] H) λr H'=>r= y (i.args.length==0)/\ay H H':=by
 refine bZ (λ_=>lf 0) ?_;have g:=ay.push H (.row Z 6 [cf i wi]);have aQ:(H.push (.row Z 6 [cf i wi])).get H.next=D (.row Z 6 [[J X i.op,J X i.a,J X i.b,J X i.c,J X i.n,wi]]):=ad.bq _ _
 have f:=eP aQ;cases e:(i.args.length==0)with
 |false=>
  simp-implicitDefEqProofs(disch:=try exact al)only[ed,aq,aO,aG,aM,db hw,f,hw.len cU,ht,d,e];exact aK.2 ⟨by simp,g⟩
 |true=>
  simp-implicitDefEqProofs(disch:=try exact al)only[ed,aq,aO,aG,aM,db hw,f,hw.len cU,ht,d,e];exact aK.2 ⟨by simp,g⟩
def SD(hw:aZ bu H ok i.args wi)(e:(i.op==13)=C):W (aC P ax 240 [.agg (cf i wi),y C,y Z,y C,y Z] H) λr H'=>r= y ((i.b==0)&&(i.n==0))/\ay H H':=by
 refine bZ (λ_=>lf 0) ?_;have d:=ay.push H (.row Z 6 [cf i wi]);have aQ:(H.push (.row Z 6 [cf i wi])).get H.next=D (.row Z 6 [[J X i.op,J X i.a,J X i.b,J X i.c,J X i.n,wi]]):=ad.bq _ _
 have f:=eP aQ;cases ah:(i.b==0)with
 |false=>
  simp-implicitDefEqProofs(disch:=try exact al)only[ed,aq,aO,aG,aM,db hw,bg aQ,ah];exact aK.2 ⟨by simp,d⟩
 |true=>
  cases au:(i.n==0)with
  |false=>
   simp-implicitDefEqProofs(disch:=try exact al)only[ed,aq,aO,aG,aM,db hw,bg aQ,ah,au];exact aK.2 ⟨by simp,d⟩
  |true=>
   simp-implicitDefEqProofs(disch:=try exact al)only[ed,aq,aO,aG,aM,db hw,f,bg aQ,e,ah,au];exact aK.2 ⟨by simp,d⟩
def SC(hw:aZ bu H ok i.args wi)(e:(i.op==13)=Z):W (aC P ax 240 [.agg (cf i wi),y Z,y Z,y Z,y C] H) λr H'=>r= y ((i.a==0)&&((i.b==0)&&((i.c==0)&&(i.args.length==0))))/\ay H H':=by
 refine bZ (λ_=>lf 0) ?_;have d:=ay.push H (.row Z 6 [cf i wi]);have aQ:(H.push (.row Z 6 [cf i wi])).get H.next=D (.row Z 6 [[J X i.op,J X i.a,J X i.b,J X i.c,J X i.n,wi]]):=ad.bq _ _
 have g:=eP aQ;cases ae:(i.a==0)with
 |false=>
  simp-implicitDefEqProofs(disch:=try exact al)only[ed,aq,aO,aG,aM,db hw,bg aQ,ae];exact aK.2 ⟨by simp,d⟩
 |true=>
  cases ah:(i.b==0)with
  |false=>
   simp-implicitDefEqProofs(disch:=try exact al)only[ed,aq,aO,aG,aM,db hw,bg aQ,ae,ah];exact aK.2 ⟨by simp,d⟩
  |true=>
   cases ak:(i.c==0)with
   |false=>
    simp-implicitDefEqProofs(disch:=try exact al)only[ed,aq,aO,aG,aM,db hw,bg aQ,ae,ah,ak];exact aK.2 ⟨by simp,d⟩
   |true=>
    cases f:(i.args.length==0)with
    |false=>
     simp-implicitDefEqProofs(disch:=try exact al)only[ed,aq,aO,aG,aM,db hw,g,bg aQ,hw.len cU,ht,e,ae,ah,ak,f];exact aK.2 ⟨by simp,d⟩
    |true=>
     simp-implicitDefEqProofs(disch:=try exact al)only[ed,aq,aO,aG,aM,db hw,g,bg aQ,hw.len cU,ht,e,ae,ah,ak,f];exact aK.2 ⟨by simp,d⟩
def SE(hw:aZ bu H ok i.args wi)(e:(i.op==13)=Z):W (aC P ax 240 [.agg (cf i wi),y C,y Z,y C,y C] H) λr H'=>r= y ((i.b==0)&&(i.args.length==0))/\ay H H':=by
 refine bZ (λ_=>lf 0) ?_;have d:=ay.push H (.row Z 6 [cf i wi]);have aQ:(H.push (.row Z 6 [cf i wi])).get H.next=D (.row Z 6 [[J X i.op,J X i.a,J X i.b,J X i.c,J X i.n,wi]]):=ad.bq _ _
 have g:=eP aQ;cases ah:(i.b==0)with
 |false=>
  simp-implicitDefEqProofs(disch:=try exact al)only[ed,aq,aO,aG,aM,db hw,bg aQ,ah];exact aK.2 ⟨by simp,d⟩
 |true=>
  cases f:(i.args.length==0)with
  |false=>
   simp-implicitDefEqProofs(disch:=try exact al)only[ed,aq,aO,aG,aM,db hw,g,bg aQ,hw.len cU,ht,e,ah,f];exact aK.2 ⟨by simp,d⟩
  |true=>
   simp-implicitDefEqProofs(disch:=try exact al)only[ed,aq,aO,aG,aM,db hw,g,bg aQ,hw.len cU,ht,e,ah,f];exact aK.2 ⟨by simp,d⟩
def KX(hw:aZ bu H ok i.args wi):W (aC P ax 217 [.agg (cf i wi)] H) λr H'=>r= y (decide (1<=i.op/\i.op<=20)&&named i)/\ay H H':=by
 refine bZ (λ_=>Uh 0) ?_;have d:=ay.push H (.row Z 6 [cf i wi]);have aQ:(H.push (.row Z 6 [cf i wi])).get H.next=D (.row Z 6 [[J X i.op,J X i.a,J X i.b,J X i.c,J X i.n,wi]]):=ad.bq _ _
 have e:=eP aQ;by_cases ae:i.op=1
 ·have t:∀j:Int,(i.op==j)=(1==j):=λj=>by rw[ae]
  simp-implicitDefEqProofs(disch:=try exact al)only[fq,e6,aq,aO,aG,aM,db hw,e,e3 aQ,t,Int.reduceBEq];refine bk (wZ (hw.aI d) (by rw[ae];rfl)) ?_;rintro _ K ⟨rfl,p⟩;exact⟨p.1,aK.2 ⟨by rw[named,ae];simp,d.trans p⟩⟩
 have E:(i.op==1)=false:=beq_eq_false_iff_ne.2 ae;by_cases ah:i.op=2
 ·have t:∀j:Int,(i.op==j)=(2==j):=λj=>by rw[ah]
  simp-implicitDefEqProofs(disch:=try exact al)only[fq,e6,fM,aq,aO,aG,aM,db hw,e,e3 aQ,t,Int.reduceBEq];refine bk (wY (hw.aI d) (by rw[ah];rfl)) ?_;rintro _ K ⟨rfl,p⟩;exact⟨p.1,aK.2 ⟨by rw[named,ah];simp,d.trans p⟩⟩
 have V:(i.op==2)=false:=beq_eq_false_iff_ne.2 ah;by_cases ak:i.op=3
 ·have t:∀j:Int,(i.op==j)=(3==j):=λj=>by rw[ak]
  simp-implicitDefEqProofs(disch:=try exact al)only[fq,e6,fM,gU,aq,aO,aG,aM,db hw,e,e3 aQ,t,Int.reduceBEq];refine bk (F2 (hw.aI d) (by rw[ak];rfl)) ?_;rintro _ K ⟨rfl,p⟩;exact⟨p.1,aK.2 ⟨by rw[named,ak];simp,d.trans p⟩⟩
 have aa:(i.op==3)=false:=beq_eq_false_iff_ne.2 ak;by_cases au:i.op=4
 ·have t:∀j:Int,(i.op==j)=(4==j):=λj=>by rw[au]
  simp-implicitDefEqProofs(disch:=try exact al)only[fq,e6,fM,gU,hy,hz,aq,aO,aG,aM,db hw,e,e3 aQ,t,Int.reduceBEq];refine bk (SF (hw.aI d) (by rw[au];rfl)) ?_;rintro _ K ⟨rfl,p⟩;exact⟨p.1,aK.2 ⟨by rw[named,au];simp,d.trans p⟩⟩
 have ab:(i.op==4)=false:=beq_eq_false_iff_ne.2 au;by_cases w:i.op=5
 ·have t:∀j:Int,(i.op==j)=(5==j):=λj=>by rw[w]
  simp-implicitDefEqProofs(disch:=try exact al)only[fq,e6,fM,gU,hy,aq,aO,aG,aM,db hw,e,e3 aQ,t,Int.reduceBEq];refine bk (F3 (hw.aI d) (by rw[w];rfl)) ?_;rintro _ K ⟨rfl,p⟩;exact⟨p.1,aK.2 ⟨by rw[named,w];simp,d.trans p⟩⟩
 have af:(i.op==5)=false:=beq_eq_false_iff_ne.2 w;by_cases x:i.op=6
 ·have t:∀j:Int,(i.op==j)=(6==j):=λj=>by rw[x]
  simp-implicitDefEqProofs(disch:=try exact al)only[fq,e6,fM,gU,hy,hz,aq,aO,aG,aM,db hw,e,e3 aQ,t,Int.reduceBEq];refine bk (w1 (hw.aI d) (by rw[x];rfl)) ?_;rintro _ K ⟨rfl,p⟩;exact⟨p.1,aK.2 ⟨by rw[named,x];simp,d.trans p⟩⟩
 have ag:(i.op==6)=false:=beq_eq_false_iff_ne.2 x;by_cases z:i.op=7
 ·have t:∀j:Int,(i.op==j)=(7==j):=λj=>by rw[z]
  simp-implicitDefEqProofs(disch:=try exact al)only[fq,e6,fM,gU,hy,hz,aq,aO,aG,aM,db hw,e,e3 aQ,t,Int.reduceBEq];refine bk (w1 (hw.aI d) (by rw[z];rfl)) ?_;rintro _ K ⟨rfl,p⟩;exact⟨p.1,aK.2 ⟨by rw[named,z];simp,d.trans p⟩⟩
 have aj:(i.op==7)=false:=beq_eq_false_iff_ne.2 z;by_cases A:i.op=8
 ·have t:∀j:Int,(i.op==j)=(8==j):=λj=>by rw[A]
  simp-implicitDefEqProofs(disch:=try exact al)only[fq,e6,fM,gU,hy,hz,aq,aO,aG,aM,db hw,e,e3 aQ,t,Int.reduceBEq];refine bk (w1 (hw.aI d) (by rw[A];rfl)) ?_;rintro _ K ⟨rfl,p⟩;exact⟨p.1,aK.2 ⟨by rw[named,A];simp,d.trans p⟩⟩
 have am:(i.op==8)=false:=beq_eq_false_iff_ne.2 A;by_cases B:i.op=9
 ·have t:∀j:Int,(i.op==j)=(9==j):=λj=>by rw[B]
  simp-implicitDefEqProofs(disch:=try exact al)only[fq,e6,fM,gU,hy,hz,aq,aO,aG,aM,db hw,e,e3 aQ,t,Int.reduceBEq];refine bk (w1 (hw.aI d) (by rw[B];rfl)) ?_;rintro _ K ⟨rfl,p⟩;exact⟨p.1,aK.2 ⟨by rw[named,B];simp,d.trans p⟩⟩
 have an:(i.op==9)=false:=beq_eq_false_iff_ne.2 B;by_cases f:i.op=10
 ·have t:∀j:Int,(i.op==j)=(10==j):=λj=>by rw[f]
  simp-implicitDefEqProofs(disch:=try exact al)only[fq,e6,fM,gU,aq,aO,aG,aM,db hw,e,e3 aQ,t,Int.reduceBEq];refine bk (F2 (hw.aI d) (by rw[f];rfl)) ?_;rintro _ K ⟨rfl,p⟩;exact⟨p.1,aK.2 ⟨by rw[named,f];simp,d.trans p⟩⟩
 have G:(i.op==10)=false:=beq_eq_false_iff_ne.2 f;by_cases g:i.op=11
 ·have t:∀j:Int,(i.op==j)=(11==j):=λj=>by rw[g]
  simp-implicitDefEqProofs(disch:=try exact al)only[fq,e6,aq,aO,aG,aM,db hw,e,e3 aQ,t,Int.reduceBEq];refine bk (wZ (hw.aI d) (by rw[g];rfl)) ?_;rintro _ K ⟨rfl,p⟩;exact⟨p.1,aK.2 ⟨by rw[named,g];simp,d.trans p⟩⟩
 have L:(i.op==11)=false:=beq_eq_false_iff_ne.2 g;by_cases h:i.op=12
 ·have t:∀j:Int,(i.op==j)=(12==j):=λj=>by rw[h]
  simp-implicitDefEqProofs(disch:=try exact al)only[fq,e6,fM,gU,hy,aq,aO,aG,aM,db hw,e,e3 aQ,t,Int.reduceBEq];refine bk (F3 (hw.aI d) (by rw[h];rfl)) ?_;rintro _ K ⟨rfl,p⟩;exact⟨p.1,aK.2 ⟨by rw[named,h];simp,d.trans p⟩⟩
 have M:(i.op==12)=false:=beq_eq_false_iff_ne.2 h;by_cases k:i.op=13
 ·have t:∀j:Int,(i.op==j)=(13==j):=λj=>by rw[k]
  simp-implicitDefEqProofs(disch:=try exact al)only[fq,e6,fM,gU,hy,hz,aq,aO,aG,aM,db hw,e,e3 aQ,t,Int.reduceBEq];refine bk (SD (hw.aI d) (by rw[k];rfl)) ?_;rintro _ K ⟨rfl,p⟩;exact⟨p.1,aK.2 ⟨by rw[named,k];simp,d.trans p⟩⟩
 have N:(i.op==13)=false:=beq_eq_false_iff_ne.2 k;by_cases l:i.op=14
 ·have t:∀j:Int,(i.op==j)=(14==j):=λj=>by rw[l]
  simp-implicitDefEqProofs(disch:=try exact al)only[fq,e6,fM,aq,aO,aG,aM,db hw,e,e3 aQ,t,Int.reduceBEq];refine bk (wY (hw.aI d) (by rw[l];rfl)) ?_;rintro _ K ⟨rfl,p⟩;exact⟨p.1,aK.2 ⟨by rw[named,l];simp,d.trans p⟩⟩
 have O:(i.op==14)=false:=beq_eq_false_iff_ne.2 l;by_cases m:i.op=15
 ·have t:∀j:Int,(i.op==j)=(15==j):=λj=>by rw[m]
  simp-implicitDefEqProofs(disch:=try exact al)only[fq,e6,fM,aq,aO,aG,aM,db hw,e,e3 aQ,t,Int.reduceBEq];refine bk (wY (hw.aI d) (by rw[m];rfl)) ?_;rintro _ K ⟨rfl,p⟩;exact⟨p.1,aK.2 ⟨by rw[named,m];simp,d.trans p⟩⟩
 have Q:(i.op==15)=false:=beq_eq_false_iff_ne.2 m;by_cases o:i.op=16
 ·have t:∀j:Int,(i.op==j)=(16==j):=λj=>by rw[o]
  simp-implicitDefEqProofs(disch:=try exact al)only[fq,e6,fM,gU,hy,hz,aq,aO,aG,aM,db hw,e,e3 aQ,t,Int.reduceBEq];refine bk (SC (hw.aI d) (by rw[o];rfl)) ?_;rintro _ K ⟨rfl,p⟩;exact⟨p.1,aK.2 ⟨by rw[named,o];simp,d.trans p⟩⟩
 have R:(i.op==16)=false:=beq_eq_false_iff_ne.2 o;by_cases q:i.op=17
 ·have t:∀j:Int,(i.op==j)=(17==j):=λj=>by rw[q]
  simp-implicitDefEqProofs(disch:=try exact al)only[fq,e6,fM,gU,hy,hz,aq,aO,aG,aM,db hw,e,e3 aQ,t,Int.reduceBEq];refine bk (SE (hw.aI d) (by rw[q];rfl)) ?_;rintro _ K ⟨rfl,p⟩;exact⟨p.1,aK.2 ⟨by rw[named,q];simp,d.trans p⟩⟩
 have S:(i.op==17)=false:=beq_eq_false_iff_ne.2 q;by_cases s:i.op=18
 ·have t:∀j:Int,(i.op==j)=(18==j):=λj=>by rw[s]
  simp-implicitDefEqProofs(disch:=try exact al)only[fq,e6,fM,aq,aO,aG,aM,db hw,e,e3 aQ,t,Int.reduceBEq];refine bk (wY (hw.aI d) (by rw[s];rfl)) ?_;rintro _ K ⟨rfl,p⟩;exact⟨p.1,aK.2 ⟨by rw[named,s];simp,d.trans p⟩⟩
 have T:(i.op==18)=false:=beq_eq_false_iff_ne.2 s;by_cases u:i.op=19
 ·have t:∀j:Int,(i.op==j)=(19==j):=λj=>by rw[u]
  simp-implicitDefEqProofs(disch:=try exact al)only[fq,e6,aq,aO,aG,aM,db hw,e,e3 aQ,t,Int.reduceBEq];refine bk (wZ (hw.aI d) (by rw[u];rfl)) ?_;rintro _ K ⟨rfl,p⟩;exact⟨p.1,aK.2 ⟨by rw[named,u];simp,d.trans p⟩⟩
 have U:(i.op==19)=false:=beq_eq_false_iff_ne.2 u;by_cases v:i.op=20
 ·have t:∀j:Int,(i.op==j)=(20==j):=λj=>by rw[v]
  simp-implicitDefEqProofs(disch:=try exact al)only[fq,e6,aq,aO,aG,aM,db hw,e,e3 aQ,t,Int.reduceBEq];refine bk (wZ (hw.aI d) (by rw[v];rfl)) ?_;rintro _ K ⟨rfl,p⟩;exact⟨p.1,aK.2 ⟨by rw[named,v];simp,d.trans p⟩⟩
 have Y:(i.op==20)=false:=beq_eq_false_iff_ne.2 v;simp-implicitDefEqProofs(disch:=try exact al)only[fq,e6,fM,gU,hy,hz,hQ,aq,aO,aG,aM,db hw,e,E,V,aa,ab,af,ag,aj,am,an,G,L,M,N,O,Q,R,S,T,U,Y];refine aK.2 ⟨?_,d⟩;rw[decide_eq_false ai];rfl
def K3(x:bQ)(f:Nat)(c:b3)(i:In)(a b cc d v w wi:aa):c7 P 280 [(0,.agg [a,b,cc,d,J X x.main]),(1,J X f),(2,.agg (ct c v w)),(3,.agg (cf i wi))]=D (.agg (cl x f c i a b cc d v w wi)):=CF rfl
def Gq(hw:aZ bu H ok i.args wi):aV (D (.agg (cf i wi))) (.agg (cf i wi))=true:=by simp[aV,cf,aa.beq,eE.beq,hw.rd]
def dy{zX:Nat}{m:Int}(g:H.get zX=D (.row Z 5 [[a,b,cc,d,J X m]])):aj P H 22 (.ptr zX 0 0)=D a/\aj P H 23 (.ptr zX 0 1)=D b/\aj P H 24 (.ptr zX 0 2)=D cc/\aj P H 25 (.ptr zX 0 3)=D d/\aj P H 3 (.ptr zX 0 4)=D (J X m):=by
 simp-implicitDefEqProofs(disch:=try exact al)only[bM,g]
def ON{V B:aa}(aD:c2 H ok x V)(Q:vr H ok i B)(f:Nat){c:b3}(aN:x.o[f]? =D c)(s:∀g∈x.o,g.vars.length<=1000000000)(hm:c.vars.all (dB x.b1.length)=C):W (aC P ax 168 [V,J X f,B] H) λr H'=>r= y (dw x f c i)/\ay H H':=by
 obtain⟨_,rfl,a,b,cc,d,rfl,ae,ah,ak,au⟩:=aD;obtain⟨_,rfl,wi,rfl,i1⟩:=Q;have ab:=(List.getElem?_eq_some_iff.1 aN).1;have N:c.vars.length<=1000000000:=s c (List.mem_of_getElem? aN);have O:∀v,(a1 c v).d<=1000:=λv=>by
  unfold a1;cases h:dE c.vars v with
  |none=>simp[bt]
  |some u=>
   have:=List.all_eq_true.1 hm u (List.mem_of_getElem? (Cz.1 h).2);simp only[dB,Bool.and_eq_true,decide_eq_true_eq]at this;simp;omega
 refine bZ (λ_=>TR 0) ?_;have k:ay H ((H.push (.row Z 5 [[a,b,cc,d,J X x.main]])).push (.row Z 6 [cf i wi])):=(ay.push _ _).trans (ay.push _ _);have aT:((H.push (.row Z 5 [[a,b,cc,d,J X x.main]])).push (.row Z 6 [cf i wi])).get H.next=D (.row Z 5 [[a,b,cc,d,J X x.main]]):=(ay.push _ _).get (ad.bq _ _)
 have aQ:((H.push (.row Z 5 [[a,b,cc,d,J X x.main]])).push (.row Z 6 [cf i wi])).get (H.next+1)=D (.row Z 6 [cf i wi]):=ad.bq _ _;have E:∀l,b0 l (.agg [J X i.op,J X i.a,J X i.b,J X i.c,J X i.n,wi])=D (.ptr l 0 0,.row Z 6 [cf i wi]):=λl=>db i1 l
 simp-implicitDefEqProofs(disch:=try exact al)only[qz,aq,aG,ad.ds,dZ ae ah ak au,E];generalize ((H.push (.row Z 5 [[a,b,cc,d,J X x.main]])).push (.row Z 6 [cf i wi]))=H0 at*;have aj:=ad.b6 aT;have af:=ad.b6 aQ;generalize H.next+1=I at*
 generalize H.next=zX at*
 have G:=ae.aI k;have L:=ah.aI k;have m:=ak.aI k;have M:=au.aI k;have t:=i1.aI k;have f0:(0:Int)<=(f:Int):=ai;have f1:(f:Int)<(x.o.length:Int):=ai;obtain⟨pp,gv,gw,T,A,b8,cg⟩:=m.pP (j:=(f:Int)) (g:=c) ai (by simpa using aN);have U:aV (D (.agg [a,b,cc,d,J X x.main])) (.agg [a,b,cc,d,J X x.main])=true:=by simp[aV,aa.beq,eE.beq,ae.rd,ah.rd,ak.rd,au.rd]
 simp-implicitDefEqProofs(disch:=try exact al)only[aq,aO,aG,aM,c1,f0,f1,decide_true,dy aT,e3 aQ,m.len c0];refine cE (KX t) ?_;rintro _ K ⟨rfl,p⟩;refine⟨p.1,?_⟩;rw[Z8];cases q:(decide (1<=i.op/\i.op<=20)&&named i)with
 |false=>
  simp-implicitDefEqProofs(disch:=try exact al)only[aq,dQ];refine cI (cJ ag ?_) (aK.2 ⟨?_,k.trans p⟩);refine cY ?_ ?_
  ·simp only[cw,bo.K.heap,List.forall_mem_cons]
   repeat' first|exact ay.refl _|exact p|(intro _ h;cases h;done)|refine aL ?_ ?_
  ·simp only[List.forall_mem_cons]
   repeat' first|(intro v e;cases e;done)|(intro v e;cases e;intro H' p;simp only[dy (p.get aT),e3 (p.get aQ),Gq i1,eA ak];done)|(intro _ h;cases h;done)|refine aL ?_ ?_
  cases aS:named i with
  |false=>rfl
  |true=>
   rw[aS,Bool.and_true,decide_eq_false_iff_not]at q;rw[Bool.true_and];refine congrArg aa.bool (Eq.symm ?_);unfold dJ;simp only
   split<;>first|rfl|(exfalso;omega)
 |true=>
  simp only[Bool.and_eq_true,decide_eq_true_eq]at q;obtain⟨⟨R,S⟩,aS⟩:=q;simp-implicitDefEqProofs(disch:=try exact al)only[aq,aO,aM,c1,dy (p.get aT),ch (p.get aT),e3 (p.get aQ),T,A _ p,K3];refine cE (abo (ok:=ok) ⟨G.aI p,L.aI p,m.aI p,M.aI p,b8.aI p,cg.aI p,t.aI p⟩ N s O R S) ?_;rintro _ Y ⟨rfl,z⟩;refine⟨z.1,?_⟩;have w:=p.trans z;simp-implicitDefEqProofs(disch:=try exact al)only[aq];refine cI (cJ ag ?_) (aK.2 ⟨by rw[aS,Bool.true_and],k.trans w⟩);refine cY ?_ ?_
  ·simp only[cw,bo.K.heap,List.forall_mem_cons]
   repeat' first|exact ay.refl _|exact p|exact w|(intro _ h;cases h;done)|refine aL ?_ ?_
  ·simp only[List.forall_mem_cons]
   repeat' first|(intro v e;cases e;done)|(intro v e;cases e;intro H' p;simp only[dy (p.get aT),ch (p.get aT),e3 (p.get aQ),A H' p,U,Gq i1,w_ b8 cg,eA ak];done)|(intro _ h;cases h;done)|refine aL ?_ ?_
end
end
section
open Go.bp
section
variable {H:ad}{ok:Nat->Prop}{x:bQ}{f:Nat}{c:b3}{i:In}{a b cc d v w wi:aa}
def aZ.wg{l:List In}{v:aa}(h:aZ e7 H ok l v){j:Int}{i:In}(a:0<=j)(b:l[j.toNat]? =D i):∃L n wi,a6 P 47 v (J X j)=D (.ptr L n 0)/\(∀H',ay H H'->aj P H' 89 (.ptr L n 0)=D (.agg (cf i wi))/\aj P H' 3 (.ptr L n 0)=D (J X i.op))/\aZ bu H ok i.args wi:=by
 obtain⟨L,n,ro,els,cs,ae,_,ah,ak,wi,rfl,au⟩:=h.at_ (K:=e7) eb a b;refine⟨L,n,wi,ae,λH' p=>⟨?_,?_⟩,au⟩
 ·exact fY (n:=6) (c:=0) ag ag (p.get ah) ak (by exact b4 6)
 ·have g:H'.get L=D (.row ro 6 els):=p.get ah;simp-implicitDefEqProofs(disch:=try exact al)only[bM,g,ak]
def Pn{l:List In}(h:1<=l.length):∃i,l[l.length-1]? =D i/\h5 l=i.op:=by
 have ae:l.length-1<l.length:=ai;refine⟨l[l.length-1],by simp[ae],?_⟩;rw[h5,List.getLast?_eq_getElem?];simp[ae]
def LG{zX zC:Nat}(bP:H.get zC=D (.row Z 7 [ct c v w]))(hw:aZ e7 H ok c.ins w)(ae:1<=c.ins.length)(az:c.ins.length<=1000000000){N:Nat}:
  W (lk (aC P ax) N (.ptr zC 0 0) H) λr H'=>r= y (hK (h5 c.ins))/\ay H H':=by
 obtain⟨i,h,k⟩:=Pn ae;have b:IntKind.i64.wrap ((c.ins.length:Int)-1)=((c.ins.length-1:Nat):Int):=by rw[wrap_i64 ai ai];omega
 obtain⟨L,n,wi,e,f,l⟩:=hw.wg (j:=((c.ins.length-1:Nat):Int)) (i:=i) ai (by simpa using h);have d:=gj bP;rw[k,hK];cases a:(i.op==16)with
 |true=>
  simp-implicitDefEqProofs(disch:=try exact al)only[lk,bf,aq,aO,aG,aM,d,hw.len eb,b,e,(f _ (ay.refl _)).2,a];exact aK.2 ⟨rfl,ay.refl _⟩
 |false=>
  cases g:(i.op==17)with
  |true=>
   simp-implicitDefEqProofs(disch:=try exact al)only[lk,bf,aq,aO,aG,aM,d,hw.len eb,b,e,(f _ (ay.refl _)).2,a,g];exact aK.2 ⟨rfl,ay.refl _⟩
  |false=>
   simp-implicitDefEqProofs(disch:=try exact al)only[lk,bf,aq,aO,aG,aM,d,hw.len eb,b,e,(f _ (ay.refl _)).2,a,g];exact aK.2 ⟨rfl,ay.refl _⟩
def Df{zX zC:Nat}(aN:x.o[f]? =D c)(h:∀g∈x.o,g.vars.length<=1000000000)(hm:c.vars.all (dB x.b1.length)=C)(ae:1<=c.ins.length)(az:c.ins.length<=1000000000){N:Nat}:∀(j k m:Nat) (H:ad),k+j=c.ins.length->j<m->H.get zX=D (.row Z 5 [[a,b,cc,d,J X x.main]])->H.get zC=D (.row Z 7 [ct c v w])->c2 H ok x (.agg [a,b,cc,d,J X x.main])->aZ e7 H ok c.ins w->
  W (ll (aC P ax) N m (J X f) (.ptr zX 0 0) (.ptr zC 0 0) w (J X c.ins.length) (J X k) H) λr H'=>r= y ((c.ins.drop k).all (dw x f c)&&hK (h5 c.ins))/\ay H H'
 |_,_,0,_,_,hm,_,_,_,_=>ai
 |0,k,m+1,H,t,_,aT,bP,aD,hw=>by
  have e:¬(k:Int)<(c.ins.length:Int):=ai;simp-implicitDefEqProofs(disch:=try exact al)only[ll,tx,aq,aG,e,decide_false];rw[List.drop_of_length_le ai,List.all_nil,Bool.true_and];exact LG (zX:=zX) bP hw ae az
 |j+1,k,m+1,H,t,E,aT,bP,aD,hw=>by
  have e:(k:Int)<(c.ins.length:Int):=ai;have l:k<c.ins.length:=ai;obtain⟨L,n,wi,z,A,s⟩:=hw.wg (j:=(k:Int)) (i:=c.ins[k]) ai (by simp[l]);have on:=Df (zX:=zX) (zC:=zC) aN h hm ae az (N:=N) j (k+1) m;rw[List.drop_eq_getElem_cons l,List.all_cons];generalize c.ins[k]=i at*;have st:=r4 (i:=i) (w:=wi) (ad.bq H (.row Z 6 [[J X 0,J X 0,J X 0,J X 0,J X 0,.aB]])) s.one;have pp:=ay.push H (.row Z 6 [cf i wi]);have aQ:=ad.bq H (.row Z 6 [cf i wi]);simp-implicitDefEqProofs(disch:=try exact al)only[ll,tx,Nat.reduceAdd,aq,aO,aG,e,decide_true,z,A _ (ay.refl _),st,ad.fE,ch (pp.get aT),e3 aQ]
  refine bk (ON (aD.aI pp) ⟨_,rfl,wi,rfl,s.aI pp⟩ f aN h hm) ?_;rintro _ K ⟨rfl,p⟩;refine⟨p.1,?_⟩;have q:=pp.trans p;cases G:dw x f c i with
  |false=>
   simp-implicitDefEqProofs(disch:=try exact al)only[aq,Bool.not_false];exact aK.2 ⟨by simp,q⟩
  |true=>
   simp-implicitDefEqProofs(disch:=try exact al)only[aq,aG,Bool.not_true,c3 (show k<=1000000000 by omega)];refine(on K ai ai (q.get aT) (q.get bP) (aD.aI q) (hw.aI q)).mono ?_;rintro r B ⟨rfl,u⟩;exact⟨by simp,q.trans u⟩
def LH{V:aa}(aD:c2 H ok x V)(f:Nat){c:b3}(aN:x.o[f]? =D c)(Y:∀g∈x.o,g.vars.length<=1000000000)(hlen:∀c∈x.o,c.ins.length<=1000000000):W (aC P ax 126 [V,J X f] H) λr H'=>r= y (codeOk x f c)/\ay H H':=by
 obtain⟨_,rfl,a,b,cc,d,rfl,ae,ah,ak,au⟩:=aD;have aU:=(List.getElem?_eq_some_iff.1 aN).1;have aH:c.vars.length<=1000000000:=Y c (List.mem_of_getElem? aN);have az:c.ins.length<=1000000000:=hlen c (List.mem_of_getElem? aN);refine bZ (λ_=>TG (c.ins.length+1)) ?_;have U:=ay.push H (.row Z 5 [[a,b,cc,d,J X x.main]]);have S:=ad.bq H (.row Z 5 [[a,b,cc,d,J X x.main]]);obtain⟨pp,gv,gw,ap,ar,b8,cg⟩:=(ak.aI U).pP (j:=(f:Int)) (g:=c) ai (by simpa using aN);have st:=nK (c:=c) (v:=gv) (w:=gw) (ad.bq (H.push (.row Z 5 [[a,b,cc,d,J X x.main]])) (.row Z 7 [[J X 0,.aB,y Z,J X 0,J X 0,J X 0,.aB]])) b8.one cg.one
 simp only[jc]at st;have s:ay H ((H.push (.row Z 5 [[a,b,cc,d,J X x.main]])).push (.row Z 7 [ct c gv gw])):=U.trans (ay.push _ _);have aT:((H.push (.row Z 5 [[a,b,cc,d,J X x.main]])).push (.row Z 7 [ct c gv gw])).get H.next=D (.row Z 5 [[a,b,cc,d,J X x.main]]):=(ay.push _ _).get S
 have bP:((H.push (.row Z 5 [[a,b,cc,d,J X x.main]])).push (.row Z 7 [ct c gv gw])).get (H.next+1)=D (.row Z 7 [ct c gv gw]):=ad.bq _ _;have B:=b8.aI (ay.push _ (.row Z 7 [ct c gv gw]));have T:=cg.aI (ay.push _ (.row Z 7 [ct c gv gw]));simp-implicitDefEqProofs(disch:=try exact al)only[qm,Nat.reduceAdd,aq,aO,aM,ad.ds,dZ ae ah ak au,dy S,ap,ar _ (ay.refl _),st,ad.fE];clear st ap ar b8 cg;generalize ((H.push (.row Z 5 [[a,b,cc,d,J X x.main]])).push (.row Z 7 [ct c gv gw]))=H0 at*;have aX:=ad.b6 aT;have aW:=ad.b6 bP;generalize H.next+1=zC at*
 clear U S;generalize H.next=zX at*
 have ab:c2 H0 ok x (.agg [a,b,cc,d,J X x.main]):=⟨_,rfl,a,b,cc,d,rfl,ae.aI s,ah.aI s,ak.aI s,au.aI s⟩;have q:=gj bP;rw[codeOk];have bad:¬(0<=c.params/\c.params<=6/\c.params<=c.vars.length/\c.vars.length<=4000/\1<=c.ins.length)->∀z:Bool,W (D (aa.bool Z,H0)) λr H'=>r= y (decide (0<=c.params/\c.params<=6/\c.params<=c.vars.length/\c.vars.length<=4000/\1<=c.ins.length)&&z)/\ay H H':=λh z=>aK.2 ⟨by rw[decide_eq_false h];rfl,s⟩
 by_cases n:c.params<0
 ·simp-implicitDefEqProofs(disch:=try exact al)only[aq,aG,q,n,decide_true];exact bad ai _
 by_cases u:6<c.params
 ·simp-implicitDefEqProofs(disch:=try exact al)only[aq,aO,aG,aM,q,n,u,decide_true,decide_false];exact bad ai _
 by_cases E:(c.vars.length:Int)<c.params
 ·simp-implicitDefEqProofs(disch:=try exact al)only[aq,aO,aG,aM,q,n,u,E,B.len dh,decide_true,decide_false];exact bad ai _
 by_cases Q:(4000:Int)<(c.vars.length:Int)
 ·simp-implicitDefEqProofs(disch:=try exact al)only[aq,aO,aG,aM,q,n,u,E,Q,B.len dh,decide_true,decide_false];exact bad ai _
 cases G:((c.ins.length:Int)==0)with
 |true=>
  have aE:(c.ins.length:Int)=0:=by simpa using G
  simp-implicitDefEqProofs(disch:=try exact al)only[aq,aO,aG,aM,q,n,u,E,Q,G,B.len dh,T.len eb,decide_false];exact bad ai _
 |false=>
 have aE:¬(c.ins.length:Int)=0:=by simpa using G
 have aF:1<=c.ins.length:=ai;rw[decide_eq_true ai,Bool.true_and];simp-implicitDefEqProofs(disch:=try exact al)only[aq,aO,aG,aM,q,n,u,E,Q,G,B.len dh,T.len eb,decide_false,ch aT];refine cE (Ex ab B aH) ?_;rintro _ K ⟨rfl,t⟩;refine⟨t.1,?_⟩;have N:=s.trans t;cases hm:c.vars.all (dB x.b1.length)with
 |false=>
  simp-implicitDefEqProofs(disch:=try exact al)only[aq,Bool.not_false];exact aK.2 ⟨rfl,N⟩
 |true=>
 have L:=t.get aT;have k:=t.get bP;have M:=gj k;have am:=ab.aI t;have aw:aV (D (.agg [a,b,cc,d,J X x.main])) (.agg [a,b,cc,d,J X x.main])=true:=by simp[aV,aa.beq,eE.beq,ae.rd,ah.rd,ak.rd,au.rd]
 have go:∀m,ay K m->W (af (av P 49 (.ptr zC 0 0) 4) λaQ=>af (aj P m 47 aQ) λaA=>bf P .len [47] [aA] m λaR=>ll (aC P ax) (c.ins.length+1) (c.ins.length+1) (J X f) (.ptr zX 0 0) (.ptr zC 0 0) aA aR (J X 0) m) λr H'=>r= y (c.ins.all (dw x f c)&&hK (h5 c.ins))/\ay H H':=by
  intro m e;have an:=T.aI (t.trans e);simp-implicitDefEqProofs(disch:=try exact al)only[bf,aq,aO,aM,gj (e.get k),an.len eb];refine(Df (v:=gv) aN Y hm aF az c.ins.length 0 (c.ins.length+1) m ai ai (e.get L) (e.get k) (am.aI e) an).mono ?_;rintro r aS ⟨rfl,aP⟩;exact⟨by rw[List.drop_zero],N.trans (e.trans aP)⟩
 simp-implicitDefEqProofs(disch:=try exact al)only[aq,aO,aM,Bool.not_true,M];cases l:c.has with
 |true=>
  rw[l]at M;simp-implicitDefEqProofs(disch:=try exact al)only[aq,aO,aM,c1,ch L,oe k];refine cE (we am c.res) ?_;rintro _ O ⟨rfl,e⟩;refine⟨e.1,?_⟩;have ao:=gj (e.get k);rw[l]at ao;cases A:dB x.b1.length c.res with
  |false=>
   simp-implicitDefEqProofs(disch:=try exact al)only[aq,c1,yI,yH,Bool.not_false];refine cI (cJ ag ?_) (aK.2 ⟨rfl,N.trans e⟩);refine cY ?_ ?_
   ·simp only[cw,bo.K.heap,List.forall_mem_cons]
    repeat' first|exact ay.refl _|exact e|(intro _ h;cases h;done)|refine aL ?_ ?_
   ·simp only[List.forall_mem_cons]
    repeat' first|(intro v i;cases i;done)|(intro v i;cases i;intro H' p;simp only[ch (p.get L),oe (p.get k),gj (p.get k),l,aw,br,td];done)|(intro _ h;cases h;done)|refine aL ?_ ?_
  |true=>
   simp-implicitDefEqProofs(disch:=try exact al)only[aq,aO,aM,c1,hU,dQ,Bool.not_true,ao];refine cI (cJ ag ?_) ?_
   ·refine cY ?_ ?_
    ·simp only[cw,bo.K.heap,List.forall_mem_cons]
     repeat' first|exact ay.refl _|exact e|(intro _ h;cases h;done)|refine aL ?_ ?_
    ·simp only[List.forall_mem_cons]
     repeat' first|(intro v i;cases i;done)|(intro v i;cases i;intro H' p;simp only[ch (p.get L),oe (p.get k),gj (p.get k),l,aw,br,td];done)|(intro _ h;cases h;done)|refine aL ?_ ?_
   ·have g:=go O e;rw[Bool.true_and,Bool.true_and];simp-implicitDefEqProofs(disch:=try exact al)only[aq,aO,aM]at g ⊢;exact g
 |false=>
  rw[l]at M;simp-implicitDefEqProofs(disch:=try exact al)only[aq,aO,aM,c1,hU,dQ,M,Bool.not_false];refine cE Av ?_;rintro _ O ⟨rfl,e⟩;refine⟨e.1,?_⟩;simp-implicitDefEqProofs(disch:=try exact al)only[aq,aO,aM,c1,hU,oe (e.get k),gK];by_cases A:c.res=bt
  ·have R:decide (c.res≠bt)=false:=by simp[A]
   rw[R,decide_eq_true A];simp-implicitDefEqProofs(disch:=try exact al)only[aq];refine cI (cJ ag ?_) ?_
   ·refine cY ?_ ?_
    ·simp only[cw,bo.K.heap,List.forall_mem_cons]
     repeat' first|exact ay.refl _|exact e|(intro _ h;cases h;done)|refine aL ?_ ?_
    ·simp only[List.forall_mem_cons]
     repeat' first|(intro v i;cases i;done)|(intro v i;cases i;intro H' p;simp only[oe (p.get k),gj (p.get k),l,br,td];done)|(intro _ h;cases h;done)|refine aL ?_ ?_
   ·have g:=go O e;rw[Bool.true_and,Bool.true_and];simp-implicitDefEqProofs(disch:=try exact al)only[aq,aO,aM]at g ⊢;exact g
  ·have R:decide (c.res≠bt)=true:=by simp[A]
   rw[R,decide_eq_false A];simp-implicitDefEqProofs(disch:=try exact al)only[aq];refine cI (cJ ag ?_) (aK.2 ⟨rfl,N.trans e⟩);refine cY ?_ ?_
   ·simp only[cw,bo.K.heap,List.forall_mem_cons]
    repeat' first|exact ay.refl _|exact e|(intro _ h;cases h;done)|refine aL ?_ ?_
   ·simp only[List.forall_mem_cons]
    repeat' first|(intro v i;cases i;done)|(intro v i;cases i;intro H' p;simp only[oe (p.get k),gj (p.get k),l,br,td];done)|(intro _ h;cases h;done)|refine aL ?_ ?_
def pQ(x:bQ):List b3->Nat->Nat->Bool
 |[],_,_=>C
 |c::cs,s,f=>decide (s+c.ins.length<=2500)&&(codeOk x f c&&pQ x cs (s+c.ins.length) (f+1))
def Dg(x:bQ):∀(cs:List b3) (s f:Nat),s<=2500->pQ x cs s f=(decide (s+eR cs<=2500)&&hl x cs f)
 |[],s,f,h=>by simp[pQ,eR,hl,h]
 |c::cs,s,f,h=>by
  rw[pQ,eR,hl];by_cases ae:s+c.ins.length<=2500
  ·have e:decide (s+(c.ins.length+eR cs)<=2500)=decide (s+c.ins.length+eR cs<=2500):=by rw[Nat.add_assoc]
   rw[Dg x cs _ _ ae,decide_eq_true ae,Bool.true_and,e];cases decide (s+c.ins.length+eR cs<=2500)<;>cases codeOk x f c<;>cases hl x cs (f+1)<;>rfl
  ·rw[decide_eq_false ae,decide_eq_false ai];rfl
def Di{zX:Nat}(l:∀g∈x.o,g.vars.length<=1000000000)(hlen:∀c∈x.o,c.ins.length<=1000000000)(z:x.o.length<=1000000000){N:Nat}:∀(j k m q:Nat) (H:ad),k+j=x.o.length->j<m->q<=2500->H.get zX=D (.row Z 5 [[a,b,cc,d,J X x.main]])->c2 H ok x (.agg [a,b,cc,d,J X x.main])->aZ fr H ok x.o cc->
  W (lD (aC P ax) N m (.ptr zX 0 0) (J X q) cc (J X x.o.length) (J X k) H) λr H'=>r= y (pQ x (x.o.drop k) q k)/\ay H H'
 |_,_,0,_,_,_,hm,_,_,_,_=>ai
 |0,k,m+1,q,H,A,_,_,aT,aD,ak=>by
  have f:¬(k:Int)<(x.o.length:Int):=ai;simp-implicitDefEqProofs(disch:=try exact al)only[lD,rP,rQ,aq,aG,f,decide_false];rw[List.drop_of_length_le ai];exact aK.2 ⟨rfl,ay.refl _⟩
 |j+1,k,m+1,q,H,A,G,a8,aT,aD,ak=>by
  have f:(k:Int)<(x.o.length:Int):=ai;have h:k<x.o.length:=ai;obtain⟨pp,gv,gw,s,t,b8,cg⟩:=ak.pP (j:=(k:Int)) (g:=x.o[k]) ai (by simp[h]);have az:=hlen _ (List.getElem_mem h);have aN:x.o[k]? =D x.o[k]:=by simp[h]
  have on:=Di (zX:=zX) l hlen z (N:=N) j (k+1) m;rw[List.drop_eq_getElem_cons h,pQ];generalize x.o[k]=c at*;have st:=nK (c:=c) (v:=gv) (w:=gw) (ad.bq H (.row Z 7 [[J X 0,.aB,y Z,J X 0,J X 0,J X 0,.aB]])) b8.one cg.one;have i:=ay.push H (.row Z 7 [ct c gv gw]);have bP:=ad.bq H (.row Z 7 [ct c gv gw]);have n:=gj bP;have u:IntKind.i64.wrap ((q:Int)+(c.ins.length:Int))=((q+c.ins.length:Nat):Int):=by rw[wrap_i64 ai ai];omega
  by_cases ae:(2500:Int)<((q+c.ins.length:Nat):Int)
  ·simp-implicitDefEqProofs(disch:=try exact al)only[lD,rP,bf,Nat.reduceAdd,aq,aO,aG,aM,f,decide_true,s,t _ (ay.refl _),st,ad.fE,n,cg.len eb,u,ae];exact aK.2 ⟨by rw[decide_eq_false ai];rfl,i⟩
  ·simp-implicitDefEqProofs(disch:=try exact al)only[lD,rP,bf,Nat.reduceAdd,aq,aO,aG,aM,f,decide_true,decide_false,s,t _ (ay.refl _),st,ad.fE,n,cg.len eb,u,ae,ch (i.get aT)];refine cE (LH (aD.aI i) k aN l hlen) ?_;rintro _ K ⟨rfl,p⟩;refine⟨p.1,?_⟩;have e:=i.trans p;rw[decide_eq_true (show q+c.ins.length<=2500 by omega),Bool.true_and];cases L:codeOk x k c with
   |false=>
    simp-implicitDefEqProofs(disch:=try exact al)only[aq,Bool.not_false];exact aK.2 ⟨rfl,e⟩
   |true=>
    simp-implicitDefEqProofs(disch:=try exact al)only[aq,aG,Bool.not_true,c3 (show k<=1000000000 by omega)];refine(on (q+c.ins.length) K ai ai ai (e.get aT) (aD.aI e) (ak.aI e)).mono ?_;rintro r E ⟨rfl,B⟩;exact⟨by rw[Bool.true_and],e.trans B⟩
def LI{V:aa}(aD:c2 H ok x V)(h:∀g∈x.o,g.vars.length<=1000000000)(hlen:∀c∈x.o,c.ins.length<=1000000000)(i:x.o.length<=1000000000):W (aC P ax 76 [V] H) λr H'=>r= y (decide (eR x.o<=2500)&&hl x x.o 0)/\ay H H':=by
 obtain⟨_,rfl,a,b,cc,d,rfl,ae,ah,ak,au⟩:=aD;refine bZ (λ_=>U2 (x.o.length+1)) ?_;have e:=ay.push H (.row Z 5 [[a,b,cc,d,J X x.main]]);have f:=ad.bq H (.row Z 5 [[a,b,cc,d,J X x.main]]);simp-implicitDefEqProofs(disch:=try exact al)only[rO,bf,aq,aO,aM,dZ ae ah ak au,dy f,ak.len c0];refine(Di h hlen i x.o.length 0 (x.o.length+1) 0 _ ai ai ai f ⟨_,rfl,a,b,cc,d,rfl,ae.aI e,ah.aI e,ak.aI e,au.aI e⟩ (ak.aI e)).mono ?_;rintro r k ⟨rfl,j⟩;refine⟨?_,e.trans j⟩;have:=Dg x x.o 0 0 ai;rw[Nat.zero_add]at this;rw[List.drop_zero,this]
def zI{V:aa}(aD:c2 H ok x V)(Y:∀g∈x.o,g.vars.length<=1000000000)(hlen:∀c∈x.o,c.ins.length<=1000000000):W (aC P ax 35 [V] H) λr H'=>r= y (right x)/\ay H H':=by
 obtain⟨_,rfl,a,b,cc,d,rfl,ae,ah,ak,au⟩:=aD;refine bZ (λ_=>UQ 0) ?_;have A:=ay.push H (.row Z 5 [[a,b,cc,d,J X x.main]]);have e:=ad.bq H (.row Z 5 [[a,b,cc,d,J X x.main]]);have m:=dZ ae ah ak au x.main;have aj:(λl:List cz=>decide (l.length<=8)&&l.all (dB x.b1.length))=j1 x:=rfl;have bad:¬(x.b1.length<=12/\x.globals.length<=8/\1<=x.o.length/\x.o.length<=16/\x.sites.length<=60)->W (D (aa.bool Z,H.push (.row Z 5 [[a,b,cc,d,J X x.main]]))) λr H'=>r= y (right x)/\ay H H':=λh=>aK.2 ⟨by rw[right,decide_eq_false h];rfl,A⟩
 by_cases i:(12:Int)<(x.b1.length:Int)
 ·simp-implicitDefEqProofs(disch:=try exact al)only[hR,bf,aq,aO,aG,aM,m,dy e,ae.len en,i,decide_true];exact bad ai
 by_cases n:(8:Int)<(x.globals.length:Int)
 ·simp-implicitDefEqProofs(disch:=try exact al)only[hR,bf,aq,aO,aG,aM,m,dy e,ae.len en,ah.len dh,i,n,decide_true,decide_false];exact bad ai
 cases k:((x.o.length:Int)==0)with
 |true=>
  have U:(x.o.length:Int)=0:=by simpa using k
  simp-implicitDefEqProofs(disch:=try exact al)only[hR,bf,aq,aO,aG,aM,m,dy e,ae.len en,ah.len dh,ak.len c0,i,n,k,decide_false];exact bad ai
 |false=>
 have U:¬(x.o.length:Int)=0:=by simpa using k
 by_cases q:(16:Int)<(x.o.length:Int)
 ·simp-implicitDefEqProofs(disch:=try exact al)only[hR,bf,aq,aO,aG,aM,m,dy e,ae.len en,ah.len dh,ak.len c0,i,n,k,q,decide_true,decide_false];exact bad ai
 by_cases s:(60:Int)<(x.sites.length:Int)
 ·simp-implicitDefEqProofs(disch:=try exact al)only[hR,bf,aq,aO,aG,aM,m,dy e,ae.len en,ah.len dh,ak.len c0,au.len e4,i,n,k,q,s,decide_true,decide_false];exact bad ai
 have ag:decide (x.b1.length<=12/\x.globals.length<=8/\1<=x.o.length/\x.o.length<=16/\x.sites.length<=60)=true:=by simp;omega
 have af:right x=(gS x&&(x.globals.all (dB x.b1.length)&&(x.b1.all (j1 x)&&(x.sites.all (gV x)&&(decide (eR x.o<=2500)&&hl x x.o 0))))):=by rw[right,ag,aj,Bool.true_and]
 rw[af];by_cases t:x.main<0
 ·simp-implicitDefEqProofs(disch:=try exact al)only[hR,bf,aq,aO,aG,aM,m,dy e,ae.len en,ah.len dh,ak.len c0,au.len e4,i,n,k,q,s,t,decide_true,decide_false];exact aK.2 ⟨by rw[gS,eL.2 (.inl t)];rfl,A⟩
 by_cases z:(x.o.length:Int)<=x.main
 ·simp-implicitDefEqProofs(disch:=try exact al)only[hR,bf,aq,aO,aG,aM,m,dy e,ae.len en,ah.len dh,ak.len c0,au.len e4,i,n,k,q,s,t,z,decide_true,decide_false];exact aK.2 ⟨by rw[gS,eL.2 (.inr z)];rfl,A⟩
 have mlt:x.main.toNat<x.o.length:=ai;have ab:gS x=(x.o[x.main.toNat].params==0&& !x.o[x.main.toNat].has):=by
  rw[gS,hj ai];simp[mlt]
 obtain⟨pp,gv,gw,M,N,b8,cg⟩:=(ak.aI A).pP (j:=x.main) (g:=x.o[x.main.toNat]) ai (by simp[mlt]);rw[ab];generalize x.o[x.main.toNat]=c at*;have st:=nK (c:=c) (v:=gv) (w:=gw) (ad.bq (H.push (.row Z 5 [[a,b,cc,d,J X x.main]])) (.row Z 7 [[J X 0,.aB,y Z,J X 0,J X 0,J X 0,.aB]])) b8.one cg.one;simp only[jc]at st;have T:=ay.push (H.push (.row Z 5 [[a,b,cc,d,J X x.main]])) (.row Z 7 [ct c gv gw]);have f:=A.trans T;have bP:=ad.bq (H.push (.row Z 5 [[a,b,cc,d,J X x.main]])) (.row Z 7 [ct c gv gw]);simp only[jc]at bP;have u:=gj bP;have aT:=T.get e
 cases L:(c.params==0)with
 |false=>
  simp-implicitDefEqProofs(disch:=try exact al)only[hR,bf,Nat.reduceAdd,aq,aO,aG,aM,ad.ds,m,dy e,ae.len en,ah.len dh,ak.len c0,au.len e4,i,n,k,q,s,t,z,decide_false,M,N _ (ay.refl _),st,ad.fE,u,L];exact aK.2 ⟨rfl,f⟩
 |true=>
 cases O:c.has with
 |true=>
  rw[O]at u;simp-implicitDefEqProofs(disch:=try exact al)only[hR,bf,Nat.reduceAdd,aq,aO,aG,aM,ad.ds,m,dy e,ae.len en,ah.len dh,ak.len c0,au.len e4,i,n,k,q,s,t,z,decide_false,M,N _ (ay.refl _),st,ad.fE,u,L,Bool.not_true];exact aK.2 ⟨rfl,f⟩
 |false=>
 rw[O]at u;simp-implicitDefEqProofs(disch:=try exact al)only[hR,bf,Nat.reduceAdd,aq,aO,aG,aM,ad.ds,m,dy e,ae.len en,ah.len dh,ak.len c0,au.len e4,i,n,k,q,s,t,z,decide_false,M,N _ (ay.refl _),st,ad.fE,u,L,Bool.not_false,ch aT];generalize (H.push (.row Z 5 [[a,b,cc,d,J X x.main]])).push (.row Z 7 [ct c gv gw])=H0 at*;generalize H.next=zX at*
 have B:c2 H0 ok x (.agg [a,b,cc,d,J X x.main]):=⟨_,rfl,a,b,cc,d,rfl,ae.aI f,ah.aI f,ak.aI f,au.aI f⟩;refine cE (ZJ B ai) ?_;rintro _ K ⟨rfl,p⟩;refine⟨p.1,?_⟩;cases t1:x.b1.all (j1 x)with
 |false=>
  simp-implicitDefEqProofs(disch:=try exact al)only[aq];exact aK.2 ⟨by simp,f.trans p⟩
 |true=>
 simp-implicitDefEqProofs(disch:=try exact al)only[aq,aO,aM,ch (p.get aT),dy (p.get aT)];refine cE (Ex (B.aI p) ((ah.aI f).aI p) ai) ?_;rintro _ am ⟨rfl,Q⟩;refine⟨Q.1,?_⟩;have E:=p.trans Q;cases t2:x.globals.all (dB x.b1.length)with
 |false=>
  simp-implicitDefEqProofs(disch:=try exact al)only[aq];exact aK.2 ⟨by simp,f.trans E⟩
 |true=>
 simp-implicitDefEqProofs(disch:=try exact al)only[aq,ch (E.get aT)];refine cE (OM (B.aI E) ai) ?_;rintro _ an ⟨rfl,R⟩;refine⟨R.1,?_⟩;have G:=E.trans R;cases t3:x.sites.all (gV x)with
 |false=>
  simp-implicitDefEqProofs(disch:=try exact al)only[aq];exact aK.2 ⟨by simp,f.trans G⟩
 |true=>
 simp-implicitDefEqProofs(disch:=try exact al)only[aq,ch (G.get aT)];refine cE (LI (B.aI G) Y hlen ai) ?_;rintro _ ao ⟨rfl,S⟩;refine⟨S.1,?_⟩;simp-implicitDefEqProofs(disch:=try exact al)only[aq];exact aK.2 ⟨by simp,f.trans (G.trans S)⟩
