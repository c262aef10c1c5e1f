/-
  Texts of one proof, laid together: Og Oh Oi.
-/
import Derived.Test.YtmhhnnklfcbgfaaGreatMJ
set_option linter.unusedVariables false
set_option linter.unusedSimpArgs false
set_option linter.defProp false
open Option renaming some→D
open Bool renaming true→C,false→Z
open Go.bz.ae renaming int→J,bool→A
open Go.IntKind renaming i64→X
namespace Go.Proofs.YtmhhnnklfcbgfaaGreat
open Go.bz
section
open Go.a2
set_option maxRecDepth 2000
section
variable {H:ad}{ok:Nat->Prop}{x:bj}{f:Nat}{c:bH}{i:In}{a b cc d v w wi:ae}
def zm(t:cv):nm P 46 (cU t) 2=D (J X t.d):=aF
def mN(c:bH)(t:cv)(n:Int):eR c t [n]=decide (aY c n≠bl/\aY c n=t):=by
 rw[r3];by_cases h:aY c n=t
 ·simp[h]
 ·simp[h]
def hH{H:ad}{c:bH}{v w:ae}{zC:Nat}(h:H.get zC=D (.row Z 7 [cW c v w])):aI P H 3 (.ptr zC 0 0)=D (J X c.params)/\aI P H 23 (.ptr zC 0 1)=D v/\aI P H 4 (.ptr zC 0 2)=D (A c.has)/\aI P H 47 (.ptr zC 0 6)=D w:=by
 rw[cW]at h;simp-implicitDefEqProofs(disch:=try exact ai)only[R,h]
def oU{H:ad}{c:bH}{v w:ae}{zC:Nat}(h:H.get zC=D (.row Z 7 [cW c v w])):aI P H 46 (.ptr zC 0 3)=D (cU c.res):=
 gY (n:=3) (i:=0) (c:=3) aF aF h rfl (by exact Nat.le_add_left 6 1)
def pv{H:ad}{c:bH}{v w:ae}{L:Nat}{r:List ae}(h:H.get L=D (.row Z 7 [r]))(a:v.one=C)(hw:w.one=C)(au:r.length=7:=by rfl):cD P H 49 (.ptr L 0 0) (.agg (cW c v w))=D (H.set L (.row Z 7 [cW c v w])):=by
 rw[gf (n:=7) aF h rfl rfl (by simp[cW,ae.cells,a,hw];simp[ae.one]) bU];simp[cW,ae.cells,eZ,List.drop_of_length_le (Nat.le_of_eq au)]
def aO.p3{l:List bH}{v:ae}(h:aO fC H ok l v){j:Int}{g:bH}(a:0<=j)(b:l[j.toNat]? =D g):∃p gv gw,cm P 24 v (J X j)=D p/\(∀H',av H H'->aI P H' 49 p=D (.agg (cW g gv gw)))/\aO eV H ok g.vars gv/\aO fD H ok g.ins gw:=by
 obtain⟨p,cs,c,d,gv,gw,rfl,bR,b0⟩:=h.uP (K:=fC) cI Mc a b;exact⟨p,gv,gw,c,d,bR,b0⟩
def acG{g:bH}{gv gw:ae}{zX I G:Nat}(aS:H.get zX=D (.row Z 19 [cf x f c i a b cc d v w wi]))(h:H.get I=D (.row Z 6 [[J X i.op,J X i.a,J X i.b,J X i.c,J X i.n,wi]]))(eY:H.get G=D (.row Z 7 [cW g gv gw]))(k:g7 H ok x c i a b cc d v w wi)(j:c.vars.length<=1000000000){N:Nat}:
  W (qV (aQ P aK) N (.ptr zX 0 0) (.ptr I 0 0) (.ptr G 0 0) H) λr H'=>r= A (i.a== -1||(g.has&&decide (aY c i.a≠bl/\aY c i.a=g.res)))/\av H H':=by
 have m:=fA h;cases af:(i.a== -1)with
 |true=>
  simp-implicitDefEqProofs(disch:=try exact ai)only[qV,aj,aJ,aC,aL,o h,af];exact aG.2 ⟨rfl,av.refl _⟩
 |false=>
  cases ah:g.has with
  |false=>
   have e:=hH eY;rw[ah]at e;simp-implicitDefEqProofs(disch:=try exact ai)only[qV,aj,aJ,aC,aL,o h,e,af];exact aG.2 ⟨rfl,av.refl _⟩
  |true=>
   have e:=hH eY;rw[ah]at e;simp-implicitDefEqProofs(disch:=try exact ai)only[qV,aj,aJ,aC,aL,cC aS,o h,e,oU eY,af,ej,jv];refine cx (kR (k.aE (av.push _ _)) (t:=g.res) (l:=[i.a]) (gB _ bk trivial i.a) j (by simp)) ?_;rintro _ K ⟨rfl,p⟩;refine⟨p.1,?_⟩;simp-implicitDefEqProofs(disch:=try exact ai)only[aj];exact aG.2 ⟨by rw[mN];rfl,(av.push _ _).trans p⟩
def MG{g:bH}{gv gw:ae}{zX I G:Nat}(y:c.vars.length<=1000000000)(T:i.args.length<=g.vars.length)(Q:g.vars.length<=1000000000){N:Nat}:∀(j k m:Nat) (H:ad),k+j=i.args.length->j<m->H.get zX=D (.row Z 19 [cf x f c i a b cc d v w wi])->H.get I=D (.row Z 6 [[J X i.op,J X i.a,J X i.b,J X i.c,J X i.n,wi]])->H.get G=D (.row Z 7 [cW g gv gw])->g7 H ok x c i a b cc d v w wi->aO eV H ok g.vars gv->
  W (tI (aQ P aK) N m (.ptr zX 0 0) (.ptr I 0 0) (.ptr G 0 0) wi (J X i.args.length) (J X k) H) λr H'=>r= A (jW c g (i.args.drop k) k&&(i.a== -1||(g.has&&decide (aY c i.a≠bl/\aY c i.a=g.res))))/\av H H'
 |_,_,0,_,_,hm,_,_,_,_,_=>aa
 |0,k,m+1,H,S,_,aS,u,eY,o,s=>by
  have z:¬(k:Int)<(i.args.length:Int):=aa;simp-implicitDefEqProofs(disch:=try exact ai)only[tI,xS,aj,aC,z,decide_false];rw[List.drop_of_length_le aa,jW,Bool.true_and];exact acG aS u eY o y
 |j+1,k,m+1,H,S,hm,aS,u,eY,o,s=>by
  have z:(k:Int)<(i.args.length:Int):=aa;have L:k<i.args.length:=aa;have E:k<g.vars.length:=aa;obtain⟨ah,V,Y⟩:=o.i1.int (j:=(k:Int)) (a:=i.args[k]) aa (by simp[L]);obtain⟨O,ab,B⟩:=s.Ec (j:=(k:Int)) (t:=g.vars[k]) aa (by simp[E]);have on:=MG (g:=g) (gv:=gv) (gw:=gw) (zX:=zX) (I:=I) (G:=G) y T Q (N:=N) j (k+1) m;have R:g.vars[k]? =D g.vars[k]:=by simp[E]
  rw[List.drop_eq_getElem_cons L,jW,R];have pp:=av.push H (.row Z 1 [[J X i.args[k]]]);have M:=hH eY;have U:=hH (pp.get eY);simp-implicitDefEqProofs(disch:=try exact ai)only[tI,xS,aj,aJ,aC,aL,z,decide_true,V,Y,cC aS,M,ab,B _ (av.refl _),ej];refine aZ (kR (o.aE pp) (t:=g.vars[k]) (l:=[i.args[k]]) (gB _ bk trivial i.args[k]) y (by simp)) ?_;rintro _ K ⟨rfl,p⟩;refine⟨p.1,?_⟩;have q:=pp.trans p;simp-implicitDefEqProofs(disch:=try exact ai)only[aj,aJ,cC aS,cC (pp.get aS),M,U,B _ (av.refl _),B _ pp,lD o,eI s,cF];have e:(decide (aY c i.args[k]≠bl)&&decide (g.vars[k]=aY c i.args[k]))=eR c g.vars[k] [i.args[k]]:=by
   rw[mN];by_cases h:aY c i.args[k]=g.vars[k]
   ·simp[h]
   ·simp[h,eq_comm (a:=g.vars[k])]
  rw[<-Bool.and_assoc,e];cases ag:eR c g.vars[k] [i.args[k]]with
  |false=>
   simp-implicitDefEqProofs(disch:=try exact ai)only[aj,Bool.not_false];exact aG.2 ⟨by simp,q⟩
  |true=>
   simp-implicitDefEqProofs(disch:=try exact ai)only[aj,aC,Bool.not_true,cq (show k<=1000000000 by omega)];refine(on K aa aa (q.get aS) (q.get u) (q.get eY) (o.aE q) (s.aE q)).mono ?_;rintro r af ⟨rfl,O⟩;exact⟨by simp,q.trans O⟩
def acH(s:g7 H ok x c i a b cc d v w wi)(R:c.vars.length<=1000000000)(S:∀g∈x.ay,g.vars.length<=1000000000):W (aQ P aK 258 [.agg (cf x f c i a b cc d v w wi)] H) λr H'=>r= A (k7 x c i)/\av H H':=by
 refine Yy (i.args.length+1) ?_;have st:=oa (i:=i) (w:=wi) (ad.a_ (H.push (.row Z 19 [cf x f c i a b cc d v w wi])) (.row Z 6 [[J X 0,J X 0,J X 0,J X 0,J X 0,.aB]])) s.i1.one;simp only[kG]at st;have m:av H ((H.push (.row Z 19 [cf x f c i a b cc d v w wi])).push (.row Z 6 [b5 i wi])):=(av.push _ _).trans (av.push _ _);have aS:((H.push (.row Z 19 [cf x f c i a b cc d v w wi])).push (.row Z 6 [b5 i wi])).get H.next=D (.row Z 19 [cf x f c i a b cc d v w wi]):=(av.push _ _).get (ad.a_ _ _)
 have k:((H.push (.row Z 19 [cf x f c i a b cc d v w wi])).push (.row Z 6 [b5 i wi])).get (H.next+1)=D (.row Z 6 [[J X i.op,J X i.a,J X i.b,J X i.c,J X i.n,wi]]):=ad.a_ _ _;have ae:=fA k;simp-implicitDefEqProofs(disch:=try exact ai)only[CZ,Nat.reduceAdd,aj,aJ,aL,ad.dm,hE s f,vN (ad.a_ H (.row Z 19 [cf x f c i a b cc d v w wi])),st,ad.ga];have e:=s.aE m;generalize ((H.push (.row Z 19 [cf x f c i a b cc d v w wi])).push (.row Z 6 [b5 i wi]))=H0 at*;have kA:=ad.bE aS;have ab:=ad.bE k;generalize H.next+1=I at*
 generalize H.next=zX at*
 rw[k7];by_cases l:i.c<0
 ·simp-implicitDefEqProofs(disch:=try exact ai)only[aj,aC,o k,l,decide_true];exact aG.2 ⟨by rw[fc.2 (.inl l)],m⟩
 by_cases bR:(x.ay.length:Int)<=i.c
 ·simp-implicitDefEqProofs(disch:=try exact ai)only[aj,aJ,aC,aL,o k,fY aS,e.an.len cI,l,bR,decide_true,decide_false];exact aG.2 ⟨by rw[fc.2 (.inr bR)],m⟩
 have u:i.c.toNat<x.ay.length:=aa;have aP:dI x.ay i.c=D x.ay[i.c.toNat]:=by rw[iF aa];simp[u]
 obtain⟨p,gv,gw,B,E,t,O⟩:=e.an.p3 (j:=i.c) (g:=x.ay[i.c.toNat]) aa (by simp[u]);have T:=S _ (List.getElem_mem u);rw[aP];generalize x.ay[i.c.toNat]=G at*;simp only[];have K:=pv (c:=G) (v:=gv) (w:=gw) (ad.a_ H0 (.row Z 7 [[J X 0,.aB,A Z,J X 0,J X 0,J X 0,.aB]])) t.one O.one;have pp:=av.push H0 (.row Z 7 [cW G gv gw]);have eY:(H0.push (.row Z 7 [cW G gv gw])).get H0.next=D (.row Z 7 [cW G gv gw]):=ad.a_ _ _
 have Q:=pp.get aS;have L:=pp.get k;have z:=fA L;have y:=hH eY;have bad:¬(0<=G.params/\G.params<=G.vars.length/\(i.args.length:Int)=G.params)->(decide (0<=G.params/\G.params<=G.vars.length/\(i.args.length:Int)=G.params)&&(jW c G i.args 0&&(i.a== -1||G.has&&decide (aY c i.a≠bl/\aY c i.a=G.res))))=false:=λh=>by rw[decide_eq_false h,Bool.false_and]
 by_cases N:(i.args.length:Int)=G.params
 ·have q:((i.args.length:Int) != G.params)=false:=by simp[N]
  by_cases M:(G.vars.length:Int)<G.params
  ·simp-implicitDefEqProofs(disch:=try exact ai)only[br,Nat.reduceAdd,aj,aJ,aC,aL,o k,fY aS,e.an.len cI,e.i1.len b6,t.len cX,l,bR,B,E _ (av.refl _),K,ad.ga,z,y,q,M,decide_true,decide_false];exact aG.2 ⟨by rw[bad aa],m.trans pp⟩
  ·simp-implicitDefEqProofs(disch:=try exact ai)only[br,Nat.reduceAdd,aj,aJ,aC,aL,o k,fY aS,e.an.len cI,e.i1.len b6,t.len cX,l,bR,B,E _ (av.refl _),K,ad.ga,z,y,q,M,decide_false];have U:decide (0<=G.params/\G.params<=G.vars.length/\(i.args.length:Int)=G.params)=true:=by simp;omega
   rw[U,Bool.true_and];refine(MG (g:=G) R aa T i.args.length 0 (i.args.length+1) _ aa aa Q L eY (e.aE pp) (t.aE pp)).mono ?_;rintro r Y ⟨rfl,V⟩;exact⟨by rw[List.drop_zero],(m.trans pp).trans V⟩
 ·have q:((i.args.length:Int) != G.params)=true:=by simp[N]
  simp-implicitDefEqProofs(disch:=try exact ai)only[br,Nat.reduceAdd,aj,aJ,aC,aL,o k,fY aS,e.an.len cI,e.i1.len b6,l,bR,B,E _ (av.refl _),K,ad.ga,z,y,q,decide_false];exact aG.2 ⟨by rw[bad aa],m.trans pp⟩
def dN(x:bj)(f:Nat)(c:bH)(i:In):Bool:=
 let a:=aY c i.a
 let b:=aY c i.b
 let d:=aY c i.c
 match i.op with
 |1=>decide (a=cL)||(decide (a=dL)&&(i.n==0||i.n==1))
 |2=>decide (a≠bl)&&jM a
 |3=>decide (a≠bl/\a=b)
 |4=>gF i.n a b d
 |5=>(i.n==12&&decide (a=cL/\b=cL))||(i.n==13&&decide (a=dL/\b=dL))
 |6=>decide (a≠bl/\a=eD x b i.c)
 |7=>decide (b≠bl/\b=eD x a i.c)
 |8=>decide (a≠bl/\0<b.d/\d=cL/\a=less b)
 |9=>decide (d≠bl/\0<a.d/\b=cL/\d=less a)
 |10=>decide (a=cL/\0<b.d)
 |11=>decide (a≠bl/\a.b=3/\a.d=0)&&hP x f i.n a
 |12=>decide (0<a.d/\b=cL)&&hP x f i.n a
 |13=>k7 x c i
 |14=>decide (a=cL)
 |15=>decide (a=cL)
 |16=>within i.n c.ins.length
 |17=>decide (a=dL)&&(within i.n c.ins.length&&within i.c c.ins.length)
 |18=>bif c.has then decide (a≠bl/\a=c.res)else i.a== -1
 |19=>decide (a≠bl)&&decide (dI x.globals i.n=D a)
 |20=>decide (a≠bl)&&decide (dI x.globals i.n=D a)
 |_=>Z
def abe(x:bj)(f:Nat)(c:bH)(i:In):dy x f c i=(named i&&dN x f c i):=rfl
def Hl(x:bj)(c:bH)(n k:Int):vq x c n k=(decide (aY c k≠bl)&&decide (dI x.globals n=D (aY c k))):=by
 rw[vq];cases h:dI x.globals n with
 |none=>simp
 |some t=>simp only[mN,bb];by_cases e:aY c k=t<;>simp[e,eq_comm (a:=t)]
def LD(x:bj)(f:Nat)(c:bH)(n k:Int)(h:aY c k≠bl):yG x f c n k=hP x f n (aY c k):=by
 rw[yG,hP];cases dI x.sites n with
 |none=>rfl
 |some z=>
  simp only[mN];by_cases e:aY c k=z.ty
  ·have ah:z.ty≠bl:=e▸h;simp[e,ah]
  ·simp[e,eq_comm (a:=z.ty)]
def acJ(s:g7 H ok x c i a b cc d v w wi)(y:c.vars.length<=1000000000)(V:∀g∈x.ay,g.vars.length<=1000000000)(B:13<=i.op)(E:i.op<=20):W (aQ P aK 249 [.agg (cf x f c i a b cc d v w wi)] H) λr H'=>r= A (dN x f c i)/\av H H':=by
 refine Ys 0 ?_;have st:=oa (i:=i) (w:=wi) (ad.a_ (H.push (.row Z 19 [cf x f c i a b cc d v w wi])) (.row Z 6 [[J X 0,J X 0,J X 0,J X 0,J X 0,.aB]])) s.i1.one;simp only[kG]at st;have h:av H ((H.push (.row Z 19 [cf x f c i a b cc d v w wi])).push (.row Z 6 [b5 i wi])):=(av.push _ _).trans (av.push _ _);have aS:((H.push (.row Z 19 [cf x f c i a b cc d v w wi])).push (.row Z 6 [b5 i wi])).get H.next=D (.row Z 19 [cf x f c i a b cc d v w wi]):=(av.push _ _).get (ad.a_ _ _)
 have k:((H.push (.row Z 19 [cf x f c i a b cc d v w wi])).push (.row Z 6 [b5 i wi])).get (H.next+1)=D (.row Z 6 [[J X i.op,J X i.a,J X i.b,J X i.c,J X i.n,wi]]):=ad.a_ _ _;have q:=fA k;simp-implicitDefEqProofs(disch:=try exact ai)only[CT,Nat.reduceAdd,aj,aJ,aL,ad.dm,hE s f,vN (ad.a_ H (.row Z 19 [cf x f c i a b cc d v w wi])),st,ad.ga];have m:=s.aE h;generalize ((H.push (.row Z 19 [cf x f c i a b cc d v w wi])).push (.row Z 6 [b5 i wi]))=H0 at*;have kA:=ad.bE aS;have ae:=ad.bE k;generalize H.next+1=I at*
 generalize H.next=zX at*
 by_cases B:i.op=13
 ·have t:∀j:Int,(i.op==j)=(13==j):=λj=>by rw[B]
  have e:dN x f c i=k7 x c i:=by simp only[dN,B]
  rw[e];clear e;simp-implicitDefEqProofs(disch:=try exact ai)only[aj,aC,q,cC aS,t,Int.reduceBEq];refine aZ (acH m y V) ?_;rintro _ K ⟨rfl,p⟩;exact⟨p.1,aG.2 ⟨rfl,h.trans p⟩⟩
 by_cases L:i.op=14
 ·have t:∀j:Int,(i.op==j)=(14==j):=λj=>by rw[L]
  have e:dN x f c i=decide (aY c i.a=cL):=by simp only[dN,L]
  rw[e];clear e;simp-implicitDefEqProofs(disch:=try exact ai)only[m0,lI,aj,aJ,aC,aL,q,cC aS,o k,t,Int.reduceBEq,ej];refine aZ (ju (m.aE (av.push _ _)) (gB _ bk trivial i.a) y (by simp)) ?_;rintro _ K ⟨rfl,p⟩;exact⟨p.1,aG.2 ⟨by rw[iO];simp,h.trans ((av.push _ _).trans p)⟩⟩
 by_cases M:i.op=15
 ·have t:∀j:Int,(i.op==j)=(15==j):=λj=>by rw[M]
  have e:dN x f c i=decide (aY c i.a=cL):=by simp only[dN,M]
  rw[e];clear e;simp-implicitDefEqProofs(disch:=try exact ai)only[m0,lI,aj,aJ,aC,aL,q,cC aS,o k,t,Int.reduceBEq,ej];refine aZ (ju (m.aE (av.push _ _)) (gB _ bk trivial i.a) y (by simp)) ?_;rintro _ K ⟨rfl,p⟩;exact⟨p.1,aG.2 ⟨by rw[iO];simp,h.trans ((av.push _ _).trans p)⟩⟩
 by_cases N:i.op=16
 ·have t:∀j:Int,(i.op==j)=(16==j):=λj=>by rw[N]
  have e:dN x f c i=within i.n c.ins.length:=by simp only[dN,N]
  rw[e];clear e;simp-implicitDefEqProofs(disch:=try exact ai)only[m0,lI,aj,aJ,aC,aL,q,cC aS,o k,t,Int.reduceBEq];refine aZ (Ee m i.n) ?_;rintro _ K ⟨rfl,p⟩;exact⟨p.1,aG.2 ⟨rfl,h.trans p⟩⟩
 by_cases O:i.op=17
 ·have t:∀j:Int,(i.op==j)=(17==j):=λj=>by rw[O]
  have e:dN x f c i=(decide (aY c i.a=dL)&&(within i.n c.ins.length&&within i.c c.ins.length)):=by simp only[dN,O]
  rw[e];clear e;simp-implicitDefEqProofs(disch:=try exact ai)only[m0,lI,aj,aJ,aC,aL,q,cC aS,o k,t,Int.reduceBEq,ej];refine aZ (m_ (m.aE (av.push _ _)) (gB _ bk trivial i.a) y (by simp)) ?_;rintro _ K ⟨rfl,p⟩;refine⟨p.1,?_⟩;have u:=(av.push H0 (.row Z 1 [[J X i.a]])).trans p;have e:eR c dL [i.a]=decide (aY c i.a=dL):=by rw[j5];simp
  rw[e];cases Y:decide (aY c i.a=dL)with
  |false=>
   simp-implicitDefEqProofs(disch:=try exact ai)only[aj];exact aG.2 ⟨by simp,h.trans u⟩
  |true=>
   simp-implicitDefEqProofs(disch:=try exact ai)only[aj,aJ,aL,cC (u.get aS),o (u.get k)];refine cx (Ee (m.aE u) i.n) ?_;rintro _ aa ⟨rfl,T⟩;refine⟨T.1,?_⟩;have z:=u.trans T;cases hw:within i.n c.ins.length with
   |false=>
    simp-implicitDefEqProofs(disch:=try exact ai)only[aj];exact aG.2 ⟨by simp,h.trans z⟩
   |true=>
    simp-implicitDefEqProofs(disch:=try exact ai)only[aj,aJ,aL,cC (z.get aS),o (z.get k)];refine cx (Ee (m.aE z) i.c) ?_;rintro _ ab ⟨rfl,U⟩;refine⟨U.1,?_⟩;simp-implicitDefEqProofs(disch:=try exact ai)only[aj];exact aG.2 ⟨by simp,h.trans (z.trans U)⟩
 by_cases Q:i.op=18
 ·have t:∀j:Int,(i.op==j)=(18==j):=λj=>by rw[Q]
  have e:dN x f c i=bif c.has then decide (aY c i.a≠bl/\aY c i.a=c.res)else i.a== -1:=by simp only[dN,Q]
  rw[e];clear e;cases G:c.has with
  |true=>
   have lv:=fY aS;rw[G]at lv;simp-implicitDefEqProofs(disch:=try exact ai)only[m0,lI,Nat.reduceAdd,aj,aJ,aC,aL,q,cC aS,o k,jv,t,Int.reduceBEq,ej,lv,Un aS];refine cx (kR (m.aE (av.push _ _)) (t:=c.res) (l:=[i.a]) (gB _ bk trivial i.a) y (by simp)) ?_;rintro _ K ⟨rfl,p⟩;refine⟨p.1,?_⟩;have u:=(av.push H0 (.row Z 1 [[J X i.a]])).trans p;have S:=fY (u.get aS);rw[G]at S;rw[<-mN];cases Y:eR c c.res [i.a]with
   |true=>
    simp-implicitDefEqProofs(disch:=try exact ai)only[aj];exact aG.2 ⟨rfl,h.trans u⟩
   |false=>
    simp-implicitDefEqProofs(disch:=try exact ai)only[Nat.reduceAdd,aj,aJ,aL,S,Bool.not_true];exact aG.2 ⟨rfl,h.trans u⟩
  |false=>
   have lv:=fY aS;rw[G]at lv;simp-implicitDefEqProofs(disch:=try exact ai)only[m0,lI,Nat.reduceAdd,aj,aJ,aC,aL,q,o k,t,Int.reduceBEq,lv,Bool.not_false];exact aG.2 ⟨rfl,h⟩
 by_cases R:i.op=19
 ·have t:∀j:Int,(i.op==j)=(19==j):=λj=>by rw[R]
  have e:dN x f c i=(decide (aY c i.a≠bl)&&decide (dI x.globals i.n=D (aY c i.a))):=by simp only[dN,R]
  rw[e];clear e;simp-implicitDefEqProofs(disch:=try exact ai)only[m0,lI,aj,aJ,aC,aL,q,cC aS,o k,t,Int.reduceBEq];refine aZ (MI m i.n i.a y) ?_;rintro _ K ⟨rfl,p⟩;exact⟨p.1,aG.2 ⟨by rw[Hl],h.trans p⟩⟩
 by_cases E:i.op=20
 ·have t:∀j:Int,(i.op==j)=(20==j):=λj=>by rw[E]
  have e:dN x f c i=(decide (aY c i.a≠bl)&&decide (dI x.globals i.n=D (aY c i.a))):=by simp only[dN,E]
  rw[e];clear e;simp-implicitDefEqProofs(disch:=try exact ai)only[m0,lI,aj,aJ,aC,aL,q,cC aS,o k,t,Int.reduceBEq];refine aZ (MI m i.n i.a y) ?_;rintro _ K ⟨rfl,p⟩;exact⟨p.1,aG.2 ⟨by rw[Hl],h.trans p⟩⟩
 omega
def acI(s:g7 H ok x c i a b cc d v w wi)(z:c.vars.length<=1000000000)(aA:∀g∈x.ay,g.vars.length<=1000000000)(ar:∀v,(aY c v).d<=1000)(af:1<=i.op)(az:i.op<=20):W (aQ P aK 218 [.agg (cf x f c i a b cc d v w wi)] H) λr H'=>r= A (dN x f c i)/\av H H':=by
 refine X9 0 ?_;have st:=oa (i:=i) (w:=wi) (ad.a_ (H.push (.row Z 19 [cf x f c i a b cc d v w wi])) (.row Z 6 [[J X 0,J X 0,J X 0,J X 0,J X 0,.aB]])) s.i1.one;simp only[kG]at st;have k:av H ((H.push (.row Z 19 [cf x f c i a b cc d v w wi])).push (.row Z 6 [b5 i wi])):=(av.push _ _).trans (av.push _ _);have aS:((H.push (.row Z 19 [cf x f c i a b cc d v w wi])).push (.row Z 6 [b5 i wi])).get H.next=D (.row Z 19 [cf x f c i a b cc d v w wi]):=(av.push _ _).get (ad.a_ _ _)
 have m:((H.push (.row Z 19 [cf x f c i a b cc d v w wi])).push (.row Z 6 [b5 i wi])).get (H.next+1)=D (.row Z 6 [[J X i.op,J X i.a,J X i.b,J X i.c,J X i.n,wi]]):=ad.a_ _ _;have E:=fA m;simp-implicitDefEqProofs(disch:=try exact ai)only[Cy,Nat.reduceAdd,aj,aJ,aL,ad.dm,hE s f,vN (ad.a_ H (.row Z 19 [cf x f c i a b cc d v w wi])),st,ad.ga];have y:=s.aE k;generalize ((H.push (.row Z 19 [cf x f c i a b cc d v w wi])).push (.row Z 6 [b5 i wi]))=H0 at*;have kA:=ad.bE aS;have a4:=ad.bE m;generalize H.next+1=I at*
 generalize H.next=zX at*
 by_cases af:i.op=1
 ·have t:∀j:Int,(i.op==j)=(1==j):=λj=>by rw[af]
  have e:dN x f c i=(decide (aY c i.a=cL)||(decide (aY c i.a=dL)&&(i.n==0||i.n==1))):=by simp only[dN,af]
  rw[e];clear e;simp-implicitDefEqProofs(disch:=try exact ai)only[aj,aJ,aC,aL,E,cC aS,o m,t,Int.reduceBEq,ej];refine aZ (ju (y.aE (av.push _ _)) (gB _ bk trivial i.a) z (by simp)) ?_;rintro _ K ⟨rfl,p⟩;refine⟨p.1,?_⟩;have B:=(av.push H0 (.row Z 1 [[J X i.a]])).trans p;have e:eR c cL [i.a]=decide (aY c i.a=cL):=by rw[iO];simp
  rw[e];cases M:decide (aY c i.a=cL)with
  |true=>
   simp-implicitDefEqProofs(disch:=try exact ai)only[aj];exact aG.2 ⟨by simp,k.trans B⟩
  |false=>
   simp-implicitDefEqProofs(disch:=try exact ai)only[aj,aJ,aL,cC (B.get aS),o (B.get m),ej,jv];refine cx (m_ ((y.aE B).aE (av.push _ _)) (gB _ bk trivial i.a) z (by simp)) ?_;rintro _ N ⟨rfl,q⟩;refine⟨q.1,?_⟩;have G:=B.trans ((av.push _ _).trans q);have e:eR c dL [i.a]=decide (aY c i.a=dL):=by rw[j5];simp
   rw[e];cases hw:decide (aY c i.a=dL)with
   |false=>
    simp-implicitDefEqProofs(disch:=try exact ai)only[aj];exact aG.2 ⟨by simp,k.trans G⟩
   |true=>
    cases c4:(i.n==0)with
    |true=>
     simp-implicitDefEqProofs(disch:=try exact ai)only[aj,aJ,aC,aL,o (G.get m),c4];exact aG.2 ⟨by simp,k.trans G⟩
    |false=>
     simp-implicitDefEqProofs(disch:=try exact ai)only[aj,aJ,aC,aL,o (G.get m),c4];exact aG.2 ⟨by simp,k.trans G⟩
 have aI:(i.op==1)=false:=beq_eq_false_iff_ne.2 af;by_cases ah:i.op=2
 ·have t:∀j:Int,(i.op==j)=(2==j):=λj=>by rw[ah]
  have e:dN x f c i=(decide (aY c i.a≠bl)&&jM (aY c i.a)):=by simp only[dN,ah]
  rw[e];clear e;simp-implicitDefEqProofs(disch:=try exact ai)only[aj,aJ,aC,aL,E,cC aS,o m,t,Int.reduceBEq];refine aZ (mo y i.a z) ?_;rintro _ K ⟨rfl,p⟩;refine⟨p.1,?_⟩;refine aZ (An (aY c i.a)) ?_;rintro _ N ⟨rfl,q⟩;refine⟨q.1,aG.2 ⟨?_,k.trans (p.trans q)⟩⟩;by_cases h:aY c i.a=bl
  ·rw[h];rfl
  ·rw[decide_eq_true h,Bool.true_and]
 have aR:(i.op==2)=false:=beq_eq_false_iff_ne.2 ah;by_cases an:i.op=3
 ·have t:∀j:Int,(i.op==j)=(3==j):=λj=>by rw[an]
  have e:dN x f c i=decide (aY c i.a≠bl/\aY c i.a=aY c i.b):=by simp only[dN,an]
  rw[e];clear e;simp-implicitDefEqProofs(disch:=try exact ai)only[aj,aJ,aC,aL,E,cC aS,o m,t,Int.reduceBEq];refine aZ (mo y i.a z) ?_;rintro _ K ⟨rfl,p⟩;refine⟨p.1,?_⟩;simp-implicitDefEqProofs(disch:=try exact ai)only[aj,aJ,aL,cC (p.get aS),o (p.get m),ej];refine aZ (kR ((y.aE p).aE (av.push _ _)) (t:=aY c i.a) (l:=[i.b]) (gB _ bk trivial i.b) z (by simp)) ?_;rintro _ N ⟨rfl,q⟩;refine⟨q.1,?_⟩;have G:=p.trans ((av.push _ _).trans q);simp-implicitDefEqProofs(disch:=try exact ai)only[aj,aJ,cC aS,cC (p.get aS),cC (((av.push K _).get (p.get aS))),o m,o (p.get m),lD y];refine aG.2 ⟨?_,k.trans G⟩;rw[r3]
  by_cases h:aY c i.a=aY c i.b
  ·simp[h]
  ·simp[h,eq_comm (a:=aY c i.b)]
 have aT:(i.op==3)=false:=beq_eq_false_iff_ne.2 an;by_cases aM:i.op=4
 ·have t:∀j:Int,(i.op==j)=(4==j):=λj=>by rw[aM]
  have e:dN x f c i=gF i.n (aY c i.a) (aY c i.b) (aY c i.c):=by simp only[dN,aM]
  rw[e];clear e;simp-implicitDefEqProofs(disch:=try exact ai)only[aj,aC,E,cC aS,t,Int.reduceBEq];refine aZ (acP y z) ?_;rintro _ K ⟨rfl,p⟩;exact⟨p.1,aG.2 ⟨rfl,k.trans p⟩⟩
 have aU:(i.op==4)=false:=beq_eq_false_iff_ne.2 aM;by_cases ag:i.op=5
 ·have t:∀j:Int,(i.op==j)=(5==j):=λj=>by rw[ag]
  have e:dN x f c i=((i.n==12&&decide (aY c i.a=cL/\aY c i.b=cL))||(i.n==13&&decide (aY c i.a=dL/\aY c i.b=dL))):=by simp only[dN,ag]
  rw[e];clear e;cases c4:(i.n==12)with
  |true=>
   have cJ:(i.n==13)=false:=by
    have h:i.n=12:=by simpa using c4
    rw[h];rfl
   simp-implicitDefEqProofs(disch:=try exact ai)only[aj,aJ,aC,aL,E,cC aS,o m,jv,t,Int.reduceBEq,yH,c4];refine cx (ju (y.aE (av.push _ _)) (yI _ bk trivial i.a i.b) z (by simp)) ?_;rintro _ K ⟨rfl,p⟩;refine⟨p.1,?_⟩;have B:=(av.push H0 (.row Z 1 [[J X i.a],[J X i.b]])).trans p;cases M:eR c cL [i.a,i.b]with
   |true=>
    simp-implicitDefEqProofs(disch:=try exact ai)only[aj];exact aG.2 ⟨by rw[iO]at M;simp at M;simp[M],k.trans B⟩
   |false=>
    simp-implicitDefEqProofs(disch:=try exact ai)only[aj,aJ,aC,aL,o (B.get m),cJ];refine aG.2 ⟨?_,k.trans B⟩;rw[iO]at M;have h:¬(aY c i.a=cL/\aY c i.b=cL):=λh=>by simp[h]at M
    rw[decide_eq_false h];rfl
  |false=>
   cases cJ:(i.n==13)with
   |false=>
    simp-implicitDefEqProofs(disch:=try exact ai)only[aj,aJ,aC,aL,E,o m,t,Int.reduceBEq,c4,cJ];exact aG.2 ⟨by simp,k⟩
   |true=>
    simp-implicitDefEqProofs(disch:=try exact ai)only[aj,aJ,aC,aL,E,cC aS,o m,jv,t,Int.reduceBEq,yH,c4,cJ];refine cx (m_ (y.aE (av.push _ _)) (yI _ bk trivial i.a i.b) z (by simp)) ?_;rintro _ K ⟨rfl,p⟩;refine⟨p.1,?_⟩;simp-implicitDefEqProofs(disch:=try exact ai)only[aj];refine aG.2 ⟨?_,k.trans ((av.push _ _).trans p)⟩;rw[j5];simp
 have aV:(i.op==5)=false:=beq_eq_false_iff_ne.2 ag;by_cases ak:i.op=6
 ·have t:∀j:Int,(i.op==j)=(6==j):=λj=>by rw[ak]
  have e:dN x f c i=decide (aY c i.a≠bl/\aY c i.a=eD x (aY c i.b) i.c):=by simp only[dN,ak]
  rw[e];clear e;simp-implicitDefEqProofs(disch:=try exact ai)only[aj,aJ,aC,aL,E,cC aS,o m,t,Int.reduceBEq];refine aZ (MH y i.b i.c i.a z) ?_;rintro _ K ⟨rfl,p⟩;exact⟨p.1,aG.2 ⟨by rw[mN],k.trans p⟩⟩
 have aW:(i.op==6)=false:=beq_eq_false_iff_ne.2 ak;by_cases al:i.op=7
 ·have t:∀j:Int,(i.op==j)=(7==j):=λj=>by rw[al]
  have e:dN x f c i=decide (aY c i.b≠bl/\aY c i.b=eD x (aY c i.a) i.c):=by simp only[dN,al]
  rw[e];clear e;simp-implicitDefEqProofs(disch:=try exact ai)only[aj,aJ,aC,aL,E,cC aS,o m,t,Int.reduceBEq];refine aZ (MH y i.a i.c i.b z) ?_;rintro _ K ⟨rfl,p⟩;exact⟨p.1,aG.2 ⟨by rw[mN],k.trans p⟩⟩
 have aX:(i.op==7)=false:=beq_eq_false_iff_ne.2 al;by_cases am:i.op=8
 ·have t:∀j:Int,(i.op==j)=(8==j):=λj=>by rw[am]
  have e:dN x f c i=decide (aY c i.a≠bl/\0<(aY c i.b).d/\aY c i.c=cL/\aY c i.a=less (aY c i.b)):=by simp only[dN,am]
  rw[e];clear e;simp-implicitDefEqProofs(disch:=try exact ai)only[aj,aJ,aC,aL,E,cC aS,o m,t,Int.reduceBEq];refine aZ (MF y i.b i.a z (ar _)) ?_;rintro _ K ⟨rfl,p⟩;refine⟨p.1,?_⟩;rw[mN];by_cases L:0<(aY c i.b).d
  ·by_cases af:aY c i.a≠bl/\aY c i.a=less (aY c i.b)
   ·rw[decide_eq_true L,decide_eq_true af];simp-implicitDefEqProofs(disch:=try exact ai)only[aj,aJ,aL,cC (p.get aS),o (p.get m),ej,jv];refine cx (ju ((y.aE p).aE (av.push _ _)) (gB _ bk trivial i.c) z (by simp)) ?_;rintro _ N ⟨rfl,q⟩;refine⟨q.1,?_⟩;simp-implicitDefEqProofs(disch:=try exact ai)only[aj,aJ];refine aG.2 ⟨?_,k.trans (p.trans ((av.push _ _).trans q))⟩;have g:decide (aY c i.a≠bl/\0<(aY c i.b).d/\aY c i.c=cL/\aY c i.a=less (aY c i.b))=decide (aY c i.c=cL):=by
     by_cases aH:aY c i.c=cL
     ·rw[decide_eq_true aH,decide_eq_true ⟨af.1,L,aH,af.2⟩]
     ·rw[decide_eq_false aH,decide_eq_false (λh=>aH h.2.2.1)]
    rw[iO,g];simp
   ·rw[decide_eq_true L,decide_eq_false af];simp-implicitDefEqProofs(disch:=try exact ai)only[aj,Bool.and_false];refine aG.2 ⟨?_,k.trans p⟩;rw[decide_eq_false];exactλh=>af ⟨h.1,h.2.2.2⟩
  ·rw[decide_eq_false L];simp-implicitDefEqProofs(disch:=try exact ai)only[aj,Bool.false_and];refine aG.2 ⟨?_,k.trans p⟩;rw[decide_eq_false];exactλh=>L h.2.1
 have a0:(i.op==8)=false:=beq_eq_false_iff_ne.2 am;by_cases ao:i.op=9
 ·have t:∀j:Int,(i.op==j)=(9==j):=λj=>by rw[ao]
  have e:dN x f c i=decide (aY c i.c≠bl/\0<(aY c i.a).d/\aY c i.b=cL/\aY c i.c=less (aY c i.a)):=by simp only[dN,ao]
  rw[e];clear e;simp-implicitDefEqProofs(disch:=try exact ai)only[aj,aJ,aC,aL,E,cC aS,o m,t,Int.reduceBEq];refine aZ (MF y i.a i.c z (ar _)) ?_;rintro _ K ⟨rfl,p⟩;refine⟨p.1,?_⟩;rw[mN];by_cases L:0<(aY c i.a).d
  ·by_cases af:aY c i.c≠bl/\aY c i.c=less (aY c i.a)
   ·rw[decide_eq_true L,decide_eq_true af];simp-implicitDefEqProofs(disch:=try exact ai)only[aj,aJ,aL,cC (p.get aS),o (p.get m),ej,jv];refine cx (ju ((y.aE p).aE (av.push _ _)) (gB _ bk trivial i.b) z (by simp)) ?_;rintro _ N ⟨rfl,q⟩;refine⟨q.1,?_⟩;simp-implicitDefEqProofs(disch:=try exact ai)only[aj,aJ];refine aG.2 ⟨?_,k.trans (p.trans ((av.push _ _).trans q))⟩;have g:decide (aY c i.c≠bl/\0<(aY c i.a).d/\aY c i.b=cL/\aY c i.c=less (aY c i.a))=decide (aY c i.b=cL):=by
     by_cases aH:aY c i.b=cL
     ·rw[decide_eq_true aH,decide_eq_true ⟨af.1,L,aH,af.2⟩]
     ·rw[decide_eq_false aH,decide_eq_false (λh=>aH h.2.2.1)]
    rw[iO,g];simp
   ·rw[decide_eq_true L,decide_eq_false af];simp-implicitDefEqProofs(disch:=try exact ai)only[aj,Bool.and_false];refine aG.2 ⟨?_,k.trans p⟩;rw[decide_eq_false];exactλh=>af ⟨h.1,h.2.2.2⟩
  ·rw[decide_eq_false L];simp-implicitDefEqProofs(disch:=try exact ai)only[aj,Bool.false_and];refine aG.2 ⟨?_,k.trans p⟩;rw[decide_eq_false];exactλh=>L h.2.1
 have a1:(i.op==9)=false:=beq_eq_false_iff_ne.2 ao;by_cases Y:i.op=10
 ·have t:∀j:Int,(i.op==j)=(10==j):=λj=>by rw[Y]
  have e:dN x f c i=decide (aY c i.a=cL/\0<(aY c i.b).d):=by simp only[dN,Y]
  rw[e];clear e;simp-implicitDefEqProofs(disch:=try exact ai)only[aj,aJ,aC,aL,E,cC aS,o m,t,Int.reduceBEq,ej];refine aZ (ju (y.aE (av.push _ _)) (gB _ bk trivial i.a) z (by simp)) ?_;rintro _ K ⟨rfl,p⟩;refine⟨p.1,?_⟩;have B:=(av.push H0 (.row Z 1 [[J X i.a]])).trans p;have e:eR c cL [i.a]=decide (aY c i.a=cL):=by rw[iO];simp
  rw[e];by_cases M:aY c i.a=cL
  ·rw[decide_eq_true M];simp-implicitDefEqProofs(disch:=try exact ai)only[aj,aJ,aL,cC (B.get aS),o (B.get m)];refine cx (mo (y.aE B) i.b z) ?_;rintro _ N ⟨rfl,q⟩;refine⟨q.1,?_⟩;simp-implicitDefEqProofs(disch:=try exact ai)only[aj,aC,zm];exact aG.2 ⟨by simp[M],k.trans (B.trans q)⟩
  ·rw[decide_eq_false M];simp-implicitDefEqProofs(disch:=try exact ai)only[aj];exact aG.2 ⟨by simp[M],k.trans B⟩
 have aN:(i.op==10)=false:=beq_eq_false_iff_ne.2 Y;by_cases ab:i.op=11
 ·have t:∀j:Int,(i.op==j)=(11==j):=λj=>by rw[ab]
  have e:dN x f c i=(decide (aY c i.a≠bl/\(aY c i.a).b=3/\(aY c i.a).d=0)&&hP x f i.n (aY c i.a)):=by simp only[dN,ab]
  rw[e];clear e;simp-implicitDefEqProofs(disch:=try exact ai)only[aj,aJ,aC,aL,E,cC aS,o m,t,Int.reduceBEq];refine aZ (mo y i.a z) ?_;rintro _ K ⟨rfl,p⟩;refine⟨p.1,?_⟩;have ap:=LD x f c i.n i.a;generalize aF:aY c i.a=ta at*;have B:av H0 (K.push (.row Z 3 [bZ ta])):=p.trans (av.push _ _);have V:(K.push (.row Z 3 [bZ ta])).get K.next=D (.row Z 3 [bZ ta]):=ad.a_ _ _
  have aq:cD P (K.push (.row Z 3 [[J X 0,J X 0,J X 0]])) 46 (.ptr K.next 0 0) (cU ta)=D (K.push (.row Z 3 [bZ ta])):=by
   have:=yN (t:=bl) (u:=ta) (ad.a_ K (.row Z 3 [bZ bl]));rw[ad.kH]at this;exact this
  have ax:=B.get aS;have aw:=B.get m;cases O:(ta.b==3)with
  |false=>
   have Q:¬ta.b=3:=by simpa using O
   simp-implicitDefEqProofs(disch:=try exact ai)only[Nat.reduceAdd,aj,aJ,aC,aL,aq,iR V,O];exact aG.2 ⟨by simp[Q],k.trans B⟩
  |true=>
   have Q:ta.b=3:=by simpa using O
   cases R:(ta.d==0)with
   |false=>
    have U:¬ta.d=0:=by simpa using R
    simp-implicitDefEqProofs(disch:=try exact ai)only[Nat.reduceAdd,aj,aJ,aC,aL,aq,iR V,O,R];exact aG.2 ⟨by simp[U],k.trans B⟩
   |true=>
    have U:ta.d=0:=by simpa using R
    have S:ta≠bl:=by rintro rfl;revert Q;decide
    simp-implicitDefEqProofs(disch:=try exact ai)only[Nat.reduceAdd,aj,aJ,aC,aL,aq,iR V,O,R,cC ax,o aw];refine cx (ML (y.aE B) i.n i.a z) ?_;rintro _ N ⟨rfl,q⟩;refine⟨q.1,?_⟩;simp-implicitDefEqProofs(disch:=try exact ai)only[aj];exact aG.2 ⟨by rw[ap S];simp[S,Q,U],k.trans (B.trans q)⟩
 have aO:(i.op==11)=false:=beq_eq_false_iff_ne.2 ab;by_cases ae:i.op=12
 ·have t:∀j:Int,(i.op==j)=(12==j):=λj=>by rw[ae]
  have e:dN x f c i=(decide (0<(aY c i.a).d/\aY c i.b=cL)&&hP x f i.n (aY c i.a)):=by simp only[dN,ae]
  rw[e];clear e;simp-implicitDefEqProofs(disch:=try exact ai)only[aj,aJ,aC,aL,E,cC aS,o m,t,Int.reduceBEq];refine aZ (mo y i.a z) ?_;rintro _ K ⟨rfl,p⟩;refine⟨p.1,?_⟩;have ap:=LD x f c i.n i.a;generalize aF:aY c i.a=ta at*;by_cases T:0<ta.d
  ·have S:ta≠bl:=by
    intro e;rw[e]at T;revert T;decide
   simp-implicitDefEqProofs(disch:=try exact ai)only[aj,aJ,aC,aL,zm,T,decide_true,cC (p.get aS),o (p.get m)];refine cx (ML (y.aE p) i.n i.a z) ?_;rintro _ N ⟨rfl,q⟩;refine⟨q.1,?_⟩;have G:=p.trans q;rw[ap S];cases a3:hP x f i.n ta with
   |false=>
    simp-implicitDefEqProofs(disch:=try exact ai)only[aj];exact aG.2 ⟨by simp,k.trans G⟩
   |true=>
    simp-implicitDefEqProofs(disch:=try exact ai)only[aj,aJ,aL,cC (G.get aS),o (G.get m),ej,jv];refine cx (ju ((y.aE G).aE (av.push _ _)) (gB _ bk trivial i.b) z (by simp)) ?_;rintro _ a2 ⟨rfl,au⟩;refine⟨au.1,?_⟩;simp-implicitDefEqProofs(disch:=try exact ai)only[aj];exact aG.2 ⟨by rw[iO];simp[],k.trans (G.trans ((av.push _ _).trans au))⟩
  ·simp-implicitDefEqProofs(disch:=try exact ai)only[aj,aC,zm,T,decide_false];exact aG.2 ⟨by simp[],k.trans p⟩
 have aP:(i.op==12)=false:=beq_eq_false_iff_ne.2 ae;simp-implicitDefEqProofs(disch:=try exact ai)only[aj,aC,E,cC aS,aI,aR,aT,aU,aV,aW,aX,a0,a1,aN,aO,aP];refine aZ (acJ y z aA aa az) ?_;rintro _ K ⟨rfl,p⟩;exact⟨p.1,aG.2 ⟨rfl,k.trans p⟩⟩
end
end
section
open Go.a2
set_option maxRecDepth 2000
section
variable {H:ad}{ok:Nat->Prop}{x:bj}{f:Nat}{c:bH}{i:In}{a b cc d v w wi:ae}
def c7(h:aO aT H ok i.args wi)(l:Nat):fe l (.agg (b5 i wi))=D (.ptr l 0 0,.row Z 6 [b5 i wi]):=u2 h i.op i.a i.b i.c i.n l
def fz{I:Nat}(h:H.get I=D (.row Z 6 [b5 i wi])):aI P H 89 (.ptr I 0 0)=D (.agg (b5 i wi)):=Iv h
def iT(n:Nat):((n:Int)==0)=(n==0):=by cases h:(n==0)<;>simp_all
def wb(hw:aO aT H ok i.args wi)(f:(i.op==13)=Z):W (aQ P aK 240 [.agg (b5 i wi),A C,A Z,A Z,A C] H) λr H'=>r= A ((i.b==0)&&((i.c==0)&&(i.args.length==0)))/\av H H':=by
 refine mY 0 ?_;have e:=av.push H (.row Z 6 [b5 i wi]);have d:(H.push (.row Z 6 [b5 i wi])).get H.next=D (.row Z 6 [[J X i.op,J X i.a,J X i.b,J X i.c,J X i.n,wi]]):=ad.a_ _ _
 have h:=fA d;cases ah:(i.b==0)with
 |false=>
  simp-implicitDefEqProofs(disch:=try exact ai)only[eT,aj,aJ,aC,aL,c7 hw,o d,ah];exact aG.2 ⟨by simp,e⟩
 |true=>
  cases an:(i.c==0)with
  |false=>
   simp-implicitDefEqProofs(disch:=try exact ai)only[eT,aj,aJ,aC,aL,c7 hw,o d,ah,an];exact aG.2 ⟨by simp,e⟩
  |true=>
   cases g:(i.args.length==0)with
   |false=>
    simp-implicitDefEqProofs(disch:=try exact ai)only[eT,aj,aJ,aC,aL,c7 hw,h,o d,hw.len b6,iT,f,ah,an,g];exact aG.2 ⟨by simp,e⟩
   |true=>
    simp-implicitDefEqProofs(disch:=try exact ai)only[eT,aj,aJ,aC,aL,c7 hw,h,o d,hw.len b6,iT,f,ah,an,g];exact aG.2 ⟨by simp,e⟩
def wa(hw:aO aT H ok i.args wi)(f:(i.op==13)=Z):W (aQ P aK 240 [.agg (b5 i wi),A C,A Z,A Z,A Z] H) λr H'=>r= A ((i.b==0)&&((i.c==0)&&((i.n==0)&&(i.args.length==0))))/\av H H':=by
 refine mY 0 ?_;have e:=av.push H (.row Z 6 [b5 i wi]);have d:(H.push (.row Z 6 [b5 i wi])).get H.next=D (.row Z 6 [[J X i.op,J X i.a,J X i.b,J X i.c,J X i.n,wi]]):=ad.a_ _ _
 have h:=fA d;cases ah:(i.b==0)with
 |false=>
  simp-implicitDefEqProofs(disch:=try exact ai)only[eT,aj,aJ,aC,aL,c7 hw,o d,ah];exact aG.2 ⟨by simp,e⟩
 |true=>
  cases an:(i.c==0)with
  |false=>
   simp-implicitDefEqProofs(disch:=try exact ai)only[eT,aj,aJ,aC,aL,c7 hw,o d,ah,an];exact aG.2 ⟨by simp,e⟩
  |true=>
   cases aM:(i.n==0)with
   |false=>
    simp-implicitDefEqProofs(disch:=try exact ai)only[eT,aj,aJ,aC,aL,c7 hw,o d,ah,an,aM];exact aG.2 ⟨by simp,e⟩
   |true=>
    cases g:(i.args.length==0)with
    |false=>
     simp-implicitDefEqProofs(disch:=try exact ai)only[eT,aj,aJ,aC,aL,c7 hw,h,o d,hw.len b6,iT,f,ah,an,aM,g];exact aG.2 ⟨by simp,e⟩
    |true=>
     simp-implicitDefEqProofs(disch:=try exact ai)only[eT,aj,aJ,aC,aL,c7 hw,h,o d,hw.len b6,iT,f,ah,an,aM,g];exact aG.2 ⟨by simp,e⟩
def JC(hw:aO aT H ok i.args wi)(f:(i.op==13)=Z):W (aQ P aK 240 [.agg (b5 i wi),A C,A C,A Z,A Z] H) λr H'=>r= A ((i.c==0)&&((i.n==0)&&(i.args.length==0)))/\av H H':=by
 refine mY 0 ?_;have e:=av.push H (.row Z 6 [b5 i wi]);have d:(H.push (.row Z 6 [b5 i wi])).get H.next=D (.row Z 6 [[J X i.op,J X i.a,J X i.b,J X i.c,J X i.n,wi]]):=ad.a_ _ _
 have h:=fA d;cases an:(i.c==0)with
 |false=>
  simp-implicitDefEqProofs(disch:=try exact ai)only[eT,aj,aJ,aC,aL,c7 hw,o d,an];exact aG.2 ⟨by simp,e⟩
 |true=>
  cases aM:(i.n==0)with
  |false=>
   simp-implicitDefEqProofs(disch:=try exact ai)only[eT,aj,aJ,aC,aL,c7 hw,o d,an,aM];exact aG.2 ⟨by simp,e⟩
  |true=>
   cases g:(i.args.length==0)with
   |false=>
    simp-implicitDefEqProofs(disch:=try exact ai)only[eT,aj,aJ,aC,aL,c7 hw,h,o d,hw.len b6,iT,f,an,aM,g];exact aG.2 ⟨by simp,e⟩
   |true=>
    simp-implicitDefEqProofs(disch:=try exact ai)only[eT,aj,aJ,aC,aL,c7 hw,h,o d,hw.len b6,iT,f,an,aM,g];exact aG.2 ⟨by simp,e⟩
def JD(hw:aO aT H ok i.args wi)(f:(i.op==13)=Z):W (aQ P aK 240 [.agg (b5 i wi),A C,A C,A Z,A C] H) λr H'=>r= A ((i.c==0)&&(i.args.length==0))/\av H H':=by
 refine mY 0 ?_;have e:=av.push H (.row Z 6 [b5 i wi]);have d:(H.push (.row Z 6 [b5 i wi])).get H.next=D (.row Z 6 [[J X i.op,J X i.a,J X i.b,J X i.c,J X i.n,wi]]):=ad.a_ _ _
 have h:=fA d;cases an:(i.c==0)with
 |false=>
  simp-implicitDefEqProofs(disch:=try exact ai)only[eT,aj,aJ,aC,aL,c7 hw,o d,an];exact aG.2 ⟨by simp,e⟩
 |true=>
  cases g:(i.args.length==0)with
  |false=>
   simp-implicitDefEqProofs(disch:=try exact ai)only[eT,aj,aJ,aC,aL,c7 hw,h,o d,hw.len b6,iT,f,an,g];exact aG.2 ⟨by simp,e⟩
  |true=>
   simp-implicitDefEqProofs(disch:=try exact ai)only[eT,aj,aJ,aC,aL,c7 hw,h,o d,hw.len b6,iT,f,an,g];exact aG.2 ⟨by simp,e⟩
def wc(hw:aO aT H ok i.args wi)(f:(i.op==13)=Z):W (aQ P aK 240 [.agg (b5 i wi),A C,A C,A C,A Z] H) λr H'=>r= A ((i.n==0)&&(i.args.length==0))/\av H H':=by
 refine mY 0 ?_;have e:=av.push H (.row Z 6 [b5 i wi]);have d:(H.push (.row Z 6 [b5 i wi])).get H.next=D (.row Z 6 [[J X i.op,J X i.a,J X i.b,J X i.c,J X i.n,wi]]):=ad.a_ _ _
 have h:=fA d;cases aM:(i.n==0)with
 |false=>
  simp-implicitDefEqProofs(disch:=try exact ai)only[eT,aj,aJ,aC,aL,c7 hw,o d,aM];exact aG.2 ⟨by simp,e⟩
 |true=>
  cases g:(i.args.length==0)with
  |false=>
   simp-implicitDefEqProofs(disch:=try exact ai)only[eT,aj,aJ,aC,aL,c7 hw,h,o d,hw.len b6,iT,f,aM,g];exact aG.2 ⟨by simp,e⟩
  |true=>
   simp-implicitDefEqProofs(disch:=try exact ai)only[eT,aj,aJ,aC,aL,c7 hw,h,o d,hw.len b6,iT,f,aM,g];exact aG.2 ⟨by simp,e⟩
def V0(hw:aO aT H ok i.args wi)(d:(i.op==13)=Z):W (aQ P aK 240 [.agg (b5 i wi),A C,A C,A C,A C] H) λr H'=>r= A (i.args.length==0)/\av H H':=by
 refine mY 0 ?_;have g:=av.push H (.row Z 6 [b5 i wi]);have h:(H.push (.row Z 6 [b5 i wi])).get H.next=D (.row Z 6 [[J X i.op,J X i.a,J X i.b,J X i.c,J X i.n,wi]]):=ad.a_ _ _
 have f:=fA h;cases e:(i.args.length==0)with
 |false=>
  simp-implicitDefEqProofs(disch:=try exact ai)only[eT,aj,aJ,aC,aL,c7 hw,f,hw.len b6,iT,d,e];exact aG.2 ⟨by simp,g⟩
 |true=>
  simp-implicitDefEqProofs(disch:=try exact ai)only[eT,aj,aJ,aC,aL,c7 hw,f,hw.len b6,iT,d,e];exact aG.2 ⟨by simp,g⟩
def VY(hw:aO aT H ok i.args wi)(f:(i.op==13)=C):W (aQ P aK 240 [.agg (b5 i wi),A C,A Z,A C,A Z] H) λr H'=>r= A ((i.b==0)&&(i.n==0))/\av H H':=by
 refine mY 0 ?_;have e:=av.push H (.row Z 6 [b5 i wi]);have d:(H.push (.row Z 6 [b5 i wi])).get H.next=D (.row Z 6 [[J X i.op,J X i.a,J X i.b,J X i.c,J X i.n,wi]]):=ad.a_ _ _
 have g:=fA d;cases ah:(i.b==0)with
 |false=>
  simp-implicitDefEqProofs(disch:=try exact ai)only[eT,aj,aJ,aC,aL,c7 hw,o d,ah];exact aG.2 ⟨by simp,e⟩
 |true=>
  cases aM:(i.n==0)with
  |false=>
   simp-implicitDefEqProofs(disch:=try exact ai)only[eT,aj,aJ,aC,aL,c7 hw,o d,ah,aM];exact aG.2 ⟨by simp,e⟩
  |true=>
   simp-implicitDefEqProofs(disch:=try exact ai)only[eT,aj,aJ,aC,aL,c7 hw,g,o d,f,ah,aM];exact aG.2 ⟨by simp,e⟩
def VX(hw:aO aT H ok i.args wi)(f:(i.op==13)=Z):W (aQ P aK 240 [.agg (b5 i wi),A Z,A Z,A Z,A C] H) λr H'=>r= A ((i.a==0)&&((i.b==0)&&((i.c==0)&&(i.args.length==0))))/\av H H':=by
 refine mY 0 ?_;have e:=av.push H (.row Z 6 [b5 i wi]);have d:(H.push (.row Z 6 [b5 i wi])).get H.next=D (.row Z 6 [[J X i.op,J X i.a,J X i.b,J X i.c,J X i.n,wi]]):=ad.a_ _ _
 have h:=fA d;cases af:(i.a==0)with
 |false=>
  simp-implicitDefEqProofs(disch:=try exact ai)only[eT,aj,aJ,aC,aL,c7 hw,o d,af];exact aG.2 ⟨by simp,e⟩
 |true=>
  cases ah:(i.b==0)with
  |false=>
   simp-implicitDefEqProofs(disch:=try exact ai)only[eT,aj,aJ,aC,aL,c7 hw,o d,af,ah];exact aG.2 ⟨by simp,e⟩
  |true=>
   cases an:(i.c==0)with
   |false=>
    simp-implicitDefEqProofs(disch:=try exact ai)only[eT,aj,aJ,aC,aL,c7 hw,o d,af,ah,an];exact aG.2 ⟨by simp,e⟩
   |true=>
    cases g:(i.args.length==0)with
    |false=>
     simp-implicitDefEqProofs(disch:=try exact ai)only[eT,aj,aJ,aC,aL,c7 hw,h,o d,hw.len b6,iT,f,af,ah,an,g];exact aG.2 ⟨by simp,e⟩
    |true=>
     simp-implicitDefEqProofs(disch:=try exact ai)only[eT,aj,aJ,aC,aL,c7 hw,h,o d,hw.len b6,iT,f,af,ah,an,g];exact aG.2 ⟨by simp,e⟩
def VZ(hw:aO aT H ok i.args wi)(f:(i.op==13)=Z):W (aQ P aK 240 [.agg (b5 i wi),A C,A Z,A C,A C] H) λr H'=>r= A ((i.b==0)&&(i.args.length==0))/\av H H':=by
 refine mY 0 ?_;have e:=av.push H (.row Z 6 [b5 i wi]);have d:(H.push (.row Z 6 [b5 i wi])).get H.next=D (.row Z 6 [[J X i.op,J X i.a,J X i.b,J X i.c,J X i.n,wi]]):=ad.a_ _ _
 have h:=fA d;cases ah:(i.b==0)with
 |false=>
  simp-implicitDefEqProofs(disch:=try exact ai)only[eT,aj,aJ,aC,aL,c7 hw,o d,ah];exact aG.2 ⟨by simp,e⟩
 |true=>
  cases g:(i.args.length==0)with
  |false=>
   simp-implicitDefEqProofs(disch:=try exact ai)only[eT,aj,aJ,aC,aL,c7 hw,h,o d,hw.len b6,iT,f,ah,g];exact aG.2 ⟨by simp,e⟩
  |true=>
   simp-implicitDefEqProofs(disch:=try exact ai)only[eT,aj,aJ,aC,aL,c7 hw,h,o d,hw.len b6,iT,f,ah,g];exact aG.2 ⟨by simp,e⟩
def Oy(hw:aO aT H ok i.args wi):W (aQ P aK 217 [.agg (b5 i wi)] H) λr H'=>r= A (decide (1<=i.op/\i.op<=20)&&named i)/\av H H':=by
 refine X8 0 ?_;have d:=av.push H (.row Z 6 [b5 i wi]);have e:(H.push (.row Z 6 [b5 i wi])).get H.next=D (.row Z 6 [[J X i.op,J X i.a,J X i.b,J X i.c,J X i.n,wi]]):=ad.a_ _ _
 have f:=fA e;by_cases af:i.op=1
 ·have t:∀j:Int,(i.op==j)=(1==j):=λj=>by rw[af]
  simp-implicitDefEqProofs(disch:=try exact ai)only[gV,g1,e6,aj,aJ,aC,aL,c7 hw,f,fz e,t,Int.reduceBEq];refine aZ (wb (hw.aE d) (by rw[af];rfl)) ?_;rintro _ K ⟨rfl,p⟩;exact⟨p.1,aG.2 ⟨by rw[named,af];simp,d.trans p⟩⟩
 have G:(i.op==1)=false:=beq_eq_false_iff_ne.2 af;by_cases ah:i.op=2
 ·have t:∀j:Int,(i.op==j)=(2==j):=λj=>by rw[ah]
  simp-implicitDefEqProofs(disch:=try exact ai)only[gV,g1,h0,e6,aj,aJ,aC,aL,c7 hw,f,fz e,t,Int.reduceBEq];refine aZ (wa (hw.aE d) (by rw[ah];rfl)) ?_;rintro _ K ⟨rfl,p⟩;exact⟨p.1,aG.2 ⟨by rw[named,ah];simp,d.trans p⟩⟩
 have Y:(i.op==2)=false:=beq_eq_false_iff_ne.2 ah;by_cases an:i.op=3
 ·have t:∀j:Int,(i.op==j)=(3==j):=λj=>by rw[an]
  simp-implicitDefEqProofs(disch:=try exact ai)only[gV,g1,h0,jN,e6,aj,aJ,aC,aL,c7 hw,f,fz e,t,Int.reduceBEq];refine aZ (JC (hw.aE d) (by rw[an];rfl)) ?_;rintro _ K ⟨rfl,p⟩;exact⟨p.1,aG.2 ⟨by rw[named,an];simp,d.trans p⟩⟩
 have ae:(i.op==3)=false:=beq_eq_false_iff_ne.2 an;by_cases aM:i.op=4
 ·have t:∀j:Int,(i.op==j)=(4==j):=λj=>by rw[aM]
  simp-implicitDefEqProofs(disch:=try exact ai)only[gV,g1,h0,jN,kJ,mh,e6,aj,aJ,aC,aL,c7 hw,f,fz e,t,Int.reduceBEq];refine aZ (V0 (hw.aE d) (by rw[aM];rfl)) ?_;rintro _ K ⟨rfl,p⟩;exact⟨p.1,aG.2 ⟨by rw[named,aM];simp,d.trans p⟩⟩
 have ag:(i.op==4)=false:=beq_eq_false_iff_ne.2 aM;by_cases x:i.op=5
 ·have t:∀j:Int,(i.op==j)=(5==j):=λj=>by rw[x]
  simp-implicitDefEqProofs(disch:=try exact ai)only[gV,g1,h0,jN,kJ,e6,aj,aJ,aC,aL,c7 hw,f,fz e,t,Int.reduceBEq];refine aZ (JD (hw.aE d) (by rw[x];rfl)) ?_;rintro _ K ⟨rfl,p⟩;exact⟨p.1,aG.2 ⟨by rw[named,x];simp,d.trans p⟩⟩
 have ak:(i.op==5)=false:=beq_eq_false_iff_ne.2 x;by_cases y:i.op=6
 ·have t:∀j:Int,(i.op==j)=(6==j):=λj=>by rw[y]
  simp-implicitDefEqProofs(disch:=try exact ai)only[gV,g1,h0,jN,kJ,mh,e6,aj,aJ,aC,aL,c7 hw,f,fz e,t,Int.reduceBEq];refine aZ (wc (hw.aE d) (by rw[y];rfl)) ?_;rintro _ K ⟨rfl,p⟩;exact⟨p.1,aG.2 ⟨by rw[named,y];simp,d.trans p⟩⟩
 have al:(i.op==6)=false:=beq_eq_false_iff_ne.2 y;by_cases z:i.op=7
 ·have t:∀j:Int,(i.op==j)=(7==j):=λj=>by rw[z]
  simp-implicitDefEqProofs(disch:=try exact ai)only[gV,g1,h0,jN,kJ,mh,e6,aj,aJ,aC,aL,c7 hw,f,fz e,t,Int.reduceBEq];refine aZ (wc (hw.aE d) (by rw[z];rfl)) ?_;rintro _ K ⟨rfl,p⟩;exact⟨p.1,aG.2 ⟨by rw[named,z];simp,d.trans p⟩⟩
 have am:(i.op==7)=false:=beq_eq_false_iff_ne.2 z;by_cases B:i.op=8
 ·have t:∀j:Int,(i.op==j)=(8==j):=λj=>by rw[B]
  simp-implicitDefEqProofs(disch:=try exact ai)only[gV,g1,h0,jN,kJ,mh,e6,aj,aJ,aC,aL,c7 hw,f,fz e,t,Int.reduceBEq];refine aZ (wc (hw.aE d) (by rw[B];rfl)) ?_;rintro _ K ⟨rfl,p⟩;exact⟨p.1,aG.2 ⟨by rw[named,B];simp,d.trans p⟩⟩
 have ao:(i.op==8)=false:=beq_eq_false_iff_ne.2 B;by_cases E:i.op=9
 ·have t:∀j:Int,(i.op==j)=(9==j):=λj=>by rw[E]
  simp-implicitDefEqProofs(disch:=try exact ai)only[gV,g1,h0,jN,kJ,mh,e6,aj,aJ,aC,aL,c7 hw,f,fz e,t,Int.reduceBEq];refine aZ (wc (hw.aE d) (by rw[E];rfl)) ?_;rintro _ K ⟨rfl,p⟩;exact⟨p.1,aG.2 ⟨by rw[named,E];simp,d.trans p⟩⟩
 have ap:(i.op==9)=false:=beq_eq_false_iff_ne.2 E;by_cases g:i.op=10
 ·have t:∀j:Int,(i.op==j)=(10==j):=λj=>by rw[g]
  simp-implicitDefEqProofs(disch:=try exact ai)only[gV,g1,h0,jN,e6,aj,aJ,aC,aL,c7 hw,f,fz e,t,Int.reduceBEq];refine aZ (JC (hw.aE d) (by rw[g];rfl)) ?_;rintro _ K ⟨rfl,p⟩;exact⟨p.1,aG.2 ⟨by rw[named,g];simp,d.trans p⟩⟩
 have L:(i.op==10)=false:=beq_eq_false_iff_ne.2 g;by_cases h:i.op=11
 ·have t:∀j:Int,(i.op==j)=(11==j):=λj=>by rw[h]
  simp-implicitDefEqProofs(disch:=try exact ai)only[gV,g1,e6,aj,aJ,aC,aL,c7 hw,f,fz e,t,Int.reduceBEq];refine aZ (wb (hw.aE d) (by rw[h];rfl)) ?_;rintro _ K ⟨rfl,p⟩;exact⟨p.1,aG.2 ⟨by rw[named,h];simp,d.trans p⟩⟩
 have M:(i.op==11)=false:=beq_eq_false_iff_ne.2 h;by_cases k:i.op=12
 ·have t:∀j:Int,(i.op==j)=(12==j):=λj=>by rw[k]
  simp-implicitDefEqProofs(disch:=try exact ai)only[gV,g1,h0,jN,kJ,e6,aj,aJ,aC,aL,c7 hw,f,fz e,t,Int.reduceBEq];refine aZ (JD (hw.aE d) (by rw[k];rfl)) ?_;rintro _ K ⟨rfl,p⟩;exact⟨p.1,aG.2 ⟨by rw[named,k];simp,d.trans p⟩⟩
 have N:(i.op==12)=false:=beq_eq_false_iff_ne.2 k;by_cases l:i.op=13
 ·have t:∀j:Int,(i.op==j)=(13==j):=λj=>by rw[l]
  simp-implicitDefEqProofs(disch:=try exact ai)only[gV,g1,h0,jN,kJ,mh,e6,aj,aJ,aC,aL,c7 hw,f,fz e,t,Int.reduceBEq];refine aZ (VY (hw.aE d) (by rw[l];rfl)) ?_;rintro _ K ⟨rfl,p⟩;exact⟨p.1,aG.2 ⟨by rw[named,l];simp,d.trans p⟩⟩
 have O:(i.op==13)=false:=beq_eq_false_iff_ne.2 l;by_cases m:i.op=14
 ·have t:∀j:Int,(i.op==j)=(14==j):=λj=>by rw[m]
  simp-implicitDefEqProofs(disch:=try exact ai)only[gV,g1,h0,e6,aj,aJ,aC,aL,c7 hw,f,fz e,t,Int.reduceBEq];refine aZ (wa (hw.aE d) (by rw[m];rfl)) ?_;rintro _ K ⟨rfl,p⟩;exact⟨p.1,aG.2 ⟨by rw[named,m];simp,d.trans p⟩⟩
 have Q:(i.op==14)=false:=beq_eq_false_iff_ne.2 m;by_cases o:i.op=15
 ·have t:∀j:Int,(i.op==j)=(15==j):=λj=>by rw[o]
  simp-implicitDefEqProofs(disch:=try exact ai)only[gV,g1,h0,e6,aj,aJ,aC,aL,c7 hw,f,fz e,t,Int.reduceBEq];refine aZ (wa (hw.aE d) (by rw[o];rfl)) ?_;rintro _ K ⟨rfl,p⟩;exact⟨p.1,aG.2 ⟨by rw[named,o];simp,d.trans p⟩⟩
 have R:(i.op==15)=false:=beq_eq_false_iff_ne.2 o;by_cases q:i.op=16
 ·have t:∀j:Int,(i.op==j)=(16==j):=λj=>by rw[q]
  simp-implicitDefEqProofs(disch:=try exact ai)only[gV,g1,h0,jN,kJ,mh,e6,aj,aJ,aC,aL,c7 hw,f,fz e,t,Int.reduceBEq];refine aZ (VX (hw.aE d) (by rw[q];rfl)) ?_;rintro _ K ⟨rfl,p⟩;exact⟨p.1,aG.2 ⟨by rw[named,q];simp,d.trans p⟩⟩
 have S:(i.op==16)=false:=beq_eq_false_iff_ne.2 q;by_cases s:i.op=17
 ·have t:∀j:Int,(i.op==j)=(17==j):=λj=>by rw[s]
  simp-implicitDefEqProofs(disch:=try exact ai)only[gV,g1,h0,jN,kJ,mh,e6,aj,aJ,aC,aL,c7 hw,f,fz e,t,Int.reduceBEq];refine aZ (VZ (hw.aE d) (by rw[s];rfl)) ?_;rintro _ K ⟨rfl,p⟩;exact⟨p.1,aG.2 ⟨by rw[named,s];simp,d.trans p⟩⟩
 have T:(i.op==17)=false:=beq_eq_false_iff_ne.2 s;by_cases u:i.op=18
 ·have t:∀j:Int,(i.op==j)=(18==j):=λj=>by rw[u]
  simp-implicitDefEqProofs(disch:=try exact ai)only[gV,g1,h0,e6,aj,aJ,aC,aL,c7 hw,f,fz e,t,Int.reduceBEq];refine aZ (wa (hw.aE d) (by rw[u];rfl)) ?_;rintro _ K ⟨rfl,p⟩;exact⟨p.1,aG.2 ⟨by rw[named,u];simp,d.trans p⟩⟩
 have U:(i.op==18)=false:=beq_eq_false_iff_ne.2 u;by_cases v:i.op=19
 ·have t:∀j:Int,(i.op==j)=(19==j):=λj=>by rw[v]
  simp-implicitDefEqProofs(disch:=try exact ai)only[gV,g1,e6,aj,aJ,aC,aL,c7 hw,f,fz e,t,Int.reduceBEq];refine aZ (wb (hw.aE d) (by rw[v];rfl)) ?_;rintro _ K ⟨rfl,p⟩;exact⟨p.1,aG.2 ⟨by rw[named,v];simp,d.trans p⟩⟩
 have V:(i.op==19)=false:=beq_eq_false_iff_ne.2 v;by_cases w:i.op=20
 ·have t:∀j:Int,(i.op==j)=(20==j):=λj=>by rw[w]
  simp-implicitDefEqProofs(disch:=try exact ai)only[gV,g1,e6,aj,aJ,aC,aL,c7 hw,f,fz e,t,Int.reduceBEq];refine aZ (wb (hw.aE d) (by rw[w];rfl)) ?_;rintro _ K ⟨rfl,p⟩;exact⟨p.1,aG.2 ⟨by rw[named,w];simp,d.trans p⟩⟩
 have ab:(i.op==20)=false:=beq_eq_false_iff_ne.2 w;simp-implicitDefEqProofs(disch:=try exact ai)only[gV,g1,h0,jN,kJ,mh,e6,aj,aJ,aC,aL,c7 hw,f,G,Y,ae,ag,ak,al,am,ao,ap,L,M,N,O,Q,R,S,T,U,V,ab];refine aG.2 ⟨?_,d⟩;rw[decide_eq_false aa];rfl
def OH(x:bj)(f:Nat)(c:bH)(i:In)(a b cc d v w wi:ae):dU P 280 [(0,.agg [a,b,cc,d,J X x.main]),(1,J X f),(2,.agg (cW c v w)),(3,.agg (b5 i wi))]=D (.agg (cf x f c i a b cc d v w wi)):=Fo rfl
def dA{zX:Nat}{m:Int}(g:H.get zX=D (.row Z 5 [[a,b,cc,d,J X m]])):aI P H 22 (.ptr zX 0 0)=D a/\aI P H 23 (.ptr zX 0 1)=D b/\aI P H 24 (.ptr zX 0 2)=D cc/\aI P H 25 (.ptr zX 0 3)=D d/\aI P H 3 (.ptr zX 0 4)=D (J X m):=by
 simp-implicitDefEqProofs(disch:=try exact ai)only[R,g]
def TC{V w:ae}(aA:cM H ok x V)(M:uE H ok i w)(f:Nat){c:bH}(az:x.ay[f]? =D c)(q:∀g∈x.ay,g.vars.length<=1000000000)(hm:c.vars.all (dE x.bV.length)=C):W (aQ P aK 168 [V,J X f,w] H) λr H'=>r= A (dy x f c i)/\av H H':=by
 obtain⟨_,rfl,a,b,cc,d,rfl,af,ah,an,aM⟩:=aA;obtain⟨_,rfl,wi,rfl,i1⟩:=M;have U:=(List.getElem?_eq_some_iff.1 az).1;have G:c.vars.length<=1000000000:=q c (List.mem_of_getElem? az);have L:∀v,(aY c v).d<=1000:=λv=>by
  unfold aY;cases h:dI c.vars v with
  |none=>simp[bl]
  |some u=>
   have:=List.all_eq_true.1 hm u (List.mem_of_getElem? (Fi.1 h).2);simp only[dE,Bool.and_eq_true,decide_eq_true_eq]at this;simp;omega
 refine XH 0 ?_;have e:av H ((H.push (.row Z 5 [[a,b,cc,d,J X x.main]])).push (.row Z 6 [b5 i wi])):=(av.push _ _).trans (av.push _ _);have aS:((H.push (.row Z 5 [[a,b,cc,d,J X x.main]])).push (.row Z 6 [b5 i wi])).get H.next=D (.row Z 5 [[a,b,cc,d,J X x.main]]):=(av.push _ _).get (ad.a_ _ _)
 have m:((H.push (.row Z 5 [[a,b,cc,d,J X x.main]])).push (.row Z 6 [b5 i wi])).get (H.next+1)=D (.row Z 6 [b5 i wi]):=ad.a_ _ _;have y:∀l,fe l (.agg [J X i.op,J X i.a,J X i.b,J X i.c,J X i.n,wi])=D (.ptr l 0 0,.row Z 6 [b5 i wi]):=λl=>c7 i1 l
 simp-implicitDefEqProofs(disch:=try exact ai)only[B5,aj,aC,ad.dm,dV af ah an aM,y];generalize ((H.push (.row Z 5 [[a,b,cc,d,J X x.main]])).push (.row Z 6 [b5 i wi]))=H0 at*;have kA:=ad.bE aS;have Y:=ad.bE m;generalize H.next+1=I at*
 generalize H.next=zX at*
 have z:=af.aE e;have B:=ah.aE e;have k:=an.aE e;have E:=aM.aE e;have s:=i1.aE e;have f0:(0:Int)<=(f:Int):=aa;have f1:(f:Int)<(x.ay.length:Int):=aa;obtain⟨pp,gv,gw,R,S,bR,b0⟩:=k.p3 (j:=(f:Int)) (g:=c) aa (by simpa using az);have ab:bF (D (.agg [a,b,cc,d,J X x.main])) (.agg [a,b,cc,d,J X x.main])=true:=by simp[bF,ae.beq,er.beq,af.rd,ah.rd,an.rd,aM.rd]
 simp-implicitDefEqProofs(disch:=try exact ai)only[aj,aJ,aC,aL,f0,f1,decide_true,dA aS,fz m,k.len cI];refine cx (Oy s) ?_;rintro _ K ⟨rfl,p⟩;refine⟨p.1,?_⟩;rw[abe];cases o:(decide (1<=i.op/\i.op<=20)&&named i)with
 |false=>
  simp-implicitDefEqProofs(disch:=try exact ai)only[aj];refine aG.2 ⟨?_,e.trans p⟩;cases aH:named i with
  |false=>rfl
  |true=>
   rw[aH,Bool.and_true,decide_eq_false_iff_not]at o;rw[Bool.true_and];refine congrArg ae.bool (Eq.symm ?_);unfold dN;simp only
   split<;>first|rfl|(exfalso;omega)
 |true=>
  simp only[Bool.and_eq_true,decide_eq_true_eq]at o;obtain⟨⟨N,O⟩,aH⟩:=o;simp-implicitDefEqProofs(disch:=try exact ai)only[aj,aJ,aL,dA (p.get aS),cH (p.get aS),fz (p.get m),R,S _ p,OH];refine cx (acI (ok:=ok) ⟨z.aE p,B.aE p,k.aE p,E.aE p,bR.aE p,b0.aE p,s.aE p⟩ G q L N O) ?_;rintro _ T ⟨rfl,t⟩;refine⟨t.1,?_⟩;have Q:=p.trans t;simp-implicitDefEqProofs(disch:=try exact ai)only[aj];exact aG.2 ⟨by rw[aH,Bool.true_and],e.trans Q⟩
end
end
section
open Go.a2
set_option maxRecDepth 2000
section
variable {H:ad}{ok:Nat->Prop}{x:bj}{f:Nat}{c:bH}{i:In}{a b cc d v w wi:ae}
def aO.rZ{l:List In}{v:ae}(h:aO fD H ok l v){j:Int}{i:In}(a:0<=j)(b:l[j.toNat]? =D i):∃L n wi,cm P 47 v (J X j)=D (.ptr L n 0)/\(∀H',av H H'->aI P H' 89 (.ptr L n 0)=D (.agg (b5 i wi))/\aI P H' 3 (.ptr L n 0)=D (J X i.op))/\aO aT H ok i.args wi:=by
 obtain⟨L,n,ro,els,cs,af,_,ah,an,wi,rfl,aM⟩:=h.at_ (K:=fD) eA a b;refine⟨L,n,wi,af,λH' p=>⟨?_,?_⟩,aM⟩
 ·exact gY (n:=6) (c:=0) aF aF (p.get ah) an (by exact bC 6)
 ·have g:H'.get L=D (.row ro 6 els):=p.get ah;simp-implicitDefEqProofs(disch:=try exact ai)only[R,g,an]
def Uh{l:List In}(h:1<=l.length):∃i,l[l.length-1]? =D i/\jI l=i.op:=by
 have af:l.length-1<l.length:=aa;refine⟨l[l.length-1],by simp[af],?_⟩;rw[jI,List.getLast?_eq_getElem?];simp[af]
def PU{zX zC:Nat}(cg:H.get zC=D (.row Z 7 [cW c v w]))(hw:aO fD H ok c.ins w)(af:1<=c.ins.length)(al:c.ins.length<=1000000000){N:Nat}:
  W (qD (aQ P aK) N (.ptr zC 0 0) H) λr H'=>r= A (jj (jI c.ins))/\av H H':=by
 obtain⟨i,h,k⟩:=Uh af;have b:IntKind.i64.wrap ((c.ins.length:Int)-1)=((c.ins.length-1:Nat):Int):=by rw[wrap_i64 aa aa];omega
 obtain⟨L,n,wi,e,f,l⟩:=hw.rZ (j:=((c.ins.length-1:Nat):Int)) (i:=i) aa (by simpa using h);have d:=hH cg;rw[k,jj];cases a:(i.op==16)with
 |true=>
  simp-implicitDefEqProofs(disch:=try exact ai)only[qD,br,aj,aJ,aC,aL,d,hw.len eA,b,e,(f _ (av.refl _)).2,a];exact aG.2 ⟨rfl,av.refl _⟩
 |false=>
  cases g:(i.op==17)with
  |true=>
   simp-implicitDefEqProofs(disch:=try exact ai)only[qD,br,aj,aJ,aC,aL,d,hw.len eA,b,e,(f _ (av.refl _)).2,a,g];exact aG.2 ⟨rfl,av.refl _⟩
  |false=>
   simp-implicitDefEqProofs(disch:=try exact ai)only[qD,br,aj,aJ,aC,aL,d,hw.len eA,b,e,(f _ (av.refl _)).2,a,g];exact aG.2 ⟨rfl,av.refl _⟩
def F8{zX zC:Nat}(az:x.ay[f]? =D c)(h:∀g∈x.ay,g.vars.length<=1000000000)(hm:c.vars.all (dE x.bV.length)=C)(af:1<=c.ins.length)(al:c.ins.length<=1000000000){N:Nat}:∀(j k m:Nat) (H:ad),k+j=c.ins.length->j<m->H.get zX=D (.row Z 5 [[a,b,cc,d,J X x.main]])->H.get zC=D (.row Z 7 [cW c v w])->cM H ok x (.agg [a,b,cc,d,J X x.main])->aO fD H ok c.ins w->
  W (qE (aQ P aK) N m (J X f) (.ptr zX 0 0) (.ptr zC 0 0) w (J X c.ins.length) (J X k) H) λr H'=>r= A ((c.ins.drop k).all (dy x f c)&&jj (jI c.ins))/\av H H'
 |_,_,0,_,_,hm,_,_,_,_=>aa
 |0,k,m+1,H,t,_,aS,cg,aA,hw=>by
  have e:¬(k:Int)<(c.ins.length:Int):=aa;simp-implicitDefEqProofs(disch:=try exact ai)only[qE,wP,aj,aC,e,decide_false];rw[List.drop_of_length_le aa,List.all_nil,Bool.true_and];exact PU (zX:=zX) cg hw af al
 |j+1,k,m+1,H,t,E,aS,cg,aA,hw=>by
  have e:(k:Int)<(c.ins.length:Int):=aa;have l:k<c.ins.length:=aa;obtain⟨L,n,wi,y,z,o⟩:=hw.rZ (j:=(k:Int)) (i:=c.ins[k]) aa (by simp[l]);have on:=F8 (zX:=zX) (zC:=zC) az h hm af al (N:=N) j (k+1) m;rw[List.drop_eq_getElem_cons l,List.all_cons];generalize c.ins[k]=i at*;have st:=oa (i:=i) (w:=wi) (ad.a_ H (.row Z 6 [[J X 0,J X 0,J X 0,J X 0,J X 0,.aB]])) o.one;have pp:=av.push H (.row Z 6 [b5 i wi]);have s:=ad.a_ H (.row Z 6 [b5 i wi]);simp-implicitDefEqProofs(disch:=try exact ai)only[qE,wP,Nat.reduceAdd,aj,aJ,aC,e,decide_true,y,z _ (av.refl _),st,ad.ga,cH (pp.get aS),fz s]
  refine aZ (TC (aA.aE pp) ⟨_,rfl,wi,rfl,o.aE pp⟩ f az h hm) ?_;rintro _ K ⟨rfl,p⟩;refine⟨p.1,?_⟩;have q:=pp.trans p;cases G:dy x f c i with
  |false=>
   simp-implicitDefEqProofs(disch:=try exact ai)only[aj,Bool.not_false];exact aG.2 ⟨by simp,q⟩
  |true=>
   simp-implicitDefEqProofs(disch:=try exact ai)only[aj,aC,Bool.not_true,cq (show k<=1000000000 by omega)];refine(on K aa aa (q.get aS) (q.get cg) (aA.aE q) (hw.aE q)).mono ?_;rintro r B ⟨rfl,u⟩;exact⟨by simp,q.trans u⟩
def PV{V:ae}(aA:cM H ok x V)(f:Nat){c:bH}(az:x.ay[f]? =D c)(N:∀g∈x.ay,g.vars.length<=1000000000)(hlen:∀c∈x.ay,c.ins.length<=1000000000):W (aQ P aK 126 [V,J X f] H) λr H'=>r= A (codeOk x f c)/\av H H':=by
 obtain⟨_,rfl,a,b,cc,d,rfl,af,ah,an,aM⟩:=aA;have ax:=(List.getElem?_eq_some_iff.1 az).1;have am:c.vars.length<=1000000000:=N c (List.mem_of_getElem? az);have al:c.ins.length<=1000000000:=hlen c (List.mem_of_getElem? az);refine Xu (c.ins.length+1) ?_;have M:=av.push H (.row Z 5 [[a,b,cc,d,J X x.main]]);have G:=ad.a_ H (.row Z 5 [[a,b,cc,d,J X x.main]]);obtain⟨pp,gv,gw,T,U,bR,b0⟩:=(an.aE M).p3 (j:=(f:Int)) (g:=c) aa (by simpa using az);have st:=pv (c:=c) (v:=gv) (w:=gw) (ad.a_ (H.push (.row Z 5 [[a,b,cc,d,J X x.main]])) (.row Z 7 [[J X 0,.aB,A Z,J X 0,J X 0,J X 0,.aB]])) bR.one b0.one
 simp only[kG]at st;have o:av H ((H.push (.row Z 5 [[a,b,cc,d,J X x.main]])).push (.row Z 7 [cW c gv gw])):=M.trans (av.push _ _);have aS:((H.push (.row Z 5 [[a,b,cc,d,J X x.main]])).push (.row Z 7 [cW c gv gw])).get H.next=D (.row Z 5 [[a,b,cc,d,J X x.main]]):=(av.push _ _).get G
 have cg:((H.push (.row Z 5 [[a,b,cc,d,J X x.main]])).push (.row Z 7 [cW c gv gw])).get (H.next+1)=D (.row Z 7 [cW c gv gw]):=ad.a_ _ _;have s:=bR.aE (av.push _ (.row Z 7 [cW c gv gw]));have L:=b0.aE (av.push _ (.row Z 7 [cW c gv gw]));simp-implicitDefEqProofs(disch:=try exact ai)only[BN,Nat.reduceAdd,aj,aJ,aL,ad.dm,dV af ah an aM,dA G,T,U _ (av.refl _),st,ad.ga];clear st T U bR b0;generalize ((H.push (.row Z 5 [[a,b,cc,d,J X x.main]])).push (.row Z 7 [cW c gv gw]))=H0 at*;have kA:=ad.bE aS;have aH:=ad.bE cg;generalize H.next+1=zC at*
 clear M G;generalize H.next=zX at*
 have O:cM H0 ok x (.agg [a,b,cc,d,J X x.main]):=⟨_,rfl,a,b,cc,d,rfl,af.aE o,ah.aE o,an.aE o,aM.aE o⟩;have n:=hH cg;rw[codeOk];have bad:¬(0<=c.params/\c.params<=6/\c.params<=c.vars.length/\c.vars.length<=4000/\1<=c.ins.length)->∀z:Bool,W (D (ae.bool Z,H0)) λr H'=>r= A (decide (0<=c.params/\c.params<=6/\c.params<=c.vars.length/\c.vars.length<=4000/\1<=c.ins.length)&&z)/\av H H':=λh z=>aG.2 ⟨by rw[decide_eq_false h];rfl,o⟩
 by_cases bh:c.params<0
 ·simp-implicitDefEqProofs(disch:=try exact ai)only[aj,aC,n,bh,decide_true];exact bad aa _
 by_cases a8:6<c.params
 ·simp-implicitDefEqProofs(disch:=try exact ai)only[aj,aJ,aC,aL,n,bh,a8,decide_true,decide_false];exact bad aa _
 by_cases bo:(c.vars.length:Int)<c.params
 ·simp-implicitDefEqProofs(disch:=try exact ai)only[aj,aJ,aC,aL,n,bh,a8,bo,s.len cX,decide_true,decide_false];exact bad aa _
 by_cases bJ:(4000:Int)<(c.vars.length:Int)
 ·simp-implicitDefEqProofs(disch:=try exact ai)only[aj,aJ,aC,aL,n,bh,a8,bo,bJ,s.len cX,decide_true,decide_false];exact bad aa _
 cases bT:((c.ins.length:Int)==0)with
 |true=>
  have ag:(c.ins.length:Int)=0:=by simpa using bT
  simp-implicitDefEqProofs(disch:=try exact ai)only[aj,aJ,aC,aL,n,bh,a8,bo,bJ,bT,s.len cX,L.len eA,decide_false];exact bad aa _
 |false=>
 have ag:¬(c.ins.length:Int)=0:=by simpa using bT
 have ak:1<=c.ins.length:=aa;rw[decide_eq_true aa,Bool.true_and];simp-implicitDefEqProofs(disch:=try exact ai)only[aj,aJ,aC,aL,n,bh,a8,bo,bJ,bT,s.len cX,L.len eA,decide_false,cH aS];refine cx (HT O s am) ?_;rintro _ K ⟨rfl,q⟩;refine⟨q.1,?_⟩;have y:=o.trans q;cases hm:c.vars.all (dE x.bV.length)with
 |false=>
  simp-implicitDefEqProofs(disch:=try exact ai)only[aj,Bool.not_false];exact aG.2 ⟨rfl,y⟩
 |true=>
 have t:=q.get aS;have k:=q.get cg;have u:=hH k;have Q:=O.aE q;have Y:bF (D (.agg [a,b,cc,d,J X x.main])) (.agg [a,b,cc,d,J X x.main])=true:=by simp[bF,ae.beq,er.beq,af.rd,ah.rd,an.rd,aM.rd]
 have go:∀m,av K m->W (aU (bN P 49 (.ptr zC 0 0) 4) λap=>aU (aI P m 47 ap) λab=>br P .len [47] [ab] m λaq=>qE (aQ P aK) (c.ins.length+1) (c.ins.length+1) (J X f) (.ptr zX 0 0) (.ptr zC 0 0) ab aq (J X 0) m) λr H'=>r= A (c.ins.all (dy x f c)&&jj (jI c.ins))/\av H H':=by
  intro m e;have R:=L.aE (q.trans e);simp-implicitDefEqProofs(disch:=try exact ai)only[br,aj,aJ,aL,hH (e.get k),R.len eA];refine(F8 (v:=gv) az N hm ak al c.ins.length 0 (c.ins.length+1) m aa aa (e.get t) (e.get k) (Q.aE e) R).mono ?_;rintro r aw ⟨rfl,ao⟩;exact⟨by rw[List.drop_zero],y.trans (e.trans ao)⟩
 simp-implicitDefEqProofs(disch:=try exact ai)only[aj,aJ,aL,Bool.not_true,u];cases l:c.has with
 |true=>
  rw[l]at u;simp-implicitDefEqProofs(disch:=try exact ai)only[aj,aJ,aL,c2,cH t,oU k];refine cx (vt Q c.res) ?_;rintro _ B ⟨rfl,e⟩;refine⟨e.1,?_⟩;have S:=hH (e.get k);rw[l]at S;cases au:dE x.bV.length c.res with
  |false=>
   simp-implicitDefEqProofs(disch:=try exact ai)only[aj,c2,y9,y8,Bool.not_false];refine cO (cP aF ?_) (aG.2 ⟨rfl,y.trans e⟩);refine cZ ?_ ?_
   ·simp only[ct,bz.K.heap,List.forall_mem_cons]
    repeat' first|exact av.refl _|exact e|(intro _ h;cases h;done)|refine ar ?_ ?_
   ·simp only[List.forall_mem_cons]
    repeat' first|(intro v i;cases i;done)|(intro v i;cases i;intro H' p;simp only[cH (p.get t),oU (p.get k),hH (p.get k),l,Y,cF,sx];done)|(intro _ h;cases h;done)|refine ar ?_ ?_
  |true=>
   simp-implicitDefEqProofs(disch:=try exact ai)only[aj,aJ,aL,c2,il,ec,Bool.not_true,S];refine cO (cP aF ?_) ?_
   ·refine cZ ?_ ?_
    ·simp only[ct,bz.K.heap,List.forall_mem_cons]
     repeat' first|exact av.refl _|exact e|(intro _ h;cases h;done)|refine ar ?_ ?_
    ·simp only[List.forall_mem_cons]
     repeat' first|(intro v i;cases i;done)|(intro v i;cases i;intro H' p;simp only[cH (p.get t),oU (p.get k),hH (p.get k),l,Y,cF,sx];done)|(intro _ h;cases h;done)|refine ar ?_ ?_
   ·have g:=go B e;rw[Bool.true_and,Bool.true_and];simp-implicitDefEqProofs(disch:=try exact ai)only[aj,aJ,aL]at g ⊢;exact g
 |false=>
  rw[l]at u;simp-implicitDefEqProofs(disch:=try exact ai)only[aj,aJ,aL,c2,il,ec,u,Bool.not_false];refine cx Bd ?_;rintro _ B ⟨rfl,e⟩;refine⟨e.1,?_⟩;simp-implicitDefEqProofs(disch:=try exact ai)only[aj,aJ,aL,c2,il,oU (e.get k),hK];by_cases au:c.res=bl
  ·have E:decide (c.res≠bl)=false:=by simp[au]
   rw[E,decide_eq_true au];simp-implicitDefEqProofs(disch:=try exact ai)only[aj];refine cO (cP aF ?_) ?_
   ·refine cZ ?_ ?_
    ·simp only[ct,bz.K.heap,List.forall_mem_cons]
     repeat' first|exact av.refl _|exact e|(intro _ h;cases h;done)|refine ar ?_ ?_
    ·simp only[List.forall_mem_cons]
     repeat' first|(intro v i;cases i;done)|(intro v i;cases i;intro H' p;simp only[oU (p.get k),hH (p.get k),l,cF,sx];done)|(intro _ h;cases h;done)|refine ar ?_ ?_
   ·have g:=go B e;rw[Bool.true_and,Bool.true_and];simp-implicitDefEqProofs(disch:=try exact ai)only[aj,aJ,aL]at g ⊢;exact g
  ·have E:decide (c.res≠bl)=true:=by simp[au]
   rw[E,decide_eq_false au];simp-implicitDefEqProofs(disch:=try exact ai)only[aj];refine cO (cP aF ?_) (aG.2 ⟨rfl,y.trans e⟩);refine cZ ?_ ?_
   ·simp only[ct,bz.K.heap,List.forall_mem_cons]
    repeat' first|exact av.refl _|exact e|(intro _ h;cases h;done)|refine ar ?_ ?_
   ·simp only[List.forall_mem_cons]
    repeat' first|(intro v i;cases i;done)|(intro v i;cases i;intro H' p;simp only[oU (p.get k),hH (p.get k),l,cF,sx];done)|(intro _ h;cases h;done)|refine ar ?_ ?_
def p4(x:bj):List bH->Nat->Nat->Bool
 |[],_,_=>C
 |c::cs,s,f=>decide (s+c.ins.length<=2500)&&(codeOk x f c&&p4 x cs (s+c.ins.length) (f+1))
def F9(x:bj):∀(cs:List bH) (s f:Nat),s<=2500->p4 x cs s f=(decide (s+fW cs<=2500)&&iI x cs f)
 |[],s,f,h=>by simp[p4,fW,iI,h]
 |c::cs,s,f,h=>by
  rw[p4,fW,iI];by_cases af:s+c.ins.length<=2500
  ·have e:decide (s+(c.ins.length+fW cs)<=2500)=decide (s+c.ins.length+fW cs<=2500):=by rw[Nat.add_assoc]
   rw[F9 x cs _ _ af,decide_eq_true af,Bool.true_and,e];cases decide (s+c.ins.length+fW cs<=2500)<;>cases codeOk x f c<;>cases iI x cs (f+1)<;>rfl
  ·rw[decide_eq_false af,decide_eq_false aa];rfl
def Ga{zX:Nat}(l:∀g∈x.ay,g.vars.length<=1000000000)(hlen:∀c∈x.ay,c.ins.length<=1000000000)(u:x.ay.length<=1000000000){N:Nat}:∀(j k m q:Nat) (H:ad),k+j=x.ay.length->j<m->q<=2500->H.get zX=D (.row Z 5 [[a,b,cc,d,J X x.main]])->cM H ok x (.agg [a,b,cc,d,J X x.main])->aO fC H ok x.ay cc->
  W (q3 (aQ P aK) N m (.ptr zX 0 0) (J X q) cc (J X x.ay.length) (J X k) H) λr H'=>r= A (p4 x (x.ay.drop k) q k)/\av H H'
 |_,_,0,_,_,_,hm,_,_,_,_=>aa
 |0,k,m+1,q,H,y,_,_,aS,aA,an=>by
  have f:¬(k:Int)<(x.ay.length:Int):=aa;simp-implicitDefEqProofs(disch:=try exact ai)only[q3,ui,Dx,aj,aC,f,decide_false];rw[List.drop_of_length_le aa];exact aG.2 ⟨rfl,av.refl _⟩
 |j+1,k,m+1,q,H,y,E,aN,aS,aA,an=>by
  have f:(k:Int)<(x.ay.length:Int):=aa;have h:k<x.ay.length:=aa;obtain⟨pp,gv,gw,o,s,bR,b0⟩:=an.p3 (j:=(k:Int)) (g:=x.ay[k]) aa (by simp[h]);have al:=hlen _ (List.getElem_mem h);have az:x.ay[k]? =D x.ay[k]:=by simp[h]
  have on:=Ga (zX:=zX) l hlen u (N:=N) j (k+1) m;rw[List.drop_eq_getElem_cons h,p4];generalize x.ay[k]=c at*;have st:=pv (c:=c) (v:=gv) (w:=gw) (ad.a_ H (.row Z 7 [[J X 0,.aB,A Z,J X 0,J X 0,J X 0,.aB]])) bR.one b0.one;have i:=av.push H (.row Z 7 [cW c gv gw]);have cg:=ad.a_ H (.row Z 7 [cW c gv gw]);have n:=hH cg;have t:IntKind.i64.wrap ((q:Int)+(c.ins.length:Int))=((q+c.ins.length:Nat):Int):=by rw[wrap_i64 aa aa];omega
  by_cases af:(2500:Int)<((q+c.ins.length:Nat):Int)
  ·simp-implicitDefEqProofs(disch:=try exact ai)only[q3,ui,br,Nat.reduceAdd,aj,aJ,aC,aL,f,decide_true,o,s _ (av.refl _),st,ad.ga,n,b0.len eA,t,af];exact aG.2 ⟨by rw[decide_eq_false aa];rfl,i⟩
  ·simp-implicitDefEqProofs(disch:=try exact ai)only[q3,ui,br,Nat.reduceAdd,aj,aJ,aC,aL,f,decide_true,decide_false,o,s _ (av.refl _),st,ad.ga,n,b0.len eA,t,af,cH (i.get aS)];refine cx (PV (aA.aE i) k az l hlen) ?_;rintro _ K ⟨rfl,p⟩;refine⟨p.1,?_⟩;have e:=i.trans p;rw[decide_eq_true (show q+c.ins.length<=2500 by omega),Bool.true_and];cases G:codeOk x k c with
   |false=>
    simp-implicitDefEqProofs(disch:=try exact ai)only[aj,Bool.not_false];exact aG.2 ⟨rfl,e⟩
   |true=>
    simp-implicitDefEqProofs(disch:=try exact ai)only[aj,aC,Bool.not_true,cq (show k<=1000000000 by omega)];refine(on (q+c.ins.length) K aa aa aa (e.get aS) (aA.aE e) (an.aE e)).mono ?_;rintro r B ⟨rfl,z⟩;exact⟨by rw[Bool.true_and],e.trans z⟩
def PW{V:ae}(aA:cM H ok x V)(h:∀g∈x.ay,g.vars.length<=1000000000)(hlen:∀c∈x.ay,c.ins.length<=1000000000)(i:x.ay.length<=1000000000):W (aQ P aK 76 [V] H) λr H'=>r= A (decide (fW x.ay<=2500)&&iI x x.ay 0)/\av H H':=by
 obtain⟨_,rfl,a,b,cc,d,rfl,af,ah,an,aM⟩:=aA;refine Y_ (x.ay.length+1) ?_;have e:=av.push H (.row Z 5 [[a,b,cc,d,J X x.main]]);have f:=ad.a_ H (.row Z 5 [[a,b,cc,d,J X x.main]]);simp-implicitDefEqProofs(disch:=try exact ai)only[Dw,br,aj,aJ,aL,dV af ah an aM,dA f,an.len cI];refine(Ga h hlen i x.ay.length 0 (x.ay.length+1) 0 _ aa aa aa f ⟨_,rfl,a,b,cc,d,rfl,af.aE e,ah.aE e,an.aE e,aM.aE e⟩ (an.aE e)).mono ?_;rintro r k ⟨rfl,j⟩;refine⟨?_,e.trans j⟩;have:=F9 x x.ay 0 0 aa;rw[Nat.zero_add]at this;rw[List.drop_zero,this]
def oO{V:ae}(aA:cM H ok x V)(O:∀g∈x.ay,g.vars.length<=1000000000)(hlen:∀c∈x.ay,c.ins.length<=1000000000):W (aQ P aK 35 [V] H) λr H'=>r= A (right x)/\av H H':=by
 obtain⟨_,rfl,a,b,cc,d,rfl,af,ah,an,aM⟩:=aA;refine YM 0 ?_;have o:=av.push H (.row Z 5 [[a,b,cc,d,J X x.main]]);have e:=ad.a_ H (.row Z 5 [[a,b,cc,d,J X x.main]]);have i:=dV af ah an aM x.main;have S:(λl:List cv=>decide (l.length<=8)&&l.all (dE x.bV.length))=lF x:=rfl;have bad:¬(x.bV.length<=12/\x.globals.length<=8/\1<=x.ay.length/\x.ay.length<=16/\x.sites.length<=60)->W (D (ae.bool Z,H.push (.row Z 5 [[a,b,cc,d,J X x.main]]))) λr H'=>r= A (right x)/\av H H':=λh=>aG.2 ⟨by rw[right,decide_eq_false h];rfl,o⟩
 by_cases bh:(12:Int)<(x.bV.length:Int)
 ·simp-implicitDefEqProofs(disch:=try exact ai)only[kL,br,aj,aJ,aC,aL,i,dA e,af.len eG,bh,decide_true];exact bad aa
 by_cases a8:(8:Int)<(x.globals.length:Int)
 ·simp-implicitDefEqProofs(disch:=try exact ai)only[kL,br,aj,aJ,aC,aL,i,dA e,af.len eG,ah.len cX,bh,a8,decide_true,decide_false];exact bad aa
 cases bo:((x.ay.length:Int)==0)with
 |true=>
  have N:(x.ay.length:Int)=0:=by simpa using bo
  simp-implicitDefEqProofs(disch:=try exact ai)only[kL,br,aj,aJ,aC,aL,i,dA e,af.len eG,ah.len cX,an.len cI,bh,a8,bo,decide_false];exact bad aa
 |false=>
 have N:¬(x.ay.length:Int)=0:=by simpa using bo
 by_cases bJ:(16:Int)<(x.ay.length:Int)
 ·simp-implicitDefEqProofs(disch:=try exact ai)only[kL,br,aj,aJ,aC,aL,i,dA e,af.len eG,ah.len cX,an.len cI,bh,a8,bo,bJ,decide_true,decide_false];exact bad aa
 by_cases bT:(60:Int)<(x.sites.length:Int)
 ·simp-implicitDefEqProofs(disch:=try exact ai)only[kL,br,aj,aJ,aC,aL,i,dA e,af.len eG,ah.len cX,an.len cI,aM.len fO,bh,a8,bo,bJ,bT,decide_true,decide_false];exact bad aa
 have R:decide (x.bV.length<=12/\x.globals.length<=8/\1<=x.ay.length/\x.ay.length<=16/\x.sites.length<=60)=true:=by simp;omega
 have au:right x=(hX x&&(x.globals.all (dE x.bV.length)&&(x.bV.all (lF x)&&(x.sites.all (h1 x)&&(decide (fW x.ay<=2500)&&iI x x.ay 0))))):=by rw[right,R,S,Bool.true_and]
 rw[au];by_cases k:x.main<0
 ·simp-implicitDefEqProofs(disch:=try exact ai)only[kL,br,aj,aJ,aC,aL,i,dA e,af.len eG,ah.len cX,an.len cI,aM.len fO,bh,a8,bo,bJ,bT,k,decide_true,decide_false];exact aG.2 ⟨by rw[hX,fc.2 (.inl k)];rfl,o⟩
 by_cases n:(x.ay.length:Int)<=x.main
 ·simp-implicitDefEqProofs(disch:=try exact ai)only[kL,br,aj,aJ,aC,aL,i,dA e,af.len eG,ah.len cX,an.len cI,aM.len fO,bh,a8,bo,bJ,bT,k,n,decide_true,decide_false];exact aG.2 ⟨by rw[hX,fc.2 (.inr n)];rfl,o⟩
 have mlt:x.main.toNat<x.ay.length:=aa;have Q:hX x=(x.ay[x.main.toNat].params==0&& !x.ay[x.main.toNat].has):=by
  rw[hX,iF aa];simp[mlt]
 obtain⟨pp,gv,gw,y,z,bR,b0⟩:=(an.aE o).p3 (j:=x.main) (g:=x.ay[x.main.toNat]) aa (by simp[mlt]);rw[Q];generalize x.ay[x.main.toNat]=c at*;have st:=pv (c:=c) (v:=gv) (w:=gw) (ad.a_ (H.push (.row Z 5 [[a,b,cc,d,J X x.main]])) (.row Z 7 [[J X 0,.aB,A Z,J X 0,J X 0,J X 0,.aB]])) bR.one b0.one;simp only[kG]at st;have M:=av.push (H.push (.row Z 5 [[a,b,cc,d,J X x.main]])) (.row Z 7 [cW c gv gw]);have f:=o.trans M;have cg:=ad.a_ (H.push (.row Z 5 [[a,b,cc,d,J X x.main]])) (.row Z 7 [cW c gv gw]);simp only[kG]at cg;have m:=hH cg
 have aS:=M.get e;cases u:(c.params==0)with
 |false=>
  simp-implicitDefEqProofs(disch:=try exact ai)only[kL,br,Nat.reduceAdd,aj,aJ,aC,aL,ad.dm,i,dA e,af.len eG,ah.len cX,an.len cI,aM.len fO,bh,a8,bo,bJ,bT,k,n,decide_false,y,z _ (av.refl _),st,ad.ga,m,u];exact aG.2 ⟨rfl,f⟩
 |true=>
 cases B:c.has with
 |true=>
  rw[B]at m;simp-implicitDefEqProofs(disch:=try exact ai)only[kL,br,Nat.reduceAdd,aj,aJ,aC,aL,ad.dm,i,dA e,af.len eG,ah.len cX,an.len cI,aM.len fO,bh,a8,bo,bJ,bT,k,n,decide_false,y,z _ (av.refl _),st,ad.ga,m,u,Bool.not_true];exact aG.2 ⟨rfl,f⟩
 |false=>
 rw[B]at m;simp-implicitDefEqProofs(disch:=try exact ai)only[kL,br,Nat.reduceAdd,aj,aJ,aC,aL,ad.dm,i,dA e,af.len eG,ah.len cX,an.len cI,aM.len fO,bh,a8,bo,bJ,bT,k,n,decide_false,y,z _ (av.refl _),st,ad.ga,m,u,Bool.not_false,cH aS];generalize (H.push (.row Z 5 [[a,b,cc,d,J X x.main]])).push (.row Z 7 [cW c gv gw])=H0 at*;generalize H.next=zX at*
 have q:cM H0 ok x (.agg [a,b,cc,d,J X x.main]):=⟨_,rfl,a,b,cc,d,rfl,af.aE f,ah.aE f,an.aE f,aM.aE f⟩;refine cx (ZQ q aa) ?_;rintro _ K ⟨rfl,p⟩;refine⟨p.1,?_⟩;cases t1:x.bV.all (lF x)with
 |false=>
  simp-implicitDefEqProofs(disch:=try exact ai)only[aj];exact aG.2 ⟨by simp,f.trans p⟩
 |true=>
 simp-implicitDefEqProofs(disch:=try exact ai)only[aj,aJ,aL,cH (p.get aS),dA (p.get aS)];refine cx (HT (q.aE p) ((ah.aE f).aE p) aa) ?_;rintro _ T ⟨rfl,E⟩;refine⟨E.1,?_⟩;have s:=p.trans E;cases t2:x.globals.all (dE x.bV.length)with
 |false=>
  simp-implicitDefEqProofs(disch:=try exact ai)only[aj];exact aG.2 ⟨by simp,f.trans s⟩
 |true=>
 simp-implicitDefEqProofs(disch:=try exact ai)only[aj,cH (s.get aS)];refine cx (TB (q.aE s) aa) ?_;rintro _ U ⟨rfl,G⟩;refine⟨G.1,?_⟩;have t:=s.trans G;cases t3:x.sites.all (h1 x)with
 |false=>
  simp-implicitDefEqProofs(disch:=try exact ai)only[aj];exact aG.2 ⟨by simp,f.trans t⟩
 |true=>
 simp-implicitDefEqProofs(disch:=try exact ai)only[aj,cH (t.get aS)];refine cx (PW (q.aE t) O hlen aa) ?_;rintro _ Y ⟨rfl,L⟩;refine⟨L.1,?_⟩;simp-implicitDefEqProofs(disch:=try exact ai)only[aj];exact aG.2 ⟨by simp,f.trans (t.trans L)⟩
