/-
  Texts of one proof, laid together: Nh Ni ShB Oa Ob Oc Od Oe Of.
-/
import Derived.Test.YtmhhnnklfcbgfaaGreatMI
set_option linter.unusedVariables false
set_option linter.unusedSimpArgs false
set_option linter.defProp false
open Option renaming some→D
open Bool renaming true→C,false→Z
open Go.bz.ae renaming int→J,str→F,bool→A
open Go.IntKind renaming i64→X
namespace Go.Proofs.YtmhhnnklfcbgfaaGreat
open Go.bz
section
open Go.a2
set_option maxRecDepth 2000
section
variable {H:ad}{ok:Nat->Prop}
def head(x:bj)(c:bH):Bool:=decide (0<=c.params/\c.params<=6/\c.params<=c.vars.length/\c.vars.length<=4000/\1<=c.ins.length)&&(c.vars.all (dE x.bV.length)&&(bif c.has then dE x.bV.length c.res else decide (c.res=bl)))
def lg(x:bj):List bH->Nat->Bool
 |[],_=>C
 |c::cs,s=>(decide (s+c.ins.length<=2500)&&head x c)&&lg x cs (s+c.ins.length)
def W8{x:bj}{a b cc d:ae}{zX k s:Nat}{c:bH}{S:ae->ae->ae->ad->O}{Q:ae->ad->Prop}{N:Nat}(U:x.ay[k]? =D c)(aC:k<=1000000)(aI:s<=2500)(ak:c.vars.length<=1000000000)(al:c.ins.length<=1000000000)
  (aS:H.get zX=D (.row Z 5 [[a,b,cc,d,J X x.main]])) (aA:cM H ok x (.agg [a,b,cc,d,J X x.main]))
  (y:(decide (s+c.ins.length<=2500)&&head x c)=Z->∀H',av H H'->Q (A Z) H') (dh:(decide (s+c.ins.length<=2500)&&head x c)=C->∀H',av H H'->W (S (.ptr zX 0 0) (J X ((s+c.ins.length:Nat):Int)) (J X ((k+1:Nat):Int)) H') Q):
  W (m1 (aQ P aK) N S (.ptr zX 0 0) (J X s) (J X k) H) Q:=by
 have E:=aA;obtain⟨_,ag,b8,b',aq,au,i,af,ah,an,aM⟩:=aA;cases ag;cases i;have aF:=(List.getElem?_eq_some_iff.1 U).1;have m:(k:Int)<(x.ay.length:Int):=aa;obtain⟨L,n,ro,els,ar,u,_,g,e,gv,gw,rfl,bR,b0⟩:=an.at_ (K:=fC) cI (j:=(k:Int)) (a:=c) aa (by simpa using U);have ax:=ad.bE g;have az:=ad.bE aS;have l:H.get L=D (.row ro 7 els):=g;have o:=bR.one;have t:=b0.one;have aL:zX≠H.next:=aa
 have aJ:L≠H.next:=aa
 have f:=av.push H (.row Z 7 [[J X c.params,gv,A c.has,J X c.res.b,J X c.res.r,J X c.res.d,gw]]);have v:IntKind.i64.wrap ((s:Int)+(c.ins.length:Int))=((s+c.ins.length:Nat):Int):=by rw[wrap_i64 aa aa];omega
 have bad:∀{H'},av H H'->(decide (s+c.ins.length<=2500)&&head x c)=Z->W (D (ae.bool Z,H')) Q:=λp h=>aG.2 (y h _ p)
 by_cases bh:(4000:Int)<(c.vars.length:Int)
 ·simp-implicitDefEqProofs(disch:=try exact ai)only[m1,Nat.reduceAdd,R,aS,an.len cI,m,u,l,e,o,t,bR.len cX,b0.len eA,v,bh,decide_true];exact bad f (by simp[head];omega)
 by_cases a8:c.params<0
 ·simp-implicitDefEqProofs(disch:=try exact ai)only[m1,Nat.reduceAdd,R,aS,an.len cI,m,u,l,e,o,t,bR.len cX,b0.len eA,v,bh,a8,decide_true,decide_false];exact bad f (by simp[head];omega)
 by_cases bo:(6:Int)<c.params
 ·simp-implicitDefEqProofs(disch:=try exact ai)only[m1,Nat.reduceAdd,R,aS,an.len cI,m,u,l,e,o,t,bR.len cX,b0.len eA,v,bh,a8,bo,decide_true,decide_false];exact bad f (by simp[head];omega)
 by_cases bJ:(c.vars.length:Int)<c.params
 ·simp-implicitDefEqProofs(disch:=try exact ai)only[m1,Nat.reduceAdd,R,aS,an.len cI,m,u,l,e,o,t,bR.len cX,b0.len eA,v,bh,a8,bo,bJ,decide_true,decide_false];exact bad f (by simp[head];omega)
 simp-implicitDefEqProofs(disch:=try exact ai)only[m1,Nat.reduceAdd,R,aS,an.len cI,m,u,l,e,o,t,bR.len cX,b0.len eA,v,bh,a8,bo,bJ,decide_true,decide_false];refine cx (Mv (E.aE f) (bR.aE f) ak) ?_;rintro _ H1 ⟨rfl,G⟩;refine⟨G.1,?_⟩;have q:=f.trans G;have cg:H1.get H.next=D (.row Z 7 [[J X c.params,gv,A c.has,J X c.res.b,J X c.res.r,J X c.res.d,gw]]):=G.get (ad.a_ _ _)
 have T:=q.get aS;have ap:=E.aE q;clear aS E;cases a1:c.vars.all (dE x.bV.length)with
 |false=>
  simp-implicitDefEqProofs(disch:=try exact ai)only[R,Bool.not_false];exact bad q (by simp only[head,a1];simp)
 |true=>
  by_cases bT:(c.ins.length:Int)<1
  ·simp-implicitDefEqProofs(disch:=try exact ai)only[R,Bool.not_true,cg,b0.len eA,bT,decide_true];exact bad q (by simp[head];omega)
  by_cases cn:(2500:Int)<((s+c.ins.length:Nat):Int)
  ·simp-implicitDefEqProofs(disch:=try exact ai)only[R,Bool.not_true,cg,b0.len eA,bT,cn,decide_true,decide_false];exact bad q (by simp;omega)
  have am:decide (s+c.ins.length<=2500)=true:=by simp;omega
  have ao:decide (0<=c.params/\c.params<=6/\c.params<=c.vars.length/\c.vars.length<=4000/\1<=c.ins.length)=true:=by simp;omega
  rw[am,Bool.true_and,head,ao,Bool.true_and,a1,Bool.true_and]at y dh bad;have aV:=cq (show k<=1000000000 by omega);have aw:=cH T;cases B:c.has with
  |false=>
   rw[B,jY]at y dh bad;rw[B]at cg;have aH:∀z,bm P .neq 46 z (.agg [J X c.res.b,J X c.res.r,J X c.res.d]) (.agg [J X 0,J X 0,J X 0])=D (A (decide (c.res≠bl))):=λz=>hK _ bl z
   by_cases w:c.res=bl
   ·have i:decide (c.res≠bl)=false:=by simp[w]
    simp-implicitDefEqProofs(disch:=try exact ai)only[Nat.reduceAdd,Nat.reduceLeDiff,R,Bool.not_true,Bool.not_false,cg,b0.len eA,bT,cn,aH,i,aV,decide_false];exact dh (by simp[w]) H1 q
   ·have i:decide (c.res≠bl)=true:=by simp[w]
    simp-implicitDefEqProofs(disch:=try exact ai)only[Nat.reduceAdd,Nat.reduceLeDiff,R,Bool.not_true,Bool.not_false,cg,b0.len eA,bT,cn,aH,i,decide_false];exact bad q (by simp[w])
  |true=>
   rw[B,gP]at y dh bad;rw[B]at cg;simp-implicitDefEqProofs(disch:=try exact ai)only[Nat.reduceAdd,Nat.reduceLeDiff,R,Bool.not_true,cg,T,b0.len eA,bT,cn,decide_false];refine cx (vT ap c.res) ?_;rintro _ ab ⟨rfl,M⟩;refine⟨M.1,?_⟩;have Y:=q.trans M;have aj:=M.get cg;cases V:dE x.bV.length c.res with
   |false=>
    simp-implicitDefEqProofs(disch:=try exact ai)only[R,Bool.not_false];exact bad Y V
   |true=>
    simp-implicitDefEqProofs(disch:=try exact ai)only[R,Bool.not_true,aj,aV];exact dh V ab Y
def Hr{x:bj}{c:bH}(h:head x c=C):c.vars.all (dE x.bV.length)=C/\1<=c.ins.length:=by
 simp only[head,Bool.and_eq_true,decide_eq_true_eq]at h;exact⟨h.2.1,h.1.2.2.2.2⟩
def Hs{x:bj}{a b cc d:ae}{zX:Nat}(h:∀g∈x.ay,g.vars.length<=1000000000)(hlen:∀c∈x.ay,c.ins.length<=1000000000)(o:x.ay.length<=1000000){N:Nat}(l:∀c∈x.ay,c.ins.length<N)(n:x.ay.length<N):
  ∀(j k m s:Nat) (H:ad),k+j=x.ay.length->j<m->s<=2500->(∀c∈x.ay.take k,head x c=C)->H.get zX=D (.row Z 5 [[a,b,cc,d,J X x.main]])->cM H ok x (.agg [a,b,cc,d,J X x.main])->
  W (tE (aQ P aK) N m (.ptr zX 0 0) (J X s) (J X k) H) λr H'=>r= A (lg x (x.ay.drop k) s&&(kN x x.ay 0&&hX x))/\av H H'
 |_,_,0,_,_,_,z,_,_,_,_=>aa
 |0,k,m+1,s,H,w,_,t,e,aS,aA=>by
  have B:=aA;obtain⟨_,u,b8,b',K,L,v,af,ah,an,aM⟩:=aA;cases u;cases v;have y:¬(k:Int)<(x.ay.length:Int):=aa;rw[List.take_of_length_le aa]at e;rw[List.drop_of_length_le aa,lg,Bool.true_and];simp-implicitDefEqProofs(disch:=try exact ai)only[tE,m1,xQ,aj,aC,aL,Nat.zero_add,br,mP aS,an.len cI,y,decide_false];exact Ki h (λc aq=>(Hr (e c aq)).1) (λc aq=>⟨(Hr (e c aq)).2,hlen c aq⟩) o l x.ay.length 0 N H aa n aS B
 |j+1,k,m+1,s,H,w,z,t,e,aS,aA=>by
  have f:k<x.ay.length:=aa;have q:=List.getElem_mem f;rw[tE];rw[List.drop_eq_getElem_cons f,lg];refine W8 (c:=x.ay[k]) (by simp[f]) aa t (h _ q) (hlen _ q) aS aA (λaz H' p=> ?_) λa1 H' p=> ?_
  ·exact⟨by rw[az];simp,p⟩
  ·have i:=a1;simp only[Bool.and_eq_true,decide_eq_true_eq]at i;refine(Hs h hlen o l n j (k+1) m (s+x.ay[k].ins.length) H' aa aa i.1 ?_ (p.get aS) (aA.aE p)).mono ?_
   ·intro c aq;rw[List.take_succ_eq_append_getElem f,List.mem_append]at aq;rcases aq with aq|aq
    ·exact e c aq
    ·rw[List.mem_singleton.1 aq];exact i.2
   ·rintro r G ⟨rfl,E⟩;exact⟨by rw[a1,Bool.true_and],p.trans E⟩
def LH{x:bj}{a b cc d:ae}{zX:Nat}(B:∀g∈x.ay,g.vars.length<=1000000000)(hlen:∀c∈x.ay,c.ins.length<=1000000000)(E:x.ay.length<=1000000)(Y:x.sites.length<=1000000){N:Nat}(y:∀c∈x.ay,c.ins.length<N)(u:x.ay.length<N):
  ∀(j k m:Nat) (H:ad),k+j=x.sites.length->j<m->H.get zX=D (.row Z 5 [[a,b,cc,d,J X x.main]])->cM H ok x (.agg [a,b,cc,d,J X x.main])->
  W (pc (aQ P aK) N m (.ptr zX 0 0) (J X k) H) λr H'=>r= A ((x.sites.drop k).all (h1 x)&&(lg x x.ay 0&&(kN x x.ay 0&&hX x)))/\av H H'
 |_,_,0,_,_,V,_,_=>aa
 |0,k,m+1,H,U,_,aS,aA=>by
  have i:=aA;obtain⟨_,p,b8,b',Q,S,s,af,ah,an,aM⟩:=aA;cases p;cases s;have h:¬(k:Int)<(x.sites.length:Int):=aa;rw[List.drop_of_length_le aa,List.all_nil,Bool.true_and];simp-implicitDefEqProofs(disch:=try exact ai)only[pc,qT,CU,aj,aC,aL,Nat.zero_add,br,mP aS,aM.len fO,h,decide_false];exact Hs B hlen E y u x.ay.length 0 N 0 H aa u aa (by simp) aS i
 |j+1,k,m+1,H,U,V,aS,aA=>by
  have i:=aA;obtain⟨_,p,b8,b',Q,S,s,af,ah,an,aM⟩:=aA;cases p;cases s;have h:(k:Int)<(x.sites.length:Int):=aa;have G:k<x.sites.length:=aa;obtain⟨L,n,ro,els,ak,w,_,g,e,rfl⟩:=aM.at_ (K:=lU) fO (j:=(k:Int)) (a:=x.sites[k]) aa (by simp[G]);have al:=ad.bE g;have am:=ad.bE aS;have t:H.get L=D (.row ro 4 els):=g;have ap:zX≠H.next:=aa
  rw[bZ]at e;rw[List.drop_eq_getElem_cons G,List.all_cons];have on:=LH (x:=x) (a:=a) (b:=b) (cc:=cc) (d:=d) (zX:=zX) B hlen E Y y u j (k+1) m;generalize x.sites[k]=z at*;have l:=av.push H (.row Z 4 [[J X z.f,J X z.ty.b,J X z.ty.r,J X z.ty.d]]);have aV:=cq (show k<=1000000000 by omega);by_cases bh:z.f<0
  ·simp-implicitDefEqProofs(disch:=try exact ai)only[pc,qT,Nat.reduceAdd,R,aS,aM.len fO,h,w,t,e,bh,decide_true];exact aG.2 ⟨by simp[h1,show¬0<=z.f by omega],l⟩
  by_cases a8:(x.ay.length:Int)<=z.f
  ·simp-implicitDefEqProofs(disch:=try exact ai)only[pc,qT,Nat.reduceAdd,R,aS,aM.len fO,an.len cI,h,w,t,e,bh,a8,decide_true,decide_false];exact aG.2 ⟨by simp[h1,show¬z.f<(x.ay.length:Int) by omega],l⟩
  simp-implicitDefEqProofs(disch:=try exact ai)only[pc,qT,Nat.reduceAdd,R,aS,aM.len fO,an.len cI,h,w,t,e,bh,a8,decide_true,decide_false];refine cx (vT (i.aE l) z.ty) ?_;rintro _ H1 ⟨rfl,v⟩;refine⟨v.1,?_⟩;have q:=l.trans v;have T:H1.get H.next=D (.row Z 4 [[J X z.f,J X z.ty.b,J X z.ty.r,J X z.ty.d]]):=v.get (ad.a_ _ _)
  have az:decide (0<=z.f/\z.f<(x.ay.length:Int))=true:=by simp;omega
  rw[h1,az,Bool.true_and];cases ao:dE x.bV.length z.ty with
  |false=>
   simp-implicitDefEqProofs(disch:=try exact ai)only[R,Bool.not_false];exact aG.2 ⟨by simp,q⟩
  |true=>
   simp-implicitDefEqProofs(disch:=try exact ai)only[Nat.reduceAdd,R,Bool.not_true,T];refine cx (Ka z.ty) ?_;rintro _ O ⟨rfl,M⟩;refine⟨M.1,?_⟩;have o:=q.trans M;cases au:jM z.ty with
   |false=>
    simp-implicitDefEqProofs(disch:=try exact ai)only[R,Bool.not_false];exact aG.2 ⟨by simp,o⟩
   |true=>
    simp-implicitDefEqProofs(disch:=try exact ai)only[R,Bool.not_true,aV];refine(on O aa aa (o.get aS) (i.aE o)).mono ?_;rintro r ag ⟨rfl,ab⟩;exact⟨by simp,o.trans ab⟩
end
end
section
open Go.a2
set_option maxRecDepth 2000
section
variable {H:ad}{ok:Nat->Prop}
def GV{x:bj}{l:List cv}{v:ae}{a b cc d:ae}{zX r:Nat}(au:r<=1000000)(y:l.length<=1000000){L10:ae->ae->ad->O}{Q:ae->ad->Prop}{N:Nat}:
  ∀(j k m:Nat) (H:ad),k+j=l.length->j<m->H.get zX=D (.row Z 5 [[a,b,cc,d,J X x.main]])->cM H ok x (.agg [a,b,cc,d,J X x.main])->aO kU H ok l v->
  ((l.drop k).all (dE x.bV.length)=Z->∀H',av H H'->Q (A Z) H')->((l.drop k).all (dE x.bV.length)=C->∀H',av H H'->W (L10 (.ptr zX 0 0) (J X ((r+1:Nat):Int)) H') Q)->
  W (tB (aQ P aK) N L10 m (.ptr zX 0 0) (J X r) v (J X k) H) Q
 |_,_,0,_,_,B,_,_,_,_,_=>aa
 |0,k,m+1,H,z,_,aS,aA,h,q,dh=>by
  have u:¬(k:Int)<(l.length:Int):=aa;have:=dh (by rw[List.drop_of_length_le aa];rfl) H (av.refl _);simp-implicitDefEqProofs(disch:=try exact ai)only[tB,xM,xP,aj,aC,br,h.len iS,u,decide_false,cq (show r<=1000000000 by omega)];exact this
 |j+1,k,m+1,H,z,B,aS,aA,h,q,dh=>by
  have u:(k:Int)<(l.length:Int):=aa;have o:k<l.length:=aa;obtain⟨L,n,ro,els,M,G,_,g,e,s,rfl⟩:=h.at_ (K:=kU) iS (j:=(k:Int)) (a:=l[k]) aa (by simp[o]);have E:aI P H 46 (.ptr L n 1)=D (cU l[k]):=gY (n:=3) (i:=n) (c:=1) aF aF g e bU;simp-implicitDefEqProofs(disch:=try exact ai)only[tB,xM,aj,aC,aL,Nat.zero_add,br,h.len iS,u,decide_true,G,E,cH aS];refine aZ (vT aA l[k]) ?_;rintro _ H1 ⟨rfl,f⟩;refine⟨f.1,?_⟩;cases w:dE x.bV.length l[k]with
  |false=>
   simp-implicitDefEqProofs(disch:=try exact ai)only[aj,Bool.not_false];exact aG.2 (q (by rw[List.drop_eq_getElem_cons o,List.all_cons,w];rfl) H1 f)
  |true=>
   simp-implicitDefEqProofs(disch:=try exact ai)only[aj,aC,Bool.not_true,cq (show k<=1000000000 by omega)];refine GV au y j (k+1) m H1 aa aa (f.get aS) (aA.aE f) (h.aE f) (λt H' p=>q (by rw[List.drop_eq_getElem_cons o,List.all_cons,w,t];rfl) H' (f.trans p)) λt H' p=>dh ?_ H' (f.trans p)
   rw[List.drop_eq_getElem_cons o,List.all_cons,w,t];rfl
def lF(x:bj)(l:List cv):Bool:=decide (l.length<=8)&&l.all (dE x.bV.length)
def J_{x:bj}{a b cc d:ae}{zX:Nat}(w:∀g∈x.ay,g.vars.length<=1000000000)(hlen:∀c∈x.ay,c.ins.length<=1000000000)(y:x.ay.length<=1000000)(B:x.sites.length<=1000000)(Y:x.bV.length<=1000000){N:Nat}(t:∀c∈x.ay,c.ins.length<N)(u:x.ay.length<N)(v:x.sites.length<N)(T:8<N):
  ∀(j k m:Nat) (H:ad),k+j=x.bV.length->j<m->H.get zX=D (.row Z 5 [[a,b,cc,d,J X x.main]])->cM H ok x (.agg [a,b,cc,d,J X x.main])->
  W (qU (aQ P aK) N m (.ptr zX 0 0) (J X k) H) λr H'=>r= A ((x.bV.drop k).all (lF x)&&(x.sites.all (h1 x)&&(lg x x.ay 0&&(kN x x.ay 0&&hX x))))/\av H H'
 |_,_,0,_,_,V,_,_=>aa
 |0,k,m+1,H,U,_,aS,aA=>by
  have i:=aA;obtain⟨_,o,b8,b',M,O,q,af,ah,an,aM⟩:=aA;cases o;cases q;have h:¬(k:Int)<(x.bV.length:Int):=aa;rw[List.drop_of_length_le aa,List.all_nil,Bool.true_and];simp-implicitDefEqProofs(disch:=try exact ai)only[qU,tz,tA,aj,aC,aL,Nat.zero_add,br,mP aS,af.len eG,h,decide_false];exact LH w hlen y B t u x.sites.length 0 N H aa v aS i
 |j+1,k,m+1,H,U,V,aS,aA=>by
  have i:=aA;obtain⟨_,o,b8,b',M,O,q,af,ah,an,aM⟩:=aA;cases o;cases q;have h:(k:Int)<(x.bV.length:Int):=aa;have z:k<x.bV.length:=aa;obtain⟨L,n,ro,els,ak,G,_,g,e,s,fv,rfl,az⟩:=af.at_ (K:=lT) eG (j:=(k:Int)) (a:=x.bV[k]) aa (by simp[z]);have E:aI P H 93 (.ptr L n 1)=D fv:=by
   have Q:H.get L=D (.row ro 2 els):=g;simp-implicitDefEqProofs(disch:=try exact ai)only[R,Q,e]
  rw[List.drop_eq_getElem_cons z,List.all_cons,lF];by_cases e3:(8:Int)<(x.bV[k].length:Int)
  ·simp-implicitDefEqProofs(disch:=try exact ai)only[qU,tz,aj,aC,aL,Nat.zero_add,br,mP aS,af.len eG,h,decide_true,G,E,az.len iS,e3];exact aG.2 ⟨by simp[show¬x.bV[k].length<=8 by omega],av.refl _⟩
  ·have S:decide (x.bV[k].length<=8)=true:=by simp;omega
   simp-implicitDefEqProofs(disch:=try exact ai)only[qU,tz,aj,aC,aL,Nat.zero_add,br,mP aS,af.len eG,h,decide_true,decide_false,G,E,az.len iS,e3];rw[S,Bool.true_and];refine GV (x:=x) (l:=x.bV[k]) aa aa x.bV[k].length 0 N H aa aa aS i az (λf H' p=> ?_) λf H' p=> ?_
   ·rw[List.drop_zero]at f;exact⟨by rw[f];simp,p⟩
   ·rw[List.drop_zero]at f;refine(J_ w hlen y B Y t u v T j (k+1) m H' aa aa (p.get aS) (i.aE p)).mono ?_;rintro r ag ⟨rfl,ab⟩;exact⟨by rw[f];simp,p.trans ab⟩
def Ht(x:bj):∀(cs:List bH) (s f:Nat),s<=2500->(lg x cs s&&kN x cs f)=(decide (s+fW cs<=2500)&&iI x cs f)
 |[],s,f,h=>by simp[lg,kN,fW,iI,h]
 |c::cs,s,f,h=>by
  have aq:codeOk x f c=(head x c&&(c.ins.all (dy x f c)&&jj (jI c.ins))):=by
   simp only[codeOk,head,Bool.and_assoc]
  rw[lg,kN,fW,iI,aq];by_cases af:s+c.ins.length<=2500
  ·have a:=Ht x cs (s+c.ins.length) (f+1) af;have e:decide (s+(c.ins.length+fW cs)<=2500)=decide (s+c.ins.length+fW cs<=2500):=by rw[Nat.add_assoc]
   rw[e,decide_eq_true af,Bool.true_and];cases head x c<;>cases(c.ins.all (dy x f c)&&jj (jI c.ins))<;>simp_all
  ·rw[decide_eq_false af,decide_eq_false aa];simp
def W7(x:bj):(decide (x.bV.length<=12/\x.globals.length<=8/\1<=x.ay.length/\x.ay.length<=16/\x.sites.length<=60)&&(x.globals.all (dE x.bV.length)&&(x.bV.all (lF x)&&(x.sites.all (h1 x)&&(lg x x.ay 0&&(kN x x.ay 0&&hX x))))))=right x:=by
 have h:=Ht x x.ay 0 0 aa;rw[Nat.zero_add]at h;have e:(lg x x.ay 0&&(kN x x.ay 0&&hX x))=(decide (fW x.ay<=2500)&&iI x x.ay 0&&hX x):=by rw[<-Bool.and_assoc,h]
 have r:(λl:List cv=>decide (l.length<=8)&&l.all (dE x.bV.length))=lF x:=rfl;rw[e,right,r];cases hX x<;>cases x.globals.all (dE x.bV.length)<;>cases x.bV.all (lF x)<;>cases x.sites.all (h1 x)<;>cases decide (fW x.ay<=2500)<;>cases iI x x.ay 0<;>simp
def Bv{x:bj}{v:ae}(aA:cM H ok x v)(j:∀g∈x.ay,g.vars.length<=1000000000)(hlen:∀c∈x.ay,c.ins.length<=1000000000):W (aQ P aK 24 [v] H) λr H'=>r= A (right x)/\av H H':=by
 obtain⟨_,rfl,a,b,cc,d,rfl,af,ah,an,aM⟩:=aA;refine Yj 1000000001 ?_;have f:=dV af ah an aM x.main;have e:=av.push H (.row Z 5 [[a,b,cc,d,J X x.main]]);have aS:(H.push (.row Z 5 [[a,b,cc,d,J X x.main]])).get H.next=D (.row Z 5 [[a,b,cc,d,J X x.main]]):=ad.a_ _ _
 rw[<-W7];by_cases bh:(12:Int)<(x.bV.length:Int)
 ·simp-implicitDefEqProofs(disch:=try exact ai)only[pb,R,f,af.len eG,bh,decide_true];exact aG.2 ⟨by rw[decide_eq_false aa];rfl,e⟩
 by_cases a8:(8:Int)<(x.globals.length:Int)
 ·simp-implicitDefEqProofs(disch:=try exact ai)only[pb,R,f,af.len eG,ah.len cX,bh,a8,decide_true,decide_false];exact aG.2 ⟨by rw[decide_eq_false aa];rfl,e⟩
 by_cases bo:(x.ay.length:Int)<1
 ·simp-implicitDefEqProofs(disch:=try exact ai)only[pb,R,f,af.len eG,ah.len cX,an.len cI,bh,a8,bo,decide_true,decide_false];exact aG.2 ⟨by rw[decide_eq_false aa];rfl,e⟩
 by_cases bJ:(16:Int)<(x.ay.length:Int)
 ·simp-implicitDefEqProofs(disch:=try exact ai)only[pb,R,f,af.len eG,ah.len cX,an.len cI,bh,a8,bo,bJ,decide_true,decide_false];exact aG.2 ⟨by rw[decide_eq_false aa];rfl,e⟩
 by_cases bT:(60:Int)<(x.sites.length:Int)
 ·simp-implicitDefEqProofs(disch:=try exact ai)only[pb,R,f,af.len eG,ah.len cX,an.len cI,aM.len fO,bh,a8,bo,bJ,bT,decide_true,decide_false];exact aG.2 ⟨by rw[decide_eq_false aa];rfl,e⟩
 rw[decide_eq_true aa,Bool.true_and];simp-implicitDefEqProofs(disch:=try exact ai)only[pb,Nat.reduceAdd,R,f,af.len eG,ah.len cX,an.len cI,aM.len fO,bh,a8,bo,bJ,bT,decide_false];have i:cM (H.push (.row Z 5 [[a,b,cc,d,J X x.main]])) ok x (.agg [a,b,cc,d,J X x.main]):=⟨_,rfl,a,b,cc,d,rfl,af.aE e,ah.aE e,an.aE e,aM.aE e⟩;refine cx (Mv i (ah.aE e) aa) ?_;rintro _ H1 ⟨rfl,h⟩;refine⟨h.1,?_⟩;have q:=e.trans h;cases a1:x.globals.all (dE x.bV.length)with
 |false=>
  simp-implicitDefEqProofs(disch:=try exact ai)only[aj,Bool.not_false];exact aG.2 ⟨by simp,q⟩
 |true=>
  simp-implicitDefEqProofs(disch:=try exact ai)only[aj,Bool.not_true];have key:=J_ (x:=x) j hlen aa aa aa (N:=1000000001) (λc aq=>by have:=hlen c aq;omega) aa aa aa x.bV.length 0 1000000001 H1 aa aa (h.get aS) (i.aE h);refine key.mono ?_;rintro r l ⟨rfl,k⟩;exact⟨by rw[List.drop_zero,Bool.true_and],q.trans k⟩
end
end
section
set_option maxRecDepth 100000
set_option maxHeartbeats 4000000
noncomputable section
def kL(G:aw):gM Tryz.f35 G:=⟨_,λN=>t1 ao⟩
def YM(N:Nat):=dZ Tryz.func35 λG=>(kL G).2 N
def ue(G:aw)(N:Nat):g5 Tryz.f73 G N (·.ag.ag) (bg Tryz.f73) []:=⟨_,v0 ao⟩
def yt(G:aw)(N:Nat)(L1:b_):en 1 8 9 10 Tryz.f73 G N (·.ag.ax.ag.ax.ax.ag.ag.ag) (bT L1 1 8 9 10) [(0,(bh (ue G N)))]:=⟨_,v4 ao⟩
def ys(G:aw)(N:Nat)(L1:b_)(L3:fI):kX 1 8 9 10 19 20 21 Tryz.f73 G N (·.ag.ax.ag.ax.ax.ag.ag.ax.ax.ag.ag.ag.ax.ax) (ea L3 1 8 9 10 19 20 21) [(2,(bT (yt G N L1) 1 8 9 10)),(1,(bT (yt G N L1) 1 8 9 10)),(0,(bh (ue G N)))]:=⟨_,kQ ao⟩
def uf(G:aw)(N:Nat)(L1:b_):Nat->fI
 |0=>pB
 |n+1=>ys G N L1 (uf G N L1 n)
def ud(G:aw)(N:Nat)(L1:b_):en 1 8 9 10 Tryz.f73 G N (·.ag.ax.ag.ax.ax) (bT L1 1 8 9 10) [(0,(bh (ue G N)))]:=⟨_,v4 (ak (ak (ak ((yt G N L1).2) (bD (ak (ak (ak (bD (b3 (λm=>(ys G N L1 (uf G N L1 m)).2))) ao) ao) ao))) ao) ao)⟩
def q2(G:aw)(N:Nat):Nat->b_
 |0=>fk
 |n+1=>ud G N (q2 G N n)
def Dr(G:aw)(N:Nat):fU Tryz.f73 G N:=⟨_,t1 (ak (ak ((ue G N).2) (ak (bD (b3 (λm=>(ud G N (q2 G N m)).2))) ao)) ao)⟩
def Y7(N:Nat):=dZ Tryz.func73 λG=>(Dr G N).2
def Dt(G:aw)(N:Nat):g5 Tryz.f74 G N (·.ag.ag) (bg Tryz.f74) []:=⟨_,v0 ao⟩
def yu(G:aw)(N:Nat)(L1:b_):en 2 7 8 9 Tryz.f74 G N (·.ag.ax.ag.ax.ax) (bT L1 2 7 8 9) [(0,(bh (Dt G N)))]:=⟨_,v4 ao⟩
def ug(G:aw)(N:Nat):Nat->b_
 |0=>fk
 |n+1=>yu G N (ug G N n)
def Ds(G:aw)(N:Nat):fJ Tryz.f74 G N:=⟨_,t2 (ak (ak ((Dt G N).2) (ak (bD (b3 (λm=>(yu G N (ug G N m)).2))) ao)) ao)⟩
def Y8(N:Nat):=dc Tryz.func74 λG=>(Ds G N).2
def Dv(G:aw)(N:Nat):g5 Tryz.f75 G N (·.ag.ag) (bg Tryz.f75) []:=⟨_,v0 ao⟩
def yv(G:aw)(N:Nat)(L1:b_):en 1 6 7 8 Tryz.f75 G N (·.ag.ax.ag.ax.ax) (bT L1 1 6 7 8) [(0,(bh (Dv G N)))]:=⟨_,v4 ao⟩
def uh(G:aw)(N:Nat):Nat->b_
 |0=>fk
 |n+1=>yv G N (uh G N n)
def Du(G:aw)(N:Nat):fU Tryz.f75 G N:=⟨_,t1 (ak (ak ((Dv G N).2) (ak (bD (b3 (λm=>(yv G N (uh G N m)).2))) ao)) ao)⟩
def Y9(N:Nat):=dZ Tryz.func75 λG=>(Du G N).2
def Dx(G:aw)(N:Nat):g5 Tryz.f76 G N (·.ag.ag.ag) (bg Tryz.f76) []:=⟨_,v0 ao⟩
def ui(G:aw)(N:Nat)(L1:dj):gk 1 3 7 8 9 Tryz.f76 G N (·.ag.ag.ax.ag.ax.ax) (cn L1 1 3 7 8 9) [(0,(bh (Dx G N)))]:=⟨_,v5 ao⟩
def q3(G:aw)(N:Nat):Nat->dj
 |0=>jc
 |n+1=>ui G N (q3 G N n)
def Dw(G:aw)(N:Nat):fU Tryz.f76 G N:=⟨_,t1 (ak (ak (ak ((Dx G N).2) (ak (bD (b3 (λm=>(ui G N (q3 G N m)).2))) ao)) ao) ao)⟩
def Y_(N:Nat):=dZ Tryz.func76 λG=>(Dw G N).2
def nY(G:aw):pK 2 3 Tryz.f124 G (·.ag.ag.ag) (bg Tryz.f124) []:=⟨_,λN=>v2 ao⟩
def qC(G:aw):iA 2 3 15 Tryz.f124 G (·.ag.ag.ax.ag.ax.ag) (bo (nY G) 2 3) [(0,(bo (nY G) 2 3))]:=⟨_,λN=>v3 ao⟩
def mZ(G:aw):ev Tryz.f124 G:=⟨_,λN=>t2 (ak (ak (ak ((nY G).2 N) (ak (bD (ak ((qC G).2 N) ao)) ao)) ao) ao)⟩
def Xs(N:Nat):=dc Tryz.func124 λG=>(mZ G).2 N
def qD(G:aw)(N:Nat):et 5 Tryz.f126 G N (·.ag.ag.ag.ag.ag) (bg Tryz.f126) []:=⟨_,v1 ao⟩
def wP(G:aw)(N:Nat)(L1:dr):iz 1 2 5 70 71 72 Tryz.f126 G N (·.ag.ag.ag.ag.ax.ag.ax.ax) (cy L1 1 2 5 70 71 72) [(0,(a8 (qD G N) 5))]:=⟨_,v6 ao⟩
def qE(G:aw)(N:Nat):Nat->dr
 |0=>lO
 |n+1=>wP G N (qE G N n)
def BN(G:aw)(N:Nat):fJ Tryz.f126 G N:=⟨_,p6 (ak (ak (ak (ak (ak ((qD G N).2) (ak (bD (b3 (λm=>(wP G N (qE G N m)).2))) ao)) ao) ao) ao) ao) (x:=trivial)⟩
def Xu(N:Nat):=dc Tryz.func126 λG=>(BN G N).2
def B4(G:aw):rp Tryz.f167 G:=⟨_,λN=>t0 ao⟩
def XG(N:Nat):=Bz Tryz.func167 λG=>(B4 G).2 N
def B5(G:aw):iB Tryz.f168 G:=⟨_,λN=>vd ao (x:=trivial)⟩
def XH(N:Nat):=g0 Tryz.func168 λG=>(B5 G).2 N
def e6(G:aw):W0 Tryz.f217 G (·.ag.ag) (bg Tryz.f217) []:=⟨_,λN=>v0 ao⟩
def mh(G:aw):iA 1 4 29 Tryz.f217 G (·.ag.ax.ag.ax.ag.ag.ag.ag.ag.ag.ag.ag.ag) (bh (e6 G)) [(0,(bh (e6 G)))]:=⟨_,λN=>v3 ao⟩
def kJ(G:aw):iA 1 4 24 Tryz.f217 G (·.ag.ax.ag.ax.ag.ag.ag.ag.ag.ag.ag) (bh (e6 G)) [(0,(bh (e6 G)))]:=⟨_,λN=>v3 (dp ao (ak ((mh G).2 N) ao))⟩
def jN(G:aw):iA 1 4 19 Tryz.f217 G (·.ag.ax.ag.ax.ag.ag.ag.ag.ag) (bh (e6 G)) [(0,(bh (e6 G)))]:=⟨_,λN=>v3 (dp ao (ak ((kJ G).2 N) ao))⟩
def h0(G:aw):iA 1 4 12 Tryz.f217 G (·.ag.ax.ag.ax.ag.ag.ag) (bh (e6 G)) [(0,(bh (e6 G)))]:=⟨_,λN=>v3 (dp ao (ak ((jN G).2 N) ao))⟩
def g1(G:aw):iA 1 4 5 Tryz.f217 G (·.ag.ax.ag.ax.ag) (bh (e6 G)) [(0,(bh (e6 G)))]:=⟨_,λN=>v3 (dp ao (ak ((h0 G).2 N) ao))⟩
def gV(G:aw):gM Tryz.f217 G:=⟨_,λN=>t1 (ak (ak ((e6 G).2 N) (ak (bD (ak ((g1 G).2 N) ao)) ao)) ao)⟩
def X8(N:Nat):=dZ Tryz.func217 λG=>(gV G).2 N
def Cy(G:aw):gM Tryz.f218 G:=⟨_,λN=>nx ao⟩
def X9(N:Nat):=dZ Tryz.func218 λG=>(Cy G).2 N
def eT(G:aw):EK Tryz.f240 G:=⟨_,λN=>t5 ao⟩
def mY(N:Nat):=Kp Tryz.func240 λG=>(eT G).2 N
def CM(G:aw):ev Tryz.f241 G:=⟨_,λN=>t2 ao⟩
def Yk(N:Nat):=dc Tryz.func241 λG=>(CM G).2 N
def CN(G:aw):ev Tryz.f242 G:=⟨_,λN=>t2 ao⟩
def Yl(N:Nat):=dc Tryz.func242 λG=>(CN G).2 N
def tw(G:aw):ev Tryz.f243 G:=⟨_,λN=>t2 ao⟩
def Ym(N:Nat):=dc Tryz.func243 λG=>(tw G).2 N
def CP(G:aw)(N:Nat):et 4 Tryz.f244 G N (·.ag.ag) (bg Tryz.f244) []:=⟨_,rM ao⟩
def xK(G:aw)(N:Nat)(L1:dj):gk 3 4 9 10 11 Tryz.f244 G N (·.ag.ax.ag.ax.ax) (cn L1 3 4 9 10 11) [(0,(a8 (CP G N) 4))]:=⟨_,ny ao⟩
def tx(G:aw)(N:Nat):Nat->dj
 |0=>jc
 |n+1=>xK G N (tx G N n)
def CO(G:aw)(N:Nat):oq Tryz.f244 G N:=⟨_,t3 (ak (ak ((CP G N).2) (ak (bD (b3 (λm=>(xK G N (tx G N m)).2))) ao)) ao)⟩
def Yn(N:Nat):=g0 Tryz.func244 λG=>(CO G N).2
def mi(G:aw):W0 Tryz.f245 G (·.ag.ag.ag) (bg Tryz.f245) []:=⟨_,λN=>v0 ao⟩
def xL(G:aw):iA 1 3 59 Tryz.f245 G (·.ag.ag.ax.ag.ax.ag.ag.ag.ag.ag.ag.ag) (bh (mi G)) [(0,(bh (mi G)))]:=⟨_,λN=>v3 ao⟩
def qR(G:aw):nk 1 3 7 40 Tryz.f245 G (·.ag.ag.ax.ag.ax.ag.ag.ag.ag.ag) (bh (mi G)) [(0,(bh (mi G)))]:=⟨_,λN=>mJ (dp ao (ak ((xL G).2 N) ao)) (x:=trivial)⟩
def n0(G:aw):nk 1 3 7 23 Tryz.f245 G (·.ag.ag.ax.ag.ax.ag.ag.ag) (bh (mi G)) [(0,(bh (mi G)))]:=⟨_,λN=>v4 (dp ao (ak ((qR G).2 N) ao))⟩
def ke(G:aw):nk 1 3 7 8 Tryz.f245 G (·.ag.ag.ax.ag.ax.ag) (bh (mi G)) [(0,(bh (mi G)))]:=⟨_,λN=>v4 (dp ao (ak ((n0 G).2 N) ao))⟩
def CQ(G:aw):gM Tryz.f245 G:=⟨_,λN=>t1 (ak (ak (ak ((mi G).2 N) (ak (bD (ak ((ke G).2 N) ao)) ao)) ao) ao)⟩
def Yo(N:Nat):=dZ Tryz.func245 λG=>(CQ G).2 N
def CR(G:aw):rq Tryz.f246 G:=⟨_,λN=>P9 ao (x:=trivial)⟩
def Yp(N:Nat):=qx Tryz.func246 λG=>(CR G).2 N
def CS(G:aw):iB Tryz.f247 G:=⟨_,λN=>t3 ao⟩
def Yq(N:Nat):=g0 Tryz.func247 λG=>(CS G).2 N
def qS(G:aw):iB Tryz.f248 G:=⟨_,λN=>vd ao (x:=trivial)⟩
def Yr(N:Nat):=g0 Tryz.func248 λG=>(qS G).2 N
def lI(G:aw):pK 1 3 Tryz.f249 G (·.ag.ag.ag) (bg Tryz.f249) []:=⟨_,λN=>v2 ao⟩
def m0(G:aw):nk 1 3 7 12 Tryz.f249 G (·.ag.ag.ax.ag.ax.ag.ag.ag) (bo (lI G) 1 3) [(0,(bo (lI G) 1 3))]:=⟨_,λN=>v4 ao⟩
def CT(G:aw):gM Tryz.f249 G:=⟨_,λN=>t1 (ak (ak (ak ((lI G).2 N) (ak (bD (ak (dp ao (ak ((m0 G).2 N) ao)) ao)) ao)) ao) ao)⟩
def Ys(N:Nat):=dZ Tryz.func249 λG=>(CT G).2 N
def qV(G:aw)(N:Nat):gj 1 3 4 Tryz.f258 G N (·.ag.ag.ag.ag.ag.ag) (bg Tryz.f258) []:=⟨_,v3 ao⟩
def xS(G:aw)(N:Nat)(L1:dr):iz 1 3 4 43 44 45 Tryz.f258 G N (·.ag.ag.ag.ag.ag.ax.ag.ax.ax) (cy L1 1 3 4 43 44 45) [(0,(bJ (qV G N) 1 3 4))]:=⟨_,p7 ao⟩
def tI(G:aw)(N:Nat):Nat->dr
 |0=>lO
 |n+1=>xS G N (tI G N n)
def CZ(G:aw)(N:Nat):fU Tryz.f258 G N:=⟨_,t1 (ak (ak (ak (ak (ak (ak ((qV G N).2) (ak (bD (b3 (λm=>(xS G N (tI G N m)).2))) ao)) ao) ao) ao) ao) ao)⟩
def Yy(N:Nat):=dZ Tryz.func258 λG=>(CZ G N).2
def xT(G:aw):ev Tryz.f259 G:=⟨_,λN=>t2 ao⟩
def Yz(N:Nat):=dc Tryz.func259 λG=>(xT G).2 N
def tJ(G:aw):iB Tryz.f260 G:=⟨_,λN=>vd ao (x:=trivial)⟩
def YB(N:Nat):=g0 Tryz.func260 λG=>(tJ G).2 N
def BM(G:aw):gM Tryz.f125 G:=⟨_,λN=>t1 ao⟩
def Xt(N:Nat):=dZ Tryz.func125 λG=>(BM G).2 N
end
end
section
open Go.a2
set_option maxRecDepth 2000
section
variable {H:ad}{ok:Nat->Prop}
def Bd:W (aQ P aK 167 [] H) λr H'=>r=cU bl/\av H H':=by
 refine XG 0 ?_;simp-implicitDefEqProofs(disch:=try exact ai)only[B4,Nat.reduceAdd,R];exact aG.2 ⟨rfl,(av.refl _).dQ _⟩
def An(t:cv):W (aQ P aK 125 [cU t] H) λr H'=>r= A (jM t)/\av H H':=by
 refine Xt 0 ?_;simp-implicitDefEqProofs(disch:=try exact ai)only[BM,jf,bZ,R];cases a:(t.b==3)with
 |true=>
  simp-implicitDefEqProofs(disch:=try exact ai)only[R];exact aG.2 ⟨by simp[jM,a],(av.refl _).dQ _⟩
 |false=>
  simp-implicitDefEqProofs(disch:=try exact ai)only[R];exact aG.2 ⟨by simp[jM,a],(av.refl _).dQ _⟩
def vt{x:bj}{v:ae}(aA:cM H ok x v)(t:cv):W (aQ P aK 124 [v,cU t] H) λr H'=>r= A (dE x.bV.length t)/\av H H':=by
 obtain⟨_,rfl,a,b,c,d,rfl,af,ah,an,aM⟩:=aA;refine Xs 0 ?_;have f:av H ((H.push (.row Z 5 [[a,b,c,d,J X x.main]])).push (.row Z 3 [[J X t.b,J X t.r,J X t.d]])):=((av.refl _).dQ _).dQ _;unfold dE;by_cases e:t.d<0
 ·simp-implicitDefEqProofs(disch:=try exact ai)only[mZ,jf,bZ,dV af ah an aM,R,e,decide_true];exact aG.2 ⟨by simp[show¬0<=t.d by omega],f⟩
 ·by_cases g:3<t.d
  ·simp-implicitDefEqProofs(disch:=try exact ai)only[mZ,jf,bZ,dV af ah an aM,R,e,g,decide_true,decide_false];exact aG.2 ⟨by simp[show¬t.d<=3 by omega],f⟩
  ·have k:decide (0<=t.d/\t.d<=3)=true:=by simp;omega
   rw[k];cases h:(t.b==1)with
   |true=>
    simp-implicitDefEqProofs(disch:=try exact ai)only[nY,qC,mZ,jf,bZ,dV af ah an aM,R,e,g,h,decide_false];exact aG.2 ⟨by simp,f⟩
   |false=>
    cases i:(t.b==2)with
    |true=>
     simp-implicitDefEqProofs(disch:=try exact ai)only[nY,qC,mZ,jf,bZ,dV af ah an aM,R,e,g,h,i,decide_false];exact aG.2 ⟨by simp,f⟩
    |false=>
     cases j:(t.b==3)with
     |true=>
      by_cases au:0<=t.r
      ·simp-implicitDefEqProofs(disch:=try exact ai)only[nY,qC,mZ,jf,bZ,dV af ah an aM,R,e,g,h,i,j,au,af.len eG,decide_true,decide_false];exact aG.2 ⟨by simp[],f⟩
      ·simp-implicitDefEqProofs(disch:=try exact ai)only[nY,qC,mZ,jf,bZ,dV af ah an aM,R,e,g,h,i,j,au,decide_false];exact aG.2 ⟨by simp[],f⟩
     |false=>
      simp-implicitDefEqProofs(disch:=try exact ai)only[nY,qC,mZ,jf,bZ,dV af ah an aM,R,e,g,h,i,j,decide_false];exact aG.2 ⟨by simp,f⟩
end
end
section
open Go.a2
set_option maxRecDepth 2000
section
variable {H:ad}{ok:Nat->Prop}
def HS{x:bj}{l:List cv}{v:ae}{a b cc d:ae}{zX:Nat}(p:l.length<=1000000000){N:Nat}:∀(j k m:Nat) (H:ad),k+j=l.length->j<m->aO eV H ok l v->H.get zX=D (.row Z 5 [[a,b,cc,d,J X x.main]])->cM H ok x (.agg [a,b,cc,d,J X x.main])->
  W (ug (aQ P aK) N m (.ptr zX 0 0) v (J X l.length) (J X k) H) λr H'=>r= A ((l.drop k).all (dE x.bV.length))/\av H H'
 |_,_,0,_,_,hm,_,_,_=>aa
 |0,k,m+1,H,s,_,al,aS,aA=>by
  have c:¬(k:Int)<(l.length:Int):=aa;simp-implicitDefEqProofs(disch:=try exact ai)only[Dt,yu,ug,R,c,decide_false];refine aG.2 ⟨?_,av.refl _⟩;rw[List.drop_of_length_le aa];rfl
 |j+1,k,m+1,H,s,hm,al,aS,aA=>by
  have c:(k:Int)<(l.length:Int):=aa;have f:k<l.length:=aa;obtain⟨L,n,ro,els,y,u,_,g,e,rfl⟩:=al.at_ (K:=eV) cX (j:=(k:Int)) (a:=l[k]) aa (by simp[f]);have z:=ad.bE g;have B:=ad.bE aS;have o:H.get L=D (.row ro 3 els):=g;have G:zX≠H.next:=aa
  rw[bZ]at e;have on:=HS (x:=x) (l:=l) (v:=v) (a:=a) (b:=b) (cc:=cc) (d:=d) (zX:=zX) p (N:=N) j (k+1) m;rw[List.drop_eq_getElem_cons f,List.all_cons];have i:=av.push H (.row Z 3 [bZ l[k]]);simp-implicitDefEqProofs(disch:=try exact ai)only[ug,yu,Nat.reduceAdd,R,c,decide_true,u,o,e,aS];refine aZ (vt (aA.aE i) l[k]) ?_;rintro _ H1 ⟨rfl,h⟩;refine⟨h.1,?_⟩;have q:=i.trans h;cases E:dE x.bV.length l[k]with
  |false=>
   simp-implicitDefEqProofs(disch:=try exact ai)only[aj,Bool.not_false];exact aG.2 ⟨by simp,q⟩
  |true=>
   simp-implicitDefEqProofs(disch:=try exact ai)only[aj,aC,Bool.not_true,cq (show k<=1000000000 by omega)];refine(on H1 aa aa (al.aE q) (q.get aS) (aA.aE q)).mono ?_;rintro r w ⟨rfl,t⟩;exact⟨by simp,q.trans t⟩
def HT{x:bj}{l:List cv}{v w:ae}(aA:cM H ok x v)(al:aO eV H ok l w)(e:l.length<=1000000000):W (aQ P aK 74 [v,w] H) λr H'=>r= A (l.all (dE x.bV.length))/\av H H':=by
 obtain⟨_,rfl,a,b,cc,d,rfl,af,ah,an,aM⟩:=aA;refine Y8 (l.length+1) ?_;have c:=av.push H (.row Z 5 [[a,b,cc,d,J X x.main]]);simp-implicitDefEqProofs(disch:=try exact ai)only[Ds,aj,br,dV af ah an aM,al.len cX];refine(HS (x:=x) e l.length 0 (l.length+1) _ aa aa (al.aE c) (ad.a_ _ _) ⟨_,rfl,a,b,cc,d,rfl,af.aE c,ah.aE c,an.aE c,aM.aE c⟩).mono ?_;rintro r g ⟨rfl,f⟩;exact⟨by simp,c.trans f⟩
def HO{x:bj}{a b cc d:ae}{zX:Nat}(M:x.sites.length<=1000000000){N:Nat}:∀(j k m:Nat) (H:ad),k+j=x.sites.length->j<m->H.get zX=D (.row Z 5 [[a,b,cc,d,J X x.main]])->cM H ok x (.agg [a,b,cc,d,J X x.main])->
  W (uh (aQ P aK) N m (.ptr zX 0 0) d (J X x.sites.length) (J X k) H) λr H'=>r= A ((x.sites.drop k).all (h1 x))/\av H H'
 |_,_,0,_,_,hm,_,_=>aa
 |0,k,m+1,H,O,_,aS,aA=>by
  have l:¬(k:Int)<(x.sites.length:Int):=aa;simp-implicitDefEqProofs(disch:=try exact ai)only[Dv,yv,uh,R,l,decide_false];refine aG.2 ⟨?_,av.refl _⟩;rw[List.drop_of_length_le aa];rfl
 |j+1,k,m+1,H,O,hm,aS,aA=>by
  have v:=aA;obtain⟨_,B,b8,b',U,Y,E,af,ah,an,aM⟩:=aA;cases B;cases E;have l:(k:Int)<(x.sites.length:Int):=aa;have t:k<x.sites.length:=aa;obtain⟨L,n,ro,els,V,S,_,g,e,rfl⟩:=aM.at_ (K:=lU) fO (j:=(k:Int)) (a:=x.sites[k]) aa (by simp[t]);have ab:=ad.bE g;have ag:=ad.bE aS;have G:H.get L=D (.row ro 4 els):=g;have aj:zX≠H.next:=aa
  rw[bZ]at e;have on:=HO (x:=x) (a:=a) (b:=b) (cc:=cc) (d:=d) (zX:=zX) M (N:=N) j (k+1) m;rw[List.drop_eq_getElem_cons t,List.all_cons];generalize x.sites[k]=z at*;have w:=av.push H (.row Z 4 [[J X z.f,J X z.ty.b,J X z.ty.r,J X z.ty.d]]);have aV:=cq (show k<=1000000000 by omega);simp-implicitDefEqProofs(disch:=try exact ai)only[uh,yv,Nat.reduceAdd,R,l,decide_true,S,G,e,aS];refine aZ (vt (v.aE w) z.ty) ?_;rintro _ H1 ⟨rfl,o⟩;refine⟨o.1,?_⟩;have q:=w.trans o;have s:H1.get H.next=D (.row Z 4 [[J X z.f,J X z.ty.b,J X z.ty.r,J X z.ty.d]]):=o.get (ad.a_ _ _)
  cases u:dE x.bV.length z.ty with
  |false=>
   simp-implicitDefEqProofs(disch:=try exact ai)only[R,Bool.not_false];exact aG.2 ⟨by simp[h1,u],q⟩
  |true=>
   simp-implicitDefEqProofs(disch:=try exact ai)only[Nat.reduceAdd,R,Bool.not_true,s];refine cx (An z.ty) ?_;rintro _ y ⟨rfl,p⟩;refine⟨p.1,?_⟩;have c:=q.trans p;have i:=p.get s;have h:=c.get aS;cases au:jM z.ty with
   |false=>
    simp-implicitDefEqProofs(disch:=try exact ai)only[R,Bool.not_false];exact aG.2 ⟨by simp[h1,au],c⟩
   |true=>
    by_cases bh:z.f<0
    ·simp-implicitDefEqProofs(disch:=try exact ai)only[R,Bool.not_true,i,bh,decide_true];exact aG.2 ⟨by simp[h1,show¬0<=z.f by omega],c⟩
    by_cases a8:(x.ay.length:Int)<=z.f
    ·simp-implicitDefEqProofs(disch:=try exact ai)only[Nat.reduceAdd,R,Bool.not_true,i,h,an.len cI,bh,a8,decide_true,decide_false];exact aG.2 ⟨by simp[h1,show¬z.f<(x.ay.length:Int) by omega],c⟩
    have az:decide (0<=z.f/\z.f<(x.ay.length:Int))=true:=by simp;omega
    simp-implicitDefEqProofs(disch:=try exact ai)only[Nat.reduceAdd,R,Bool.not_true,i,h,an.len cI,bh,a8,decide_false,aV];refine(on y aa aa h (v.aE c)).mono ?_;rintro r T ⟨rfl,Q⟩;exact⟨by rw[h1,az,u,au];simp,c.trans Q⟩
def TB{x:bj}{v:ae}(aA:cM H ok x v)(e:x.sites.length<=1000000000):W (aQ P aK 75 [v] H) λr H'=>r= A (x.sites.all (h1 x))/\av H H':=by
 obtain⟨_,rfl,a,b,cc,d,rfl,af,ah,an,aM⟩:=aA;refine Y9 (x.sites.length+1) ?_;have c:=av.push H (.row Z 5 [[a,b,cc,d,J X x.main]]);simp-implicitDefEqProofs(disch:=try exact ai)only[Du,aj,aL,Nat.zero_add,br,dV af ah an aM,mP (ad.a_ H (.row Z 5 [[a,b,cc,d,J X x.main]])),aM.len fO];refine(HO (x:=x) e x.sites.length 0 (x.sites.length+1) _ aa aa (ad.a_ _ _) ⟨_,rfl,a,b,cc,d,rfl,af.aE c,ah.aE c,an.aE c,aM.aE c⟩).mono ?_;rintro r g ⟨rfl,f⟩;exact⟨by simp,c.trans f⟩
end
end
section
open Go.a2
set_option maxRecDepth 2000
section
variable {H:ad}{ok:Nat->Prop}
def Hw{x:bj}{l:List cv}{v rv:ae}{a b cc d:ae}{zX r n:Nat}(au:r<=1000000)(z:l.length<=1000000){L1:ae->ae->ae->ae->ad->O}{Q:ae->ad->Prop}{N:Nat}:
  ∀(j k m:Nat) (H:ad),k+j=l.length->j<m->H.get zX=D (.row Z 5 [[a,b,cc,d,J X x.main]])->cM H ok x (.agg [a,b,cc,d,J X x.main])->aO kU H ok l v->
  ((l.drop k).all (dE x.bV.length)=Z->∀H',av H H'->Q (A Z) H')->((l.drop k).all (dE x.bV.length)=C->∀H',av H H'->W (L1 (.ptr zX 0 0) rv (J X n) (J X ((r+1:Nat):Int)) H') Q)->
  W (uf (aQ P aK) N L1 m (.ptr zX 0 0) rv (J X n) (J X r) v (J X l.length) (J X k) H) Q
 |_,_,0,_,_,E,_,_,_,_,_=>aa
 |0,k,m+1,H,B,_,aS,aA,i,c,dh=>by
  have h:¬(k:Int)<(l.length:Int):=aa;have:=dh (by rw[List.drop_of_length_le aa];rfl) H (av.refl _);simp-implicitDefEqProofs(disch:=try exact ai)only[uf,ys,yt,aj,aC,h,decide_false,cq (show r<=1000000000 by omega)];exact this
 |j+1,k,m+1,H,B,E,aS,aA,i,c,dh=>by
  have h:(k:Int)<(l.length:Int):=aa;have o:k<l.length:=aa;obtain⟨L,q,ro,els,M,G,_,g,e,s,rfl⟩:=i.at_ (K:=kU) iS (j:=(k:Int)) (a:=l[k]) aa (by simp[o]);have S:=ad.bE g;have T:=ad.bE aS;have y:H.get L=D (.row ro 4 els):=g;have U:zX≠H.next:=aa
  rw[bZ]at e;have on:=Hw (x:=x) (l:=l) (v:=v) (rv:=rv) (a:=a) (b:=b) (cc:=cc) (d:=d) (zX:=zX) (r:=r) (n:=n) au z (L1:=L1) (Q:=Q) (N:=N) j (k+1) m;rw[List.drop_eq_getElem_cons o,List.all_cons]at c dh;have w:=av.push H (.row Z 4 [F s::bZ l[k]]);simp-implicitDefEqProofs(disch:=try exact ai)only[uf,ys,Nat.reduceAdd,R,h,decide_true,G,y,e,aS];refine aZ (vt (aA.aE w) l[k]) ?_;rintro _ H1 ⟨rfl,u⟩;refine⟨u.1,?_⟩;have q:=w.trans u;cases t:dE x.bV.length l[k]with
  |false=>
   simp-implicitDefEqProofs(disch:=try exact ai)only[aj,Bool.not_false];exact aG.2 (c (by rw[t];rfl) H1 q)
  |true=>
   rw[t,Bool.true_and]at c dh;simp-implicitDefEqProofs(disch:=try exact ai)only[aj,aC,Bool.not_true,cq (show k<=1000000000 by omega)];exact on H1 aa aa (q.get aS) (aA.aE q) (i.aE q) (λf H' p=>c f H' (q.trans p)) λf H' p=>dh f H' (q.trans p)
def HD{x:bj}{a b cc d:ae}{zX:Nat}(M:x.bV.length<=1000000){N:Nat}(B:8<N):
  ∀(j k m:Nat) (H:ad),k+j=x.bV.length->j<m->H.get zX=D (.row Z 5 [[a,b,cc,d,J X x.main]])->cM H ok x (.agg [a,b,cc,d,J X x.main])->
  W (q2 (aQ P aK) N m (.ptr zX 0 0) a (J X x.bV.length) (J X k) H) λr H'=>r= A ((x.bV.drop k).all (lF x))/\av H H'
 |_,_,0,_,_,G,_,_=>aa
 |0,k,m+1,H,E,_,aS,aA=>by
  have h:¬(k:Int)<(x.bV.length:Int):=aa;simp-implicitDefEqProofs(disch:=try exact ai)only[q2,ud,ue,aj,aC,h,decide_false];refine aG.2 ⟨?_,av.refl _⟩;rw[List.drop_of_length_le aa];rfl
 |j+1,k,m+1,H,E,G,aS,aA=>by
  have u:=aA;obtain⟨_,w,b8,b',S,U,y,af,ah,an,aM⟩:=aA;cases w;cases y;have h:(k:Int)<(x.bV.length:Int):=aa;have t:k<x.bV.length:=aa;obtain⟨L,n,ro,els,T,v,_,g,e,s,fv,rfl,az⟩:=af.at_ (K:=lT) eG (j:=(k:Int)) (a:=x.bV[k]) aa (by simp[t]);have V:=ad.bE g;have Y:=ad.bE aS;have i:H.get L=D (.row ro 2 els):=g;have o:=az.one;have on:=HD (x:=x) (a:=a) (b:=b) (cc:=cc) (d:=d) (zX:=zX) M B j (k+1) m;rw[List.drop_eq_getElem_cons t,List.all_cons,lF];have c:=av.push H (.row Z 2 [[F s,fv]]);by_cases e3:(8:Int)<(x.bV[k].length:Int)
  ·simp-implicitDefEqProofs(disch:=try exact ai)only[q2,ud,Nat.reduceAdd,R,h,decide_true,v,i,e,o,az.len iS,e3];exact aG.2 ⟨by simp[show¬x.bV[k].length<=8 by omega],c⟩
  ·have z:decide (x.bV[k].length<=8)=true:=by simp;omega
   simp-implicitDefEqProofs(disch:=try exact ai)only[q2,ud,Nat.reduceAdd,R,h,decide_true,decide_false,v,i,e,o,az.len iS,e3];rw[z,Bool.true_and];refine Hw (x:=x) (l:=x.bV[k]) aa aa x.bV[k].length 0 N _ aa aa (c.get aS) (u.aE c) (az.aE c) (λf H' p=> ?_) λf H' p=> ?_
   ·rw[List.drop_zero]at f;exact⟨by rw[f];simp,c.trans p⟩
   ·rw[List.drop_zero]at f;have q:=c.trans p;refine(on H' aa aa (q.get aS) (u.aE q)).mono ?_;rintro r Q ⟨rfl,O⟩;exact⟨by rw[f];simp,q.trans O⟩
def ZQ{x:bj}{v:ae}(aA:cM H ok x v)(e:x.bV.length<=1000000):W (aQ P aK 73 [v] H) λr H'=>r= A (x.bV.all (lF x))/\av H H':=by
 obtain⟨_,rfl,a,b,cc,d,rfl,af,ah,an,aM⟩:=aA;refine Y7 (x.bV.length+9) ?_;have c:=av.push H (.row Z 5 [[a,b,cc,d,J X x.main]]);simp-implicitDefEqProofs(disch:=try exact ai)only[Dr,aj,aL,Nat.zero_add,br,dV af ah an aM,mP (ad.a_ H (.row Z 5 [[a,b,cc,d,J X x.main]])),af.len eG];refine(HD (ok:=ok) (x:=x) e (N:=x.bV.length+9) aa x.bV.length 0 (x.bV.length+9) _ aa aa (ad.a_ _ _) ⟨_,rfl,a,b,cc,d,rfl,af.aE c,ah.aE c,an.aE c,aM.aE c⟩).mono ?_;rintro r g ⟨rfl,f⟩;exact⟨by simp,c.trans f⟩
end
end
section
open Go.a2
set_option maxRecDepth 2000
def b5(i:In)(wi:ae):List ae:=[J X i.op,J X i.a,J X i.b,J X i.c,J X i.n,wi]
def cf(x:bj)(f:Nat)(c:bH)(i:In)(a b cc d v w wi:ae):List ae:=[a,b,cc,d,J X x.main,J X f,J X c.params,v,A c.has,J X c.res.b,J X c.res.r,J X c.res.d,w,J X i.op,J X i.a,J X i.b,J X i.c,J X i.n,wi]
structure g7(H:ad)(ok:Nat->Prop)(x:bj)(c:bH)(i:In)(a b cc d v w wi:ae):Prop where
 af:aO lT H ok x.bV a
 ah:aO eV H ok x.globals b
 an:aO fC H ok x.ay cc
 aM:aO lU H ok x.sites d
 bR:aO eV H ok c.vars v
 b0:aO fD H ok c.ins w
 i1:aO aT H ok i.args wi
def g7.aE{H H':ad}{ok:Nat->Prop}{x:bj}{c:bH}{i:In}{a b cc d v w wi:ae}(s:g7 H ok x c i a b cc d v w wi)(p:av H H'):g7 H' ok x c i a b cc d v w wi:=
 ⟨s.af.aE p,s.ah.aE p,s.an.aE p,s.aM.aE p,s.bR.aE p,s.b0.aE p,s.i1.aE p⟩
section
variable {H:ad}{ok:Nat->Prop}{x:bj}{f:Nat}{c:bH}{i:In}{a b cc d v w wi:ae}
def hE(s:g7 H ok x c i a b cc d v w wi)(f l:Nat):fe l (.agg (cf x f c i a b cc d v w wi))=D (.ptr l 0 0,.row Z 19 [cf x f c i a b cc d v w wi]):=
 oA l _ (by have e:=s.af.one;have g:=s.ah.one;have h:=s.an.one;have j:=s.aM.one;have k:=s.bR.one;have m:=s.b0.one;have n:=s.i1.one;simp[cf,e,g,h,j,k,m,n];simp[ae.one])
section
variable {zX:Nat}(g:H.get zX=D (.row Z 19 [cf x f c i a b cc d v w wi]))
include g
theorem cC:aI P H 280 (.ptr zX 0 0)=D (.agg (cf x f c i a b cc d v w wi)):=
 gY (n:=19) (i:=0) (c:=0) aF aF g rfl (by simp[])
theorem vN:aI P H 89 (.ptr zX 0 13)=D (.agg (b5 i wi)):=
 gY (n:=6) (i:=0) (c:=13) aF aF g rfl (by simp[])
theorem Un:aI P H 46 (.ptr zX 0 9)=D (cU c.res):=
 gY (n:=3) (i:=0) (c:=9) aF aF g rfl (by simp[])
theorem fY:aI P H 3 (.ptr zX 0 5)=D (J X f)/\aI P H 22 (.ptr zX 0 0)=D a/\aI P H 23 (.ptr zX 0 1)=D b/\aI P H 24 (.ptr zX 0 2)=D cc/\aI P H 25 (.ptr zX 0 3)=D d
  /\aI P H 23 (.ptr zX 0 7)=D v/\aI P H 4 (.ptr zX 0 8)=D (A c.has)/\aI P H 47 (.ptr zX 0 12)=D w:=by
 rw[cf]at g;simp-implicitDefEqProofs(disch:=try exact ai)only[R,g]
end
def mo(s:g7 H ok x c i a b cc d v w wi)(n:Int)(E:c.vars.length<=1000000000):W (aQ P aK 243 [.agg (cf x f c i a b cc d v w wi),J X n] H) λr H'=>r=cU (aY c n)/\av H H':=by
 refine Ym 0 ?_;have h:=hE s f;have q:av (H.push (.row Z 19 [cf x f c i a b cc d v w wi])) ((H.push (.row Z 19 [cf x f c i a b cc d v w wi])).push (.row Z 3 [[J X 0,J X 0,J X 0]])):=av.push _ _;have k:=(av.push H (.row Z 19 [cf x f c i a b cc d v w wi])).trans q;have g:((H.push (.row Z 19 [cf x f c i a b cc d v w wi])).push (.row Z 3 [[J X 0,J X 0,J X 0]])).get (H.next+1)=D (.row Z 3 [bZ bl]):=ad.a_ _ _;have aS:=q.get (ad.a_ H (.row Z 19 [cf x f c i a b cc d v w wi]));have bad:aY c n=bl->W (dW ((H.push (.row Z 19 [cf x f c i a b cc d v w wi])).push (.row Z 3 [[J X 0,J X 0,J X 0]])) (aQ P aK 167 [] ((H.push (.row Z 19 [cf x f c i a b cc d v w wi])).push (.row Z 3 [[J X 0,J X 0,J X 0]]))) λx15 m=>fw m (cD P m 46 (.ptr (H.next+1) 0 0) x15) λl=>aU (aI P l 46 (.ptr (H.next+1) 0 0)) λr=>D (r,l)) λr H'=>r=cU (aY c n)/\av H H':=by
  intro aH;refine aZ Bd ?_;rintro _ K ⟨rfl,p⟩;refine⟨p.1,?_⟩;have gr:=p.get g;have t:=ad.bE gr;simp-implicitDefEqProofs(disch:=try exact ai)only[aj,yN gr,bG (ad.c8 t)];exact aG.2 ⟨by rw[aH],(k.trans p).m7 aa _⟩
 by_cases e:n<0
 ·simp-implicitDefEqProofs(disch:=try exact ai)only[tw,Nat.reduceAdd,aj,aJ,aC,ad.dm,h,ad.dm,e,decide_true];exact bad (by rw[aY,fc.2 (.inl e)];rfl)
 ·by_cases al:(c.vars.length:Int)<=n
  ·simp-implicitDefEqProofs(disch:=try exact ai)only[tw,Nat.reduceAdd,aj,aJ,aC,aL,ad.dm,h,fY aS,e,al,s.bR.len cX,decide_true,decide_false];exact bad (by rw[aY,fc.2 (.inr al)];rfl)
  ·have o:n.toNat<c.vars.length:=aa;obtain⟨p,cs,y,z,rfl⟩:=(s.bR.aE k).agg (K:=eV) cX q_ (j:=n) (a:=c.vars[n.toNat]) aa (by simp[o]);have B:aI P ((H.push (.row Z 19 [cf x f c i a b cc d v w wi])).push (.row Z 3 [[J X 0,J X 0,J X 0]])) 46 p=D (cU c.vars[n.toNat]):=z;have u:=ad.bE g;simp-implicitDefEqProofs(disch:=try exact ai)only[tw,Nat.reduceAdd,aj,aJ,aC,aL,ad.dm,h,fY aS,e,al,s.bR.len cX,y,B,yN g,bG (ad.c8 u),decide_false];refine aG.2 ⟨?_,k.m7 aa _⟩;rw[aY,iF aa,List.getElem?_eq_getElem o];rfl
def eR(c:bH)(t:cv)(l:List Int):Bool:=l.all (λn=>decide (aY c n=t))&&decide (t≠bl)
def HN(c:bH)(t:cv)(a:Int)(l:List Int):eR c t (a::l)=(decide (aY c a=t)&&eR c t l):=by rw[eR,eR,List.all_cons,Bool.and_assoc]
def MJ{t:cv}{l:List Int}{lv:ae}{ok':Nat->Prop}{zX T:Nat}(n:c.vars.length<=1000000000)(u:l.length<=1000000000){N:Nat}:∀(j k m:Nat) (H:ad),k+j=l.length->j<m->H.get zX=D (.row Z 19 [cf x f c i a b cc d v w wi])->H.get T=D (.row Z 3 [bZ t])->g7 H ok x c i a b cc d v w wi->aO aT H ok' l lv->
  W (tx (aQ P aK) N m (.ptr zX 0 0) (.ptr T 0 0) lv (J X l.length) (J X k) H) λr H'=>r= A (eR c t (l.drop k))/\av H H'
 |_,_,0,_,_,hm,_,_,_,_=>aa
 |0,k,m+1,H,q,_,aS,e,s,al=>by
  have h:¬(k:Int)<(l.length:Int):=aa;simp-implicitDefEqProofs(disch:=try exact ai)only[tx,xK,CP,aj,aC,h,decide_false];refine aZ Bd ?_;rintro _ K ⟨rfl,p⟩;refine⟨p.1,?_⟩;simp-implicitDefEqProofs(disch:=try exact ai)only[aj,aJ,bG (p.get e),bG e,hK,cF];refine aG.2 ⟨?_,p⟩;rw[List.drop_of_length_le aa,eR];simp
 |j+1,k,m+1,H,q,hm,aS,e,s,al=>by
  have h:(k:Int)<(l.length:Int):=aa;have o:k<l.length:=aa;obtain⟨p,z,B⟩:=al.int (j:=(k:Int)) (a:=l[k]) aa (by simp[o]);have on:=MJ (t:=t) (l:=l) (lv:=lv) (ok':=ok') (zX:=zX) (T:=T) n u (N:=N) j (k+1) m;rw[List.drop_eq_getElem_cons o];simp-implicitDefEqProofs(disch:=try exact ai)only[tx,xK,aj,aC,h,decide_true,z,B,cC aS];refine aZ (mo s l[k] n) ?_;rintro _ K ⟨rfl,p⟩;refine⟨p.1,?_⟩;by_cases he:aY c l[k]=t
  ·have g:decide (aY c l[k]≠t)=false:=by simp[he]
   simp-implicitDefEqProofs(disch:=try exact ai)only[aj,aJ,aC,bG (p.get e),bG e,hK,cF,g,cq (show k<=1000000000 by omega)];refine(on K aa aa (p.get aS) (p.get e) (s.aE p) (al.aE p)).mono ?_;rintro r E ⟨rfl,y⟩;exact⟨by rw[HN,decide_eq_true he,Bool.true_and],p.trans y⟩
  ·have g:decide (aY c l[k]≠t)=true:=by simp[he]
   simp-implicitDefEqProofs(disch:=try exact ai)only[aj,aJ,bG (p.get e),bG e,hK,cF,g];exact aG.2 ⟨by rw[HN,decide_eq_false he,Bool.false_and],p⟩
def kR(s:g7 H ok x c i a b cc d v w wi){t:cv}{l:List Int}{lv:ae}{ok':Nat->Prop}(al:aO aT H ok' l lv)(h:c.vars.length<=1000000000)(m:l.length<=1000000000):W (aQ P aK 244 [.agg (cf x f c i a b cc d v w wi),cU t,lv] H) λr H'=>r= A (eR c t l)/\av H H':=by
 refine Yn (l.length+1) ?_;have k:=hE s f;have j:=jf t;have g:av (H.push (.row Z 19 [cf x f c i a b cc d v w wi])) ((H.push (.row Z 19 [cf x f c i a b cc d v w wi])).push (.row Z 3 [bZ t])):=av.push _ _;have e:=(av.push H (.row Z 19 [cf x f c i a b cc d v w wi])).trans g;simp-implicitDefEqProofs(disch:=try exact ai)only[CO,br,aj,ad.dm,k,j,br,al.len b6];refine(MJ (ok:=ok) (ok':=ok') (t:=t) (l:=l) h m l.length 0 (l.length+1) _ aa aa (g.get (ad.a_ _ _)) (ad.a_ _ _) (s.aE e) (al.aE e)).mono ?_;rintro r o ⟨rfl,n⟩;exact⟨by simp,e.trans n⟩
def ju(s:g7 H ok x c i a b cc d v w wi){l:List Int}{lv:ae}{ok':Nat->Prop}(al:aO aT H ok' l lv)(g:c.vars.length<=1000000000)(h:l.length<=1000000000):W (aQ P aK 241 [.agg (cf x f c i a b cc d v w wi),lv] H) λr H'=>r= A (eR c cL l)/\av H H':=by
 refine Yk 0 ?_;have e:=av.push H (.row Z 19 [cf x f c i a b cc d v w wi]);simp-implicitDefEqProofs(disch:=try exact ai)only[CM,aj,u0,hE s f,cC (ad.a_ H (.row Z 19 [cf x f c i a b cc d v w wi]))];refine aZ (kR (s.aE e) (t:=cL) (al.aE e) g h) ?_;rintro _ K ⟨rfl,p⟩;exact⟨p.1,aG.2 ⟨rfl,e.trans p⟩⟩
def m_(s:g7 H ok x c i a b cc d v w wi){l:List Int}{lv:ae}{ok':Nat->Prop}(al:aO aT H ok' l lv)(g:c.vars.length<=1000000000)(h:l.length<=1000000000):W (aQ P aK 242 [.agg (cf x f c i a b cc d v w wi),lv] H) λr H'=>r= A (eR c dL l)/\av H H':=by
 refine Yl 0 ?_;have e:=av.push H (.row Z 19 [cf x f c i a b cc d v w wi]);simp-implicitDefEqProofs(disch:=try exact ai)only[CN,aj,u0,hE s f,cC (ad.a_ H (.row Z 19 [cf x f c i a b cc d v w wi]))];refine aZ (kR (s.aE e) (t:=dL) (al.aE e) g h) ?_;rintro _ K ⟨rfl,p⟩;exact⟨p.1,aG.2 ⟨rfl,e.trans p⟩⟩
end
end
section
open Go.a2
set_option maxRecDepth 2000
section
variable {H:ad}{ok:Nat->Prop}{x:bj}{f:Nat}{c:bH}{i:In}{a b cc d v w wi:ae}
def jv(v:ae)(b:bn)(k:bz.K->O):im (D (v,b)) k=k (.new v b):=rfl
def gB(H:ad)(ok:Nat->Prop)(h:ok H.next)(n:Int):aO aT (H.push (.row Z 1 [[J X n]])) ok [n] (.aD H.next 0 1 1 (D 1)):=
 .inr (.inl ⟨H.next,0,D 1,Z,_,rfl,h,ad.a_ _ _,by simp,λj a b=>by
  rcases j with _|j
  ·cases b;exact⟨_,rfl,rfl⟩
  ·simp at b⟩)
def yI(H:ad)(ok:Nat->Prop)(h:ok H.next)(n m:Int):aO aT (H.push (.row Z 1 [[J X n],[J X m]])) ok [n,m] (.aD H.next 0 2 1 (D 2)):=
 .inr (.inl ⟨H.next,0,D 2,Z,_,rfl,h,ad.a_ _ _,by simp,λj a b=>by
  rcases j with _|_|j
  ·cases b;exact⟨_,rfl,rfl⟩
  ·cases b;exact⟨_,rfl,rfl⟩
  ·simp at b⟩)
def pt(H:ad)(ok:Nat->Prop)(h:ok H.next)(n m q:Int):aO aT (H.push (.row Z 1 [[J X n],[J X m],[J X q]])) ok [n,m,q] (.aD H.next 0 3 1 (D 3)):=
 .inr (.inl ⟨H.next,0,D 3,Z,_,rfl,h,ad.a_ _ _,by simp,λj a b=>by
  rcases j with _|_|_|j
  ·cases b;exact⟨_,rfl,rfl⟩
  ·cases b;exact⟨_,rfl,rfl⟩
  ·cases b;exact⟨_,rfl,rfl⟩
  ·simp at b⟩)
def yH(l:Nat)(n m:Int):gd P l 30 2 [(0,J X n),(1,J X m)]=D (.aD l 0 2 1 (D 2),.row Z 1 [[J X n],[J X m]]):=by
 obtain⟨z,a,c,d⟩:=b6.uZ;have b:e2 P 3=D (J X 0):=aF;rw[b]at a;cases a;simp[gd,b6.un,b6.ts,b,ks,ae.cells,ae.one]
def ps(l:Nat)(n m q:Int):gd P l 30 3 [(0,J X n),(1,J X m),(2,J X q)]=D (.aD l 0 3 1 (D 3),.row Z 1 [[J X n],[J X m],[J X q]]):=by
 have a:e2 P 3=D (J X 0):=aF;simp[gd,b6.un,b6.ts,a,ks,ae.cells,ae.one]
def aO.uP{α:Type}{K:ek α}{t e:Nat}(y:eW t e K.esz)(c:dM P e=D C){l:List α}{v:ae}(h:aO K H ok l v){j:Int}{a:α}(b:0<=j)(d:l[j.toNat]? =D a):∃p cs,cm P t v (J X j)=D p/\(∀H',av H H'->aI P H' e p=D (.agg cs))/\K.V H ok a cs:=by
 obtain⟨L,i,ro,els,cs,af,_,ah,an,aM⟩:=h.at_ y b d;refine⟨_,cs,af,λH' p=> ?_,aM⟩;rw[gY c y.ts (p.get ah) an aa,List.drop_zero,List.take_of_length_le (by have:=(K.len aM).1;omega)]
def aO.Ec{l:List cv}{v:ae}(h:aO eV H ok l v){j:Int}{t:cv}(a:0<=j)(b:l[j.toNat]? =D t):∃p,cm P 23 v (J X j)=D p/\∀H',av H H'->aI P H' 46 p=D (cU t):=by
 obtain⟨p,cs,c,d,rfl⟩:=h.uP (K:=eV) cX q_ a b;exact⟨p,c,d⟩
def aO.ZV{l:List pI}{v:ae}(h:aO lU H ok l v){j:Int}{z:pI}(a:0<=j)(b:l[j.toNat]? =D z):∃L n,cm P 25 v (J X j)=D (.ptr L n 0)/\∀H',av H H'->aI P H' 3 (.ptr L n 0)=D (J X z.f)/\aI P H' 46 (.ptr L n 1)=D (cU z.ty):=by
 obtain⟨L,n,ro,els,cs,af,_,ah,an,rfl⟩:=h.at_ (K:=lU) fO a b;refine⟨L,n,af,λH' p=>⟨?_,?_⟩⟩
 ·have g:H'.get L=D (.row ro 4 els):=p.get ah;simp-implicitDefEqProofs(disch:=try exact ai)only[R,g,an]
 ·exact gY (n:=3) (c:=1) aF aF (p.get ah) an (by exact bC 4)
def aO.WN{l:List (List cv)}{v:ae}(h:aO lT H ok l v){j:Int}{fs:List cv}(a:0<=j)(b:l[j.toNat]? =D fs):∃L n fv,cm P 22 v (J X j)=D (.ptr L n 0)/\(∀H',av H H'->aI P H' 93 (.ptr L n 1)=D fv)/\aO kU H ok fs fv:=by
 obtain⟨L,n,ro,els,cs,af,_,ah,an,s,fv,rfl,az⟩:=h.at_ (K:=lT) eG a b;refine⟨L,n,fv,af,λH' p=> ?_,az⟩;have g:H'.get L=D (.row ro 2 els):=p.get ah;simp-implicitDefEqProofs(disch:=try exact ai)only[R,g,an]
def aO.R8{l:List cv}{v:ae}(h:aO kU H ok l v){j:Int}{t:cv}(a:0<=j)(b:l[j.toNat]? =D t):∃L n,cm P 93 v (J X j)=D (.ptr L n 0)/\∀H',av H H'->aI P H' 46 (.ptr L n 1)=D (cU t):=by
 obtain⟨L,n,ro,els,cs,af,_,ah,an,s,rfl⟩:=h.at_ (K:=kU) iS a b;exact⟨L,n,af,λH' p=>gY (n:=3) (c:=1) aF aF (p.get ah) an (by exact bC 4)⟩
def r3(c:bH)(t:cv)(n:Int):eR c t [n]=(decide (aY c n=t)&&decide (t≠bl)):=by simp[eR]
def MF(s:g7 H ok x c i a b cc d v w wi)(k n:Int)(g:c.vars.length<=1000000000)(B:(aY c k).d<=1000):W (aQ P aK 247 [.agg (cf x f c i a b cc d v w wi),J X k,J X n] H) λr H'=>r= A (decide (0<(aY c k).d)&&eR c (less (aY c k)) [n])/\av H H':=by
 refine Yq 0 ?_;have h:=av.push H (.row Z 19 [cf x f c i a b cc d v w wi]);have aS:=ad.a_ H (.row Z 19 [cf x f c i a b cc d v w wi]);simp-implicitDefEqProofs(disch:=try exact ai)only[CS,aj,hE s f,cC aS];refine aZ (mo (s.aE h) k g) ?_;rintro _ K ⟨rfl,p⟩;refine⟨p.1,?_⟩;have q:=h.trans p;have kA:=ad.bE (p.get aS);generalize aY c k=t at*;have z:=ad.a_ K (.row Z 3 [bZ bl]);have E:av K (K.push (.row Z 3 [bZ t])):=av.push _ _;by_cases e:t.d<=0
 ·simp-implicitDefEqProofs(disch:=try exact ai)only[Nat.reduceAdd,R,cU,bZ,e,decide_true];exact aG.2 ⟨by rw[decide_eq_false aa];rfl,q.trans (av.push _ _)⟩
 ·have m:=p.get aS;simp-implicitDefEqProofs(disch:=try exact ai)only[cf]at m;have gr:=p.get aS;have o:(cf x f c i a b cc d v w wi).take 19=cf x f c i a b cc d v w wi:=rfl;have u:=wrap_i64 (show 0<=t.d-1 by omega) (show t.d-1<=9223372036854775807 by omega);simp-implicitDefEqProofs(disch:=try exact ai)only[Nat.reduceAdd,R,cU,bZ,e,decide_false,u,gr,o,ej];refine aZ (kR (((s.aE q).aE (av.push _ _)).aE (av.push _ _)) (t:=less t) (l:=[n]) (gB _ bk trivial n) g (by simp)) ?_;rintro _ y ⟨rfl,j⟩;exact⟨j.1,aG.2 ⟨by rw[decide_eq_true aa];rfl,((q.trans (av.push _ _)).trans (av.push _ _)).trans j⟩⟩
def Ee(s:g7 H ok x c i a b cc d v w wi)(n:Int):W (aQ P aK 259 [.agg (cf x f c i a b cc d v w wi),J X n] H) λr H'=>r= A (within n c.ins.length)/\av H H':=by
 refine Yz 0 ?_;have g:=av.push H (.row Z 19 [cf x f c i a b cc d v w wi]);have aS:=ad.a_ H (.row Z 19 [cf x f c i a b cc d v w wi]);by_cases e:0<=n
 ·simp-implicitDefEqProofs(disch:=try exact ai)only[xT,Nat.reduceAdd,aj,aJ,aC,aL,hE s f,fY aS,s.b0.len eA,e,decide_true];exact aG.2 ⟨by simp[within,e],g⟩
 ·simp-implicitDefEqProofs(disch:=try exact ai)only[xT,aj,aC,hE s f,e,decide_false];exact aG.2 ⟨by simp[within,e],g⟩
def lD(s:g7 H ok x c i a b cc d v w wi)(f:Nat):bF (D (.agg (cf x f c i a b cc d v w wi))) (.agg (cf x f c i a b cc d v w wi))=true:=by
 simp[bF,cf,ae.beq,er.beq,s.af.rd,s.ah.rd,s.an.rd,s.aM.rd,s.bR.rd,s.b0.rd,s.i1.rd]
def vq(x:bj)(c:bH)(n k:Int):Bool:=match dI x.globals n with
 |some t=>eR c t [k]
 |none=>Z
def MI(s:g7 H ok x c i a b cc d v w wi)(n k:Int)(z:c.vars.length<=1000000000):W (aQ P aK 260 [.agg (cf x f c i a b cc d v w wi),J X n,J X k] H) λr H'=>r= A (vq x c n k)/\av H H':=by
 refine YB 0 ?_;have m:=av.push H (.row Z 19 [cf x f c i a b cc d v w wi]);have aS:=ad.a_ H (.row Z 19 [cf x f c i a b cc d v w wi]);rw[vq];by_cases g:0<=n
 ·by_cases af:n<(x.globals.length:Int)
  ·have o:n.toNat<x.globals.length:=aa;have y:dI x.globals n=D x.globals[n.toNat]:=by rw[iF g];simp[o]
   obtain⟨pp,B,u⟩:=(s.ah.aE m).Ec (j:=n) (t:=x.globals[n.toNat]) g (by simp[o]);rw[y];generalize x.globals[n.toNat]=t at*;simp-implicitDefEqProofs(disch:=try exact ai)only[tJ,aj,aJ,aC,aL,ad.dm,hE s f,fY aS,cC aS,s.ah.len cX,g,af,B,u _ (av.refl _),decide_true,c2,jv,ej];refine cx (kR ((s.aE m).aE (av.push _ _)) (t:=t) (l:=[k]) (gB _ bk trivial k) z (by simp)) ?_;rintro _ K ⟨rfl,p⟩;refine⟨p.1,?_⟩;have q:=(av.push (H.push (.row Z 19 [cf x f c i a b cc d v w wi])) (.row Z 1 [[J X k]])).trans p;simp-implicitDefEqProofs(disch:=try exact ai)only[aj];refine cO (cP aF ?_) (aG.2 ⟨rfl,m.trans q⟩)
   refine cZ ?_ ?_
   ·simp only[ct,bz.K.heap,List.forall_mem_cons]
    repeat' first|exact av.refl _|exact av.push _ _|exact q|(intro _ h;cases h;done)|refine ar ?_ ?_
   ·simp only[List.forall_mem_cons]
    repeat' first|(intro v e;cases e;done)|(intro v e;cases e;intro H' p;simp only[cC (p.get aS),fY (p.get aS),lD s,cF,eI s.ah,u H' p];done)|(intro _ h;cases h;done)|refine ar ?_ ?_
  ·simp-implicitDefEqProofs(disch:=try exact ai)only[tJ,aj,aJ,aC,aL,hE s f,fY aS,s.ah.len cX,g,af,decide_true,decide_false,c2,ec];refine cO (cP aF ?_) (aG.2 ⟨by rw[fc.2 (.inr aa)],m⟩);refine cZ ?_ ?_
   ·simp only[ct,bz.K.heap,List.forall_mem_cons]
    repeat' first|exact av.refl _|(intro _ h;cases h;done)|refine ar ?_ ?_
   ·simp only[List.forall_mem_cons]
    repeat' first|(intro v e;cases e;done)|(intro v e;cases e;intro H' p;simp only[fY (p.get aS),eI s.ah];done)|(intro _ h;cases h;done)|refine ar ?_ ?_
 ·simp-implicitDefEqProofs(disch:=try exact ai)only[tJ,aj,aC,hE s f,g,decide_false,ec];refine cO (cP aF ?_) (aG.2 ⟨by rw[fc.2 (.inl aa)],m⟩);refine cZ ?_ ?_
  ·simp only[ct,bz.K.heap,List.forall_mem_cons]
   repeat' first|exact av.refl _|(intro _ h;cases h;done)|refine ar ?_ ?_
  ·simp only[List.forall_mem_cons]
   repeat' first|(intro v e;cases e;done)|(intro v e;cases e;intro H' p;simp only[Nat.zero_add,Nat.reduceAdd,cC (p.get aS),fY (p.get aS),lD s,eN,cF,eI s.af,eI s.ah,eI s.an,eI s.aM];done)|(intro _ h;cases h;done)|refine ar ?_ ?_
def yG(x:bj)(f:Nat)(c:bH)(n k:Int):Bool:=match dI x.sites n with
 |some z=>z.f==(f:Int)&&eR c z.ty [k]
 |none=>Z
def ML(s:g7 H ok x c i a b cc d v w wi)(n k:Int)(G:c.vars.length<=1000000000):W (aQ P aK 248 [.agg (cf x f c i a b cc d v w wi),J X n,J X k] H) λr H'=>r= A (yG x f c n k)/\av H H':=by
 refine Yr 0 ?_;have o:=av.push H (.row Z 19 [cf x f c i a b cc d v w wi]);have aS:=ad.a_ H (.row Z 19 [cf x f c i a b cc d v w wi]);rw[yG];by_cases g:0<=n
 ·by_cases af:n<(x.sites.length:Int)
  ·have u:n.toNat<x.sites.length:=aa;have E:dI x.sites n=D x.sites[n.toNat]:=by rw[iF g];simp[u]
   obtain⟨L,m,B,q⟩:=(s.aM.aE o).ZV (j:=n) (z:=x.sites[n.toNat]) g (by simp[u]);rw[E];generalize x.sites[n.toNat]=z at*;simp only[];cases az:(z.f==(f:Int))with
   |true=>
    simp-implicitDefEqProofs(disch:=try exact ai)only[qS,aj,aJ,aC,aL,ad.dm,hE s f,fY aS,cC aS,s.aM.len fO,g,af,B,q _ (av.refl _),az,decide_true,c2,jv,ej];refine cx (kR ((s.aE o).aE (av.push _ _)) (t:=z.ty) (l:=[k]) (gB _ bk trivial k) G (by simp)) ?_;rintro _ K ⟨rfl,p⟩;refine⟨p.1,?_⟩;have y:=(av.push (H.push (.row Z 19 [cf x f c i a b cc d v w wi])) (.row Z 1 [[J X k]])).trans p;simp-implicitDefEqProofs(disch:=try exact ai)only[aj];refine cO (cP aF ?_) (aG.2 ⟨by rw[Bool.true_and],o.trans y⟩);refine cZ ?_ ?_
    ·simp only[ct,bz.K.heap,List.forall_mem_cons]
     repeat' first|exact av.refl _|exact av.push _ _|exact y|(intro _ h;cases h;done)|refine ar ?_ ?_
    ·simp only[List.forall_mem_cons]
     repeat' first|(intro v e;cases e;done)|(intro v e;cases e;intro H' p;simp only[cC (p.get aS),fY (p.get aS),lD s,eN,cF,eI s.aM,q H' p];done)|(intro _ h;cases h;done)|refine ar ?_ ?_
   |false=>
    simp-implicitDefEqProofs(disch:=try exact ai)only[qS,aj,aJ,aC,aL,hE s f,fY aS,s.aM.len fO,g,af,B,q _ (av.refl _),az,decide_true,c2,ec];refine cO (cP aF ?_) (aG.2 ⟨by rw[Bool.false_and],o⟩);refine cZ ?_ ?_
    ·simp only[ct,bz.K.heap,List.forall_mem_cons]
     repeat' first|exact av.refl _|(intro _ h;cases h;done)|refine ar ?_ ?_
    ·simp only[List.forall_mem_cons]
     repeat' first|(intro v e;cases e;done)|(intro v e;cases e;intro H' p;simp only[fY (p.get aS),eN,eI s.aM,q H' p];done)|(intro _ h;cases h;done)|refine ar ?_ ?_
  ·simp-implicitDefEqProofs(disch:=try exact ai)only[qS,aj,aJ,aC,aL,hE s f,fY aS,s.aM.len fO,g,af,decide_true,decide_false,c2,ec];refine cO (cP aF ?_) (aG.2 ⟨by rw[fc.2 (.inr aa)],o⟩);refine cZ ?_ ?_
   ·simp only[ct,bz.K.heap,List.forall_mem_cons]
    repeat' first|exact av.refl _|(intro _ h;cases h;done)|refine ar ?_ ?_
   ·simp only[List.forall_mem_cons]
    repeat' first|(intro v e;cases e;done)|(intro v e;cases e;intro H' p;simp only[fY (p.get aS),eI s.aM];done)|(intro _ h;cases h;done)|refine ar ?_ ?_
 ·simp-implicitDefEqProofs(disch:=try exact ai)only[qS,aj,aC,hE s f,g,decide_false,ec];refine cO (cP aF ?_) (aG.2 ⟨by rw[fc.2 (.inl aa)],o⟩);refine cZ ?_ ?_
  ·simp only[ct,bz.K.heap,List.forall_mem_cons]
   repeat' first|exact av.refl _|(intro _ h;cases h;done)|refine ar ?_ ?_
  ·simp only[List.forall_mem_cons]
   repeat' first|(intro v e;cases e;done)|(intro v e;cases e;intro H' p;simp only[Nat.zero_add,Nat.reduceAdd,cC (p.get aS),fY (p.get aS),lD s,eN,cF,eI s.af,eI s.ah,eI s.an,eI s.aM];done)|(intro _ h;cases h;done)|refine ar ?_ ?_
end
end
section
open Go.a2
set_option maxRecDepth 2000
section
variable {H:ad}{ok:Nat->Prop}{x:bj}{f:Nat}{c:bH}{i:In}{a b cc d v w wi:ae}
def oa{H:ad}{i:In}{w:ae}{L:Nat}{r:List ae}(h:H.get L=D (.row Z 6 [r]))(hw:w.one=C)(au:r.length=6:=by rfl):cD P H 89 (.ptr L 0 0) (.agg (b5 i w))=D (H.set L (.row Z 6 [b5 i w])):=by
 rw[gf (n:=6) aF h rfl rfl (by simp[b5,ae.cells,hw];simp[ae.one]) bU];simp[b5,ae.cells,eZ,List.drop_of_length_le (Nat.le_of_eq au)]
def fA{H:ad}{i:In}{w:ae}{I:Nat}(h:H.get I=D (.row Z 6 [[J X i.op,J X i.a,J X i.b,J X i.c,J X i.n,w]])):aI P H 3 (.ptr I 0 0)=D (J X i.op)/\aI P H 30 (.ptr I 0 5)=D w:=by
 simp-implicitDefEqProofs(disch:=try exact ai)only[R,h]
def iO(c:bH)(l:List Int):eR c cL l=l.all (λn=>decide (aY c n=cL)):=by rw[eR,decide_eq_true abR,Bool.and_true]
def j5(c:bH)(l:List Int):eR c dL l=l.all (λn=>decide (aY c n=dL)):=by rw[eR,decide_eq_true abO,Bool.and_true]
def MH(s:g7 H ok x c i a b cc d v w wi)(k q n:Int)(al:c.vars.length<=1000000000):W (aQ P aK 246 [.agg (cf x f c i a b cc d v w wi),J X k,J X q,J X n] H) λr H'=>r= A (eR c (eD x (aY c k) q) [n])/\av H H':=by
 refine Yp 0 ?_;have aq:=av.push H (.row Z 19 [cf x f c i a b cc d v w wi]);have ah:=ad.a_ H (.row Z 19 [cf x f c i a b cc d v w wi]);simp-implicitDefEqProofs(disch:=try exact ai)only[CR,aj,hE s f,cC ah];refine aZ (mo (s.aE aq) k al) ?_;rintro _ K ⟨rfl,Y⟩;refine⟨Y.1,?_⟩;have aA:=aq.trans Y;have ak:=Y.get ah;have kA:=ad.bE ak;generalize aY c k=t at*;have st:=yN (t:=bl) (u:=t) (ad.a_ K (.row Z 3 [bZ bl]));have ao:av K (K.push (.row Z 3 [bZ t])):=av.push _ _;have aS:=ao.get ak;have ag:(K.push (.row Z 3 [bZ t])).get K.next=D (.row Z 3 [bZ t]):=ad.a_ _ _
 have ab:=aA.trans ao;have aw:=s.aE ab;have B:=iR ag;have G:aI P (K.push (.row Z 3 [bZ t])) 3 (.ptr K.next 0 1)=D (J X t.r):=by
  rw[bZ]at ag ⊢;simp-implicitDefEqProofs(disch:=try exact ai)only[R]
 have no:∀{e:Bool},eD x t q=bl->eR c (eD x t q) [n]=false:=λh=>by rw[h,r3];simp
 have y:cD P (K.push (.row Z 3 [[J X 0,J X 0,J X 0]])) 46 (.ptr K.next 0 0) (cU t)=D ((K.push (.row Z 3 [bZ bl])).set K.next (.row Z 3 [bZ t])):=st;rw[ad.kH]at y;have bad:eD x t q=bl->W (D (ae.bool Z,K.push (.row Z 3 [bZ t]))) λr H'=>r= A (eR c (eD x t q) [n])/\av H H':=λh=>aG.2 ⟨by rw[no (e:=true) h],ab⟩
 cases O:(t.b==3)with
 |false=>
  have o:(t.b != 3)=true:=by simpa using O
  have U:¬t.b=3:=by simpa using O
  simp-implicitDefEqProofs(disch:=try exact ai)only[Nat.reduceAdd,aj,aJ,aC,aL,y,B,o];exact bad (by rw[eD,lE,if_neg (λh=>U h.1)];rfl)
 |true=>
  have o:(t.b != 3)=false:=by simpa using O
  cases Q:(t.d==0)with
  |false=>
   have z:(t.d != 0)=true:=by simpa using Q
   have U:¬t.d=0:=by simpa using Q
   simp-implicitDefEqProofs(disch:=try exact ai)only[Nat.reduceAdd,aj,aJ,aC,aL,y,B,o,z];exact bad (by rw[eD,lE,if_neg (λh=>U h.2)];rfl)
  |true=>
   have z:(t.d != 0)=false:=by simpa using Q
   have V:lE x t=dI x.bV t.r:=by rw[lE,if_pos ⟨by simpa using O,by simpa using Q⟩]
   by_cases E:t.r<0
   ·simp-implicitDefEqProofs(disch:=try exact ai)only[Nat.reduceAdd,aj,aJ,aC,aL,y,B,G,o,z,E,decide_true];exact bad (by rw[eD,V,fc.2 (.inl E)];rfl)
   by_cases N:(x.bV.length:Int)<=t.r
   ·simp-implicitDefEqProofs(disch:=try exact ai)only[Nat.reduceAdd,aj,aJ,aC,aL,y,B,G,o,z,E,N,fY aS,s.af.len eG,decide_true,decide_false];exact bad (by rw[eD,V,fc.2 (.inr N)];rfl)
   have au:t.r.toNat<x.bV.length:=aa;have ay:dI x.bV t.r=D x.bV[t.r.toNat]:=by rw[iF aa];simp[au]
   obtain⟨L,m,fv,i1,i2,i3⟩:=aw.af.WN (j:=t.r) (fs:=x.bV[t.r.toNat]) aa (by simp[au]);generalize x.bV[t.r.toNat]=fs at*;have T:eD x t q=(dI fs q).getD bl:=by rw[eD,V,ay,Option.bind_some]
   have base:=[46];by_cases S:0<=q
   ·by_cases bR:q<(fs.length:Int)
    ·have an:q.toNat<fs.length:=aa;obtain⟨M,e,az,am⟩:=i3.R8 (j:=q) (t:=fs[q.toNat]) aa (by simp[an]);have ax:eD x t q=fs[q.toNat]:=by rw[T,iF S];simp[an]
     rw[ax];generalize fs[q.toNat]=u at*;simp-implicitDefEqProofs(disch:=try exact ai)only[Nat.reduceAdd,aj,aJ,aC,aL,ad.dm,c2,jv,y,B,G,o,z,E,N,S,bR,fY aS,cC aS,s.af.len eG,i3.len iS,i1,i2 _ (av.refl _),az,am _ (av.refl _),ej,decide_true,decide_false];refine cx (kR (aw.aE (av.push _ _)) (t:=u) (l:=[n]) (gB _ bk trivial n) al (by simp)) ?_;rintro _ aH ⟨rfl,p⟩;refine⟨p.1,?_⟩;have ap:=(av.push (K.push (.row Z 3 [bZ t])) (.row Z 1 [[J X n]])).trans p;simp-implicitDefEqProofs(disch:=try exact ai)only[aj];refine cO (cP aF ?_) (aG.2 ⟨rfl,ab.trans ap⟩);refine cZ ?_ ?_
     ·simp only[ct,bz.K.heap,List.forall_mem_cons]
      repeat' first|exact av.refl _|exact av.push _ _|exact ap|(intro _ h;cases h;done)|refine ar ?_ ?_
     ·simp only[List.forall_mem_cons]
      repeat' first|(intro v g;cases g;done)|(intro v g;cases g;intro H' p;simp only[cC (p.get aS),lD s,cF,am H' p];done)|(intro _ h;cases h;done)|refine ar ?_ ?_
    ·simp-implicitDefEqProofs(disch:=try exact ai)only[Nat.reduceAdd,aj,aJ,aC,aL,c2,ec,y,B,G,o,z,E,N,S,bR,fY aS,s.af.len eG,i3.len iS,i1,i2 _ (av.refl _),decide_true,decide_false];refine cO (cP aF ?_) (bad (by rw[T,fc.2 (.inr aa)];rfl));refine cZ ?_ ?_
     ·simp only[ct,bz.K.heap,List.forall_mem_cons]
      repeat' first|exact av.refl _|(intro _ h;cases h;done)|refine ar ?_ ?_
     ·simp only[List.forall_mem_cons]
      repeat' first|(intro v g;cases g;done)|(intro v g;cases g;intro H' p;simp only[Nat.zero_add,Nat.reduceAdd,i3.len iS,eN];done)|(intro _ h;cases h;done)|refine ar ?_ ?_
   ·simp-implicitDefEqProofs(disch:=try exact ai)only[Nat.reduceAdd,aj,aJ,aC,aL,ec,y,B,G,o,z,E,N,S,fY aS,s.af.len eG,i1,i2 _ (av.refl _),decide_false];refine cO (cP aF ?_) (bad (by rw[T,fc.2 (.inl aa)];rfl));refine cZ ?_ ?_
    ·simp only[ct,bz.K.heap,List.forall_mem_cons]
     repeat' first|exact av.refl _|(intro _ h;cases h;done)|refine ar ?_ ?_
    ·simp only[List.forall_mem_cons]
     repeat' first|(intro v g;cases g;done)|(intro v g;cases g;intro H' p;simp only[Nat.zero_add,Nat.reduceAdd,eN];done)|(intro _ h;cases h;done)|refine ar ?_ ?_
def acP(s:g7 H ok x c i a b cc d v w wi)(q:c.vars.length<=1000000000):W (aQ P aK 245 [.agg (cf x f c i a b cc d v w wi)] H) λr H'=>r= A (gF i.n (aY c i.a) (aY c i.b) (aY c i.c))/\av H H':=by
 refine Yo 0 ?_;have st:=oa (i:=i) (w:=wi) (ad.a_ (H.push (.row Z 19 [cf x f c i a b cc d v w wi])) (.row Z 6 [[J X 0,J X 0,J X 0,J X 0,J X 0,.aB]])) s.i1.one;simp only[kG]at st;have u:av H ((H.push (.row Z 19 [cf x f c i a b cc d v w wi])).push (.row Z 6 [b5 i wi])):=(av.push _ _).trans (av.push _ _);have aS:((H.push (.row Z 19 [cf x f c i a b cc d v w wi])).push (.row Z 6 [b5 i wi])).get H.next=D (.row Z 19 [cf x f c i a b cc d v w wi]):=(av.push _ _).get (ad.a_ _ _)
 have m:((H.push (.row Z 19 [cf x f c i a b cc d v w wi])).push (.row Z 6 [b5 i wi])).get (H.next+1)=D (.row Z 6 [[J X i.op,J X i.a,J X i.b,J X i.c,J X i.n,wi]]):=ad.a_ _ _;have ay:=fA m;simp-implicitDefEqProofs(disch:=try exact ai)only[CQ,Nat.reduceAdd,aj,aJ,aL,ad.dm,hE s f,vN (ad.a_ H (.row Z 19 [cf x f c i a b cc d v w wi])),st,ad.ga];have y:=s.aE u;generalize ((H.push (.row Z 19 [cf x f c i a b cc d v w wi])).push (.row Z 6 [b5 i wi]))=H0 at*;have kA:=ad.bE aS;have ax:=ad.bE m;generalize H.next+1=I at*
 generalize H.next=zX at*
 by_cases U:i.n=14
 ·have aH:∀j:Int,(i.n==j)=(14==j):=λj=>by rw[U]
  rw[U];simp-implicitDefEqProofs(disch:=try exact ai)only[ke,aj,aJ,aC,aL,cC aS,o m,aH,Int.reduceBEq,ps];refine aZ (ju (y.aE (av.push _ _)) (pt _ bk trivial i.a i.b i.c) q (by simp)) ?_;rintro _ K ⟨rfl,p⟩;exact⟨p.1,aG.2 ⟨by rw[iO];simp[gF],u.trans ((av.push _ _).trans p)⟩⟩
 have ag:(i.n==14)=false:=beq_eq_false_iff_ne.2 U;by_cases V:i.n=15
 ·have aH:∀j:Int,(i.n==j)=(15==j):=λj=>by rw[V]
  rw[V];simp-implicitDefEqProofs(disch:=try exact ai)only[ke,aj,aJ,aC,aL,cC aS,o m,aH,Int.reduceBEq,ps];refine aZ (ju (y.aE (av.push _ _)) (pt _ bk trivial i.a i.b i.c) q (by simp)) ?_;rintro _ K ⟨rfl,p⟩;exact⟨p.1,aG.2 ⟨by rw[iO];simp[gF],u.trans ((av.push _ _).trans p)⟩⟩
 have ah:(i.n==15)=false:=beq_eq_false_iff_ne.2 V;by_cases Y:i.n=16
 ·have aH:∀j:Int,(i.n==j)=(16==j):=λj=>by rw[Y]
  rw[Y];simp-implicitDefEqProofs(disch:=try exact ai)only[ke,aj,aJ,aC,aL,cC aS,o m,aH,Int.reduceBEq,ps];refine aZ (ju (y.aE (av.push _ _)) (pt _ bk trivial i.a i.b i.c) q (by simp)) ?_;rintro _ K ⟨rfl,p⟩;exact⟨p.1,aG.2 ⟨by rw[iO];simp[gF],u.trans ((av.push _ _).trans p)⟩⟩
 have ak:(i.n==16)=false:=beq_eq_false_iff_ne.2 Y;by_cases ab:i.n=17
 ·have aH:∀j:Int,(i.n==j)=(17==j):=λj=>by rw[ab]
  rw[ab];simp-implicitDefEqProofs(disch:=try exact ai)only[ke,aj,aJ,aC,aL,cC aS,o m,aH,Int.reduceBEq,ps];refine aZ (ju (y.aE (av.push _ _)) (pt _ bk trivial i.a i.b i.c) q (by simp)) ?_;rintro _ K ⟨rfl,p⟩;exact⟨p.1,aG.2 ⟨by rw[iO];simp[gF],u.trans ((av.push _ _).trans p)⟩⟩
 have al:(i.n==17)=false:=beq_eq_false_iff_ne.2 ab;by_cases ae:i.n=18
 ·have aH:∀j:Int,(i.n==j)=(18==j):=λj=>by rw[ae]
  rw[ae];simp-implicitDefEqProofs(disch:=try exact ai)only[ke,aj,aJ,aC,aL,cC aS,o m,aH,Int.reduceBEq,ps];refine aZ (ju (y.aE (av.push _ _)) (pt _ bk trivial i.a i.b i.c) q (by simp)) ?_;rintro _ K ⟨rfl,p⟩;exact⟨p.1,aG.2 ⟨by rw[iO];simp[gF],u.trans ((av.push _ _).trans p)⟩⟩
 have am:(i.n==18)=false:=beq_eq_false_iff_ne.2 ae;by_cases N:i.n=19
 ·have aH:∀j:Int,(i.n==j)=(19==j):=λj=>by rw[N]
  rw[N];simp-implicitDefEqProofs(disch:=try exact ai)only[ke,n0,aj,aJ,aC,aL,cC aS,o m,aH,Int.reduceBEq,ej];refine aZ (m_ (y.aE (av.push _ _)) (gB _ bk trivial i.a) q (by simp)) ?_;rintro _ K ⟨rfl,p⟩;refine⟨p.1,?_⟩;have k:=(av.push H0 (.row Z 1 [[J X i.a]])).trans p;cases g:eR c dL [i.a]with
  |false=>
   simp-implicitDefEqProofs(disch:=try exact ai)only[aj];exact aG.2 ⟨by rw[j5]at g;simp at g;simp[gF,g],u.trans k⟩
  |true=>
   simp-implicitDefEqProofs(disch:=try exact ai)only[aj,aJ,aL,cC (k.get aS),o (k.get m),yH,jv];refine cx (ju ((y.aE k).aE (av.push _ _)) (yI _ bk trivial i.b i.c) q (by simp)) ?_;rintro _ E ⟨rfl,B⟩;refine⟨B.1,?_⟩;simp-implicitDefEqProofs(disch:=try exact ai)only[aj];exact aG.2 ⟨by rw[j5]at g;simp at g;rw[iO];simp[gF,g],u.trans (k.trans ((av.push _ _).trans B))⟩
 have an:(i.n==19)=false:=beq_eq_false_iff_ne.2 N;by_cases O:i.n=20
 ·have aH:∀j:Int,(i.n==j)=(20==j):=λj=>by rw[O]
  rw[O];simp-implicitDefEqProofs(disch:=try exact ai)only[ke,n0,aj,aJ,aC,aL,cC aS,o m,aH,Int.reduceBEq,ej];refine aZ (m_ (y.aE (av.push _ _)) (gB _ bk trivial i.a) q (by simp)) ?_;rintro _ K ⟨rfl,p⟩;refine⟨p.1,?_⟩;have k:=(av.push H0 (.row Z 1 [[J X i.a]])).trans p;cases g:eR c dL [i.a]with
  |false=>
   simp-implicitDefEqProofs(disch:=try exact ai)only[aj];exact aG.2 ⟨by rw[j5]at g;simp at g;simp[gF,g],u.trans k⟩
  |true=>
   simp-implicitDefEqProofs(disch:=try exact ai)only[aj,aJ,aL,cC (k.get aS),o (k.get m),yH,jv];refine cx (ju ((y.aE k).aE (av.push _ _)) (yI _ bk trivial i.b i.c) q (by simp)) ?_;rintro _ E ⟨rfl,B⟩;refine⟨B.1,?_⟩;simp-implicitDefEqProofs(disch:=try exact ai)only[aj];exact aG.2 ⟨by rw[j5]at g;simp at g;rw[iO];simp[gF,g],u.trans (k.trans ((av.push _ _).trans B))⟩
 have ao:(i.n==20)=false:=beq_eq_false_iff_ne.2 O;by_cases Q:i.n=21
 ·have aH:∀j:Int,(i.n==j)=(21==j):=λj=>by rw[Q]
  rw[Q];simp-implicitDefEqProofs(disch:=try exact ai)only[ke,n0,qR,aj,aJ,aC,aL,cC aS,o m,aH,Int.reduceBEq,ej];refine aZ (m_ (y.aE (av.push _ _)) (gB _ bk trivial i.a) q (by simp)) ?_;rintro _ K ⟨rfl,p⟩;refine⟨p.1,?_⟩;have k:=(av.push H0 (.row Z 1 [[J X i.a]])).trans p;cases g:eR c dL [i.a]with
  |false=>
   simp-implicitDefEqProofs(disch:=try exact ai)only[aj,ec];refine cO (cP aF ?_) (aG.2 ⟨by rw[j5]at g;simp at g;simp[gF,g],u.trans k⟩);refine cZ ?_ ?_
   ·simp only[ct,bz.K.heap,List.forall_mem_cons]
    repeat' first|exact av.refl _|exact av.push _ _|exact k|(intro _ h;cases h;done)|refine ar ?_ ?_
   ·simp only[List.forall_mem_cons]
    repeat' first|(intro v g;cases g;done)|(intro v g;cases g;intro H' p;simp only[cC (p.get aS),o (p.get m),lD s,eN];done)|(intro _ h;cases h;done)|refine ar ?_ ?_
  |true=>
   simp-implicitDefEqProofs(disch:=try exact ai)only[aj,aJ,aL,c2,cC (k.get aS),o (k.get m)];refine cx (mo (y.aE k) i.b q) ?_;rintro _ E ⟨rfl,B⟩;refine⟨B.1,?_⟩;have z:=k.trans B;simp-implicitDefEqProofs(disch:=try exact ai)only[aj,aJ,aL,c2,jv,cC (z.get aS),o (z.get m),ej];refine cx (kR ((y.aE z).aE (av.push _ _)) (t:=aY c i.b) (l:=[i.c]) (gB _ bk trivial i.c) q (by simp)) ?_;rintro _ af ⟨rfl,M⟩;refine⟨M.1,?_⟩;have G:=z.trans (av.push E (.row Z 1 [[J X i.c]]));have L:=G.trans M;simp-implicitDefEqProofs(disch:=try exact ai)only[aj];refine cO (cP aF ?_) (aG.2 ⟨by rw[j5]at g;simp at g;rw[r3];simp[gF,g,Bool.and_comm,eq_comm (a:=aY c i.c)],u.trans L⟩)
   refine cZ ?_ ?_
   ·simp only[ct,bz.K.heap,List.forall_mem_cons]
    repeat' first|exact av.refl _|exact av.push _ _|exact k|exact z|exact G|exact L|(intro _ h;cases h;done)|refine ar ?_ ?_
   ·simp only[List.forall_mem_cons]
    repeat' first|(intro v g;cases g;done)|(intro v g;cases g;intro H' p;simp only[cC (p.get aS),o (p.get m),lD s,eN];done)|(intro _ h;cases h;done)|refine ar ?_ ?_
 have ap:(i.n==21)=false:=beq_eq_false_iff_ne.2 Q;by_cases R:i.n=22
 ·have aH:∀j:Int,(i.n==j)=(22==j):=λj=>by rw[R]
  rw[R];simp-implicitDefEqProofs(disch:=try exact ai)only[ke,n0,qR,aj,aJ,aC,aL,cC aS,o m,aH,Int.reduceBEq,ej];refine aZ (m_ (y.aE (av.push _ _)) (gB _ bk trivial i.a) q (by simp)) ?_;rintro _ K ⟨rfl,p⟩;refine⟨p.1,?_⟩;have k:=(av.push H0 (.row Z 1 [[J X i.a]])).trans p;cases g:eR c dL [i.a]with
  |false=>
   simp-implicitDefEqProofs(disch:=try exact ai)only[aj,ec];refine cO (cP aF ?_) (aG.2 ⟨by rw[j5]at g;simp at g;simp[gF,g],u.trans k⟩);refine cZ ?_ ?_
   ·simp only[ct,bz.K.heap,List.forall_mem_cons]
    repeat' first|exact av.refl _|exact av.push _ _|exact k|(intro _ h;cases h;done)|refine ar ?_ ?_
   ·simp only[List.forall_mem_cons]
    repeat' first|(intro v g;cases g;done)|(intro v g;cases g;intro H' p;simp only[cC (p.get aS),o (p.get m),lD s,eN];done)|(intro _ h;cases h;done)|refine ar ?_ ?_
  |true=>
   simp-implicitDefEqProofs(disch:=try exact ai)only[aj,aJ,aL,c2,cC (k.get aS),o (k.get m)];refine cx (mo (y.aE k) i.b q) ?_;rintro _ E ⟨rfl,B⟩;refine⟨B.1,?_⟩;have z:=k.trans B;simp-implicitDefEqProofs(disch:=try exact ai)only[aj,aJ,aL,c2,jv,cC (z.get aS),o (z.get m),ej];refine cx (kR ((y.aE z).aE (av.push _ _)) (t:=aY c i.b) (l:=[i.c]) (gB _ bk trivial i.c) q (by simp)) ?_;rintro _ af ⟨rfl,M⟩;refine⟨M.1,?_⟩;have G:=z.trans (av.push E (.row Z 1 [[J X i.c]]));have L:=G.trans M;simp-implicitDefEqProofs(disch:=try exact ai)only[aj];refine cO (cP aF ?_) (aG.2 ⟨by rw[j5]at g;simp at g;rw[r3];simp[gF,g,Bool.and_comm,eq_comm (a:=aY c i.c)],u.trans L⟩)
   refine cZ ?_ ?_
   ·simp only[ct,bz.K.heap,List.forall_mem_cons]
    repeat' first|exact av.refl _|exact av.push _ _|exact k|exact z|exact G|exact L|(intro _ h;cases h;done)|refine ar ?_ ?_
   ·simp only[List.forall_mem_cons]
    repeat' first|(intro v g;cases g;done)|(intro v g;cases g;intro H' p;simp only[cC (p.get aS),o (p.get m),lD s,eN];done)|(intro _ h;cases h;done)|refine ar ?_ ?_
 have aq:(i.n==22)=false:=beq_eq_false_iff_ne.2 R;by_cases S:i.n=23
 ·have aH:∀j:Int,(i.n==j)=(23==j):=λj=>by rw[S]
  rw[S];simp-implicitDefEqProofs(disch:=try exact ai)only[ke,n0,qR,xL,aj,aJ,aC,aL,cC aS,o m,aH,Int.reduceBEq,ps];refine aZ (m_ (y.aE (av.push _ _)) (pt _ bk trivial i.a i.b i.c) q (by simp)) ?_;rintro _ K ⟨rfl,p⟩;exact⟨p.1,aG.2 ⟨by rw[j5];simp[gF],u.trans ((av.push _ _).trans p)⟩⟩
 have au:(i.n==23)=false:=beq_eq_false_iff_ne.2 S;by_cases T:i.n=24
 ·have aH:∀j:Int,(i.n==j)=(24==j):=λj=>by rw[T]
  rw[T];simp-implicitDefEqProofs(disch:=try exact ai)only[ke,n0,qR,xL,aj,aJ,aC,aL,cC aS,o m,aH,Int.reduceBEq,ps];refine aZ (m_ (y.aE (av.push _ _)) (pt _ bk trivial i.a i.b i.c) q (by simp)) ?_;rintro _ K ⟨rfl,p⟩;exact⟨p.1,aG.2 ⟨by rw[j5];simp[gF],u.trans ((av.push _ _).trans p)⟩⟩
 have aw:(i.n==24)=false:=beq_eq_false_iff_ne.2 T;simp-implicitDefEqProofs(disch:=try exact ai)only[ke,n0,qR,xL,mi,aj,aC,o m,ag,ah,ak,al,am,an,ao,ap,aq,au,aw];refine aG.2 ⟨?_,u⟩;have e:¬(14<=i.n/\i.n<=18):=aa;simp[gF,e,N,O,Q,R,S,T]
