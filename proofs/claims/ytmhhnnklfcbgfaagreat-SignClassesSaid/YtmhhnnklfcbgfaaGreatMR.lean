/-
  Texts of one proof, laid together: Tn To Tp Tq SgN Tr Ts Tt ShK Tu.
-/
import Derived.Test.YtmhhnnklfcbgfaaGreatMP
set_option linter.unusedVariables false
set_option linter.unusedSimpArgs false
set_option linter.defProp false
open Option renaming some→A,none→Z
open Bool renaming true→J,false→I
open Go.cw.af renaming int→D,bool→C
open Go.IntKind renaming i64→F
namespace Go.Proofs.YtmhhnnklfcbgfaaGreat
open Go.cw
open Nat (reduceAdd reduceLeDiff)
section
open Go.a_
set_option maxRecDepth 2000
section
variable {U zD zX m:Nat}{lv:af}{p:c8}{nv fv:af}{ok:Nat->Prop}
theorem NY{x2:af}{i:Nat}{l:List Nat}(aP:p.nodes[i]? =A l)(hm:m<=60)(aw:∀a∈l,a<m)(S:l.length<=60)(ba:∀a∈l,∀b∈l,bR p a b)(x:∀k,ok k->k≠zD)(y:zX≠zD){L23:af->af->af->af->af->ae->O}{Q:af->ae->Prop}{N:Nat}:∀(j k q:Nat) (H:ae) (L:List Nat),k+j=l.length\/(j=0/\l.length<=k)->1<=k->j<q->eN U zD lv L H->dN m p L->aH (bu aN) H ok (p.nodes.map aQ) nv->H.get zX=A (.row I 2 [[nv,fv]])->(∀i a c,i<k->l[0]? =A a->l[i]? =A c->ed L a c)->
  (∀(H':ae) (L':List Nat),eN U zD lv L' H'->dN m p L'->iP L L'->(∀a∈l,∀c∈l,ed L' a c)->g3 zD H H'->W (xM (aK P aG) N L23 (.ptr zX 0 0) x2 (D F (m:Nat)) (.ptr U 0 0) (D F (i:Nat)) H') Q)->
  W (xS (aK P aG) N L23 q (.ptr zX 0 0) x2 (D F (m:Nat)) (.ptr U 0 0) (D F (i:Nat)) (D F (k:Nat)) H) Q
 |_,_,0,_,_,_,_,aJ,_,_,_,_,_,_=>ad
 |0,k,q+1,H,L,T,ah,_,s,d,aL,aO,ar,fin=>by
  have aq:¬(k:Int)<(l.length:Int):=ad;obtain⟨ab,w,g,n,a3⟩:=aL.pg (j:=(i:Int)) (a:=l) ad al;have r:∀H0,bE P H0 .len [30] [w]=A (D F l.length):=λH0=>by rw[a3.len b0,g1]
  refine bh @xS.eq_2 @CR.eq_1 (fw aO) g (n _ (au.refl _)) r ?_;refine fin H L s d (.refl d.hM) (λa e c aA=> ?_) (.refl _ _);obtain⟨i,aP,rfl⟩:=List.mem_iff_getElem.1 e;obtain⟨i2,ap,rfl⟩:=List.mem_iff_getElem.1 aA;have o:0<l.length:=ad;have u:=ar i l[0] l[i] ad al al;have f:=ar i2 l[0] l[i2] ad al al;exact(mN L).trans ((mN L).symm u) f
 |j+1,k,q+1,H,L,T,ah,aJ,s,d,aL,aO,ar,fin=>by
  have E:k<l.length:=ad;have o:0<l.length:=ad;obtain⟨ab,w,g,n,a3⟩:=aL.pg (j:=(i:Int)) (a:=l) ad al;have r:∀H0,bE P H0 .len [30] [w]=A (D F l.length):=λH0=>by rw[a3.len b0,g1]
  obtain⟨av,M,R⟩:=a3.int (j:=0) (a:=(l[0]:Int)) ad (by grind[lj]);obtain⟨ax,a1,bd⟩:=a3.int (j:=(k:Int)) (a:=(l[k]:Int)) ad (by grind[lj]);have on:=NY (x2:=x2) (i:=i) (l:=l) aP hm aw S ba x y (L23:=L23) (Q:=Q) (N:=N) j (k+1) q;have G:=List.getElem_mem o;have mk:=List.getElem_mem E;have v:l[0]<L.length:=by rw[d.len];grind
  have B:l[k]<L.length:=by rw[d.len];grind
  refine bh @xS.eq_2 @CR.eq_1 (fw aO) g (n _ (au.refl _)) (ag r (ag M (ag R (ag a1 bd)))) ?_;refine cK (Nx s d.hM (by rw[d.len];omega) v B) ?_;rintro _ H1 ⟨t,rfl,u,f,z3,z4⟩;refine⟨ad,?_⟩;have fy:g3 zD H H1:=⟨ad,λz _ Y=>z4 z Y⟩;have aa:=NW d (aw _ G) (aw _ mk) (ba _ G _ mk);have V:∀i a c,i<k+1->l[0]? =A a->l[i]? =A c->ed (fP L l[0] l[k]) a c:=by
   intro i a c aP e aA;rcases Nat.lt_or_eq_of_le (Nat.le_of_lt_succ aP)with h|rfl
   ·exact f.j.le _ _ (ar i a c h e aA)
   ·simp[o]at e;simp[E]at aA;subst e;subst aA;exact PB d.hM v B
  refine bN ?_;exact on H1 _ ad ad ad u aa (aL.keep (fy.keep x)) (fy.get aO y) V λK L2 ai aj ak am an=>fin K L2 ai aj (f.j.trans ak) am (fy.trans an)
theorem NZ(d:fJ m p)(f:∀k,ok k->k≠zD)(g:zX≠zD){x2:af}{Q:af->ae->Prop}{N:Nat}(z:61<N):∀(j k q:Nat) (H:ae) (L:List Nat),k+j=p.nodes.length->j<q->eN U zD lv L H->dN m p L->aH (bu aN) H ok (p.nodes.map aQ) nv->H.get zX=A (.row I 2 [[nv,fv]])->(∀l∈p.nodes.take k,∀a∈l,∀b∈l,ed L a b)->
  (∀(H':ae) (L':List Nat),eN U zD lv L' H'->dN m p L'->hZ p L'->g3 zD H H'->W (tH (aK P aG) N (.ptr zX 0 0) x2 (D F (m:Nat)) (.ptr U 0 0) H') Q)->
  W (xR (aK P aG) N q (.ptr zX 0 0) x2 (D F (m:Nat)) (.ptr U 0 0) (D F (k:Nat)) H) Q
 |_,_,0,_,_,_,aJ,_,_,_,_,_,_=>ad
 |0,k,q+1,H,L,B,_,s,t,aL,aO,ar,fin=>by
  have R:¬(k:Int)<(p.nodes.length:Int):=ad;have r:∀H0,bE P H0 .len [31] [nv]=A (D F p.nodes.length):=λH0=>by rw[aL.len dP,List.length_map]
  refine cv @xR.eq_2 @CQ.eq_1 (fw aO) r ?_;rw[List.take_of_length_le ad]at ar;exact fin H L s t ⟨ar⟩ (.refl _ _)
 |j+1,k,q+1,H,L,B,aJ,s,t,aL,aO,ar,fin=>by
  have w:k<p.nodes.length:=ad;have r:∀H0,bE P H0 .len [31] [nv]=A (D F p.nodes.length):=λH0=>by rw[aL.len dP,List.length_map]
  have on:=NZ d f g (x2:=x2) (Q:=Q) z j (k+1) q;have S:=d.nn;have e:=List.getElem_mem w;refine cv @xR.eq_2 @CQ.eq_1 (fw aO) r ?_;refine NY (l:=p.nodes[k]) al d.hm (d.nodes _ e) (d.nl _ e) (λa n b o=> .node e n o) f g (p.nodes[k].length-1) 1 N H L ad ad (by have:=d.nl _ e;omega) s t aL aO (λi a c aP y v=> ?_) ?_
  ·obtain rfl:i=0:=ad;rw[y]at v;cases v;exact rfl
  intro H1 L1 E G K T u;refine bP @xM.eq_1 ?_;refine on H1 L1 ad ad E G (aL.keep (u.keep f)) (u.get aO g) (λl aw=> ?_) λx L2 M O z3 z4=>fin x L2 M O z3 (u.trans z4)
  rw[List.take_succ_eq_append_getElem w]at aw;rcases List.mem_append.1 aw with h|h
  ·exactλa n b o=>K.le _ _ (ar l h a n b o)
  grind
def rZ(p:c8)(L:List Nat)(s t:Nat):Prop:=aR L s=aR L t->∀k a b,a∈p.ee s k->b∈p.ee t k->ed L a b
theorem LI{p:c8}{s k a:Nat}{fs:List (List Nat)}(b:p.fields[s]? =A fs)(h:a∈p.ee s k):∃l,fs[k]? =A l/\a∈l:=by
 grind[c8.ee]
theorem abp{p:c8}{s k a:Nat}{fs:List (List Nat)}{l:List Nat}(c:p.fields[s]? =A fs)(b:fs[k]? =A l)(h:a∈l):a∈p.ee s k:=by
 grind[c8.ee]
theorem Og(d:fJ m p)(o:∀k,ok k->k≠zD)(E:zX≠zD){x2:af}{s:Nat}(aq:s<m){L18:af->af->af->af->af->ae->O}{L19:af->af->af->af->af->af->ae->O}{Q:af->ae->Prop}{N:Nat}:∀(j k q:Nat) (H:ae) (L:List Nat) (b:Bool),k+j=m->j<q->eN U zD lv L H->zD<H.next->dN m p L->aH (bu (bu aN)) H ok (p.fields.map (·.map aQ)) fv->H.get zX=A (.row I 2 [[nv,fv]])->(b=I->∀t,t<k->rZ p L s t)->
  (∀(H':ae) (L':List Nat) (b':Bool),eN U zD lv L' H'->dN m p L'->je b L b' L'->(b'=I->∀t,t<m->rZ p L' s t)->g3 zD H H'->W (ry (aK P aG) N L18 L19 (.ptr zX 0 0) x2 (D F (m:Nat)) (.ptr U 0 0) (C b') (D F (s:Nat)) H') Q)->
  W (tK (aK P aG) N L18 L19 q (.ptr zX 0 0) x2 (D F (m:Nat)) (.ptr U 0 0) (C b) (D F (s:Nat)) (D F (k:Nat)) H) Q
 |_,_,0,_,_,_,_,aJ,_,_,_,_,_,_,_=>ad
 |0,k,q+1,H,L,b,am,_,s1,iC,f,aC,aO,ar,fin=>by
  have aS:¬(k:Int)<(m:Int):=ad;refine bG @tK.eq_2 @CP.eq_1 ?_;obtain rfl:k=m:=ad;exact fin H L b s1 f (.refl f.hM) ar (.refl _ _)
 |j+1,k,q+1,H,L,b,am,aJ,s1,iC,f,aC,aO,ar,fin=>by
  have ap:=d.hm;have av:s<p.fields.length:=by rw[d.len];omega
  have an:k<p.fields.length:=by rw[d.len];omega
  obtain⟨aV,aZ,T,V,a3⟩:=aC.lists (j:=(s:Int)) (a:=p.fields[s]) ad al;obtain⟨aX,a0,Y,g,aa⟩:=aC.lists (j:=(k:Int)) (a:=p.fields[k]) ad al;have ak:p.fields[s]? =A p.fields[s]:=al;have aj:p.fields[k]? =A p.fields[k]:=al;have u:=List.getElem_mem av;have v:=List.getElem_mem an;have on:=Og d o E (x2:=x2) aq (L18:=L18) (L19:=L19) (Q:=Q) (N:=N) j (k+1) q;have R:=fB (show k<=1000000000 by omega);refine bG @tK.eq_2 @CP.eq_1 ?_;refine dK (pj s1 (by rw[f.len];omega)) ?_;refine dK (pj s1 (by rw[f.len];omega)) ?_;by_cases e:aR L s=aR L k
  ·have d1:(((aR L s:Nat):Int)==((aR L k:Nat):Int))=true:=al;have M:bR p s k:=f.sub s k e;refine bh d1 (fw aO) T (V _ (au.refl _)) Y (g _ (au.refl _)) ?_;refine yB (adv ap (d.wid _ u) (d.wid _ v) (λl aw=>⟨d.dD _ u l aw,d.ee _ u l aw⟩) (λl aw=>⟨d.dD _ v l aw,d.ee _ v l aw⟩) ?_ o s1 iC f a3 aa) ?_
   ·intro i cq r w B x aE y ax;have K:∀z,z∈cq++r->z∈p.ee s i\/z∈p.ee k i:=(by grind[abp]);rcases K x aE with ah|ah<;>rcases K y ax with ai|ai
    ·exact .field (.refl s) ah ai
    ·exact .field M ah ai
    ·exact .field (.symm M) ah ai
    ·exact .field (.refl k) ah ai
   rintro _ H1 ⟨L1,t1,rfl,aM,aP,z3,z4,z5⟩;refine⟨z5.1,?_⟩;have ay:rZ p L1 s k:=λ_ cO a c ab aA=>by
    obtain⟨cq,w,ah⟩:=LI ak ab;obtain⟨r,B,ai⟩:=LI aj aA;exact z4 cO cq r w B a (List.mem_append.2 (.inl ah)) c (List.mem_append.2 (.inr ai))
   have go:∀b',je b L b' L1->W (CW (aK P aG) N L18 L19 (tK (aK P aG) N L18 L19 q) (.ptr zX 0 0) x2 (D F (m:Nat)) (.ptr U 0 0) (C b') (D F (s:Nat)) (D F (k:Nat)) H1) Q:=λb' G=>by
    refine bG @CW.eq_1 R ?_;refine on H1 L1 b' ad ad aM (by have:=z5.1;omega) aP (aC.keep (z5.keep o)) (z5.get aO E) (λn t ba=> ?_) λS L2 g aB aD aF aI aL=>fin S L2 g aB aD (G.trans aF) aI (z5.trans aL)
    rcases Nat.lt_or_eq_of_le (Nat.le_of_lt_succ ba)with h|rfl
    ·obtain⟨aT,aU⟩:=G.off n;grind
    ·exact ay
   have aY:=z3.or (b:=b);refine bN ?_;grind
  ·have d1:(((aR L s:Nat):Int)==((aR L k:Nat):Int))=false:=al;refine bP d1 ?_;refine bG @CW.eq_1 R ?_;refine on H L b ad ad s1 iC f aC aO (λn t ba=> ?_) fin;rcases Nat.lt_or_eq_of_le (Nat.le_of_lt_succ ba)with h|rfl
   ·exact ar n t h
   ·exactλh=>absurd h e
theorem Od(e:fJ m p)(c:∀k,ok k->k≠zD)(d:zX≠zD){x2:af}{L18:af->af->af->af->af->ae->O}{Q:af->ae->Prop}{N:Nat}(n:60<N):∀(j k q:Nat) (H:ae) (L:List Nat) (b:Bool),k+j=m->j<q->eN U zD lv L H->zD<H.next->dN m p L->aH (bu (bu aN)) H ok (p.fields.map (·.map aQ)) fv->H.get zX=A (.row I 2 [[nv,fv]])->(b=I->∀s,s<k->∀t,t<m->rZ p L s t)->
  (∀(H':ae) (L':List Nat) (b':Bool),eN U zD lv L' H'->dN m p L'->je b L b' L'->(b'=I->∀s,s<m->∀t,t<m->rZ p L' s t)->g3 zD H H'->W (L18 (.ptr zX 0 0) x2 (D F (m:Nat)) (.ptr U 0 0) (C b') H') Q)->
  W (xQ (aK P aG) N L18 q (.ptr zX 0 0) x2 (D F (m:Nat)) (.ptr U 0 0) (C b) (D F (k:Nat)) H) Q
 |_,_,0,_,_,_,_,aJ,_,_,_,_,_,_,_=>ad
 |0,k,q+1,H,L,b,o,_,s1,iC,a,aC,aO,ar,fin=>by
  have E:¬(k:Int)<(m:Int):=ad;refine bG @xQ.eq_2 @CO.eq_1 ?_;obtain rfl:k=m:=ad;exact fin H L b s1 a (.refl a.hM) ar (.refl _ _)
 |j+1,k,q+1,H,L,b,o,aJ,s1,iC,a,aC,aO,ar,fin=>by
  have G:=e.hm;have on:=Od e c d (x2:=x2) (L18:=L18) (Q:=Q) n j (k+1) q;refine bG @xQ.eq_2 @CO.eq_1 ?_;refine Og e c d ad m 0 N H L b ad ad s1 iC a aC aO ad ?_;intro H1 L1 i z B z3 z4 z5;refine bP @ry.eq_1 ?_;refine on H1 L1 i ad ad z (by have:=z5.1;omega) B (aC.keep (z5.keep c)) (z5.get aO d) (λf s r=> ?_) λg L2 l u v w x y=>fin g L2 l u v (z3.trans w) x (z5.trans y)
  rcases Nat.lt_or_eq_of_le (Nat.le_of_lt_succ r)with h|rfl
  ·obtain⟨K,M⟩:=z3.off f;grind
  ·exact z4 f
theorem NU(d:fJ m p)(e:∀k,ok k->k≠zD)(f:zX≠zD){x2:af}{Q:af->ae->Prop}{N:Nat}(h:60<N):∀(q:Nat) (H:ae) (L:List Nat) (b:Bool),hA L+(if b then 1 else 0)<q->eN U zD lv L H->zD<H.next->dN m p L->hZ p L->aH (bu (bu aN)) H ok (p.fields.map (·.map aQ)) fv->H.get zX=A (.row I 2 [[nv,fv]])->(b=I->∀s,s<m->∀t,t<m->rZ p L s t)->
  (∀(H':ae) (L':List Nat),eN U zD lv L' H'->dN m p L'->hZ p L'->j7 p L'->g3 zD H H'->W (p3 (aK P aG) N (.ptr zX 0 0) x2 (D F (m:Nat)) (.ptr U 0 0) H') Q)->
  W (xP (aK P aG) N q (.ptr zX 0 0) x2 (D F (m:Nat)) (.ptr U 0 0) (C b) H) Q
 |0,_,_,_,aJ,_,_,_,_,_,_,_,_=>ad
 |q+1,H,L,b,aJ,s1,iC,l,aL,aC,aO,ar,fin=>by
  have on:=NU d e f (x2:=x2) (Q:=Q) h q;cases b with
  |false=>
   refine bG @xP.eq_2 @CN.eq_1 ?_;refine fin H L s1 l aL ⟨λs t k a c o i aA=> ?_⟩ (.refl _ _);have ah:=d.toMay.dD i;have ai:=d.toMay.dD aA;exact ar rfl s ah.2.1 t ai.2.1 o k a c i aA
  |true=>
   have B:=d.hm;refine bG @xP.eq_2 @CN.eq_1 ?_;refine Od d e f h m 0 N H L I ad ad s1 iC l aC aO ad ?_;intro H1 L1 g y z z3 z4 z5;have hle:=z3.j.qY;simp only[if_true]at aJ;refine on H1 L1 g ?_ y (by have:=z5.1;omega) z (aL.zn z3.j) (aC.keep (z5.keep e)) (z5.get aO f) z4 λn L2 r u v w x=>fin n L2 r u v w (z5.trans x)
   cases g with
   |false=>grind
   |true=>
    have:=z3.on rfl;grind
end
end
section
open Go.a_
set_option maxRecDepth 2000
def N1(l n:Nat)(aL:n<=1000000):gS (hL P ⟨.leaf,l⟩ 30 (D F n) (D F n)) l=A (.az l 0 n 1 (A n),.row I 1 (dJ (List.replicate n 0))):=by
 rw[qX (e:=3) (b:=8) (z:= D F 0) aF aF aF aF rfl rfl bZ bZ l n ad];simp[dJ,af.cells]
def ahv{H:ae}{zC n:Nat}{a b c:af}{v:Nat}(g:H.get zC=A (.row I 4 [a7 n a b c])):cr P H 3 (.ptr zC 0 0) (D F (v:Nat))=A (H.set zC (.row I 4 [a7 v a b c])):=by
 rw[e4 (n:=1) aF g rfl rfl rfl bZ];rfl
def DX{H:ae}{W:List Int}{zC:Nat}{ro:Bool}(g:H.get zC=A (.row ro 1 (dJ W))){i:Nat}{w:Int}(h:W[i]? =A w):aI P H 3 (.ptr zC i 0)=A (D F w):=by
 rw[e0 rO g (nZ h)];rfl
def DZ{H:ae}{W:List Int}{zC:Nat}(g:H.get zC=A (.row I 1 (dJ W))){i:Nat}(aP:i<W.length)(w:Int):cr P H 3 (.ptr zC i 0) (D F w)=A (H.set zC (.row I 1 (dJ (W.set i w)))):=by
 rw[e4 Dk g (nZ (List.getElem?_eq_getElem aP)) rfl rfl ad,<-DY];rfl
section
variable {U zD zX m:Nat}{lv:af}{p:c8}{nv fv:af}{ok:Nat->Prop}{L:List Nat}
theorem eN.e3{H H':ae}{B:Nat}(s:eN U zD lv L H)(p:cl B H H')(ah:U<B)(ai:zD<B):eN U zD lv L H':=by
 refine⟨(p.2 U ah).trans s.lJ,?_⟩;rcases s.lv with h|⟨a,rest,b,c,d⟩
 ·grind
 ·exact .inr ⟨a,rest,b,(p.2 zD ai).trans c,d⟩
theorem Ob{x1 x2:af}{zC K:Nat}(hm:m<=60)(R:zC<K)(T:U<zC)(S:zD<zC)(c:dN m p L)(aL:hZ p L)(aA:j7 p L){Q:af->ae->Prop}{N:Nat}:∀(j k q:Nat) (H:ae) (a:List Int),k+j=m->j<q->eN U zD lv L H->H.get zC=A (.row I 1 (dJ a))->a.length=m->(∀t,t<k->a[t]? =A ((db (bR p) t:Nat):Int))->H.get K=A (.row I 4 [a7 (dw (bR p) k).length (.az zC 0 m 1 (A m)) .ao .ao])->
  (∀(H':ae),cl zC H H'->(∀z,z<H.next->z≠zC->z≠K->H'.get z=H.get z)->H'.next=H.next->H'.get zC=A (.row I 1 (dJ (aQ ((List.range m).map (db (bR p))))))->H'.get K=A (.row I 4 [a7 (dw (bR p) m).length (.az zC 0 m 1 (A m)) .ao .ao])->W (xL (aK P aG) N x1 x2 (D F (m:Nat)) (.ptr U 0 0) (.ptr K 0 0) H') Q)->
  W (xO (aK P aG) N q x1 x2 (D F (m:Nat)) (.ptr U 0 0) (.ptr K 0 0) (D F (k:Nat)) H) Q
 |_,_,0,_,_,_,aJ,_,_,_,_,_,_=>ad
 |0,k,q+1,H,a,aa,_,s,b4,V,hw,dX,fin=>by
  have ax:¬(k:Int)<(m:Int):=ad;refine bG @xO.eq_2 @CM.eq_1 ?_;obtain rfl:k=m:=ad;have e:a=aQ ((List.range k).map (db (bR p))):=by
   apply List.ext_getElem?;grind[aQ]
  refine fin H (.refl _ _) (λ_ _ _ _=>rfl) rfl al dX
 |j+1,k,q+1,H,a,aa,aJ,s,b4,V,hw,dX,fin=>by
  have g:k<m:=ad;have on:=Ob (x1:=x1) (x2:=x2) hm R T S c aL aA (Q:=Q) (N:=N) j (k+1) q;have aC:=ae.bq dX;have iB:=ae.bq b4;have dD:=n3 c aL aA g;have O:=fB (show k<=1000000000 by omega);have he:=(bR.jO p).eqv;have l:∀{i:Nat},i<m->ct P 30 (.az zC 0 m 1 (A m)) (D F (i:Nat))=A (.ptr zC i 0):=λaP=>nj b0 aP
  refine bG @xO.eq_2 @CM.eq_1 ?_;refine dK (pj s (by rw[c.len];omega)) ?_;have y:∀{H1:ae},H1.next=H.next->(∀z,z≠zC->z≠K->H1.get z=H.get z)->eN U zD lv L H1/\cl zC H H1:=λah ai=>⟨⟨(ai U ad ad).trans s.lJ,by
   rcases s.lv with h|⟨ap,rest,aq,ar,av⟩
   ·grind
   grind⟩,ad,λz b=>ai z ad ad⟩
  by_cases e:aR L k=k
  ·have d1:(((aR L k:Nat):Int)==(k:Int))=true:=al;have ay:eg (bR p) k=k:=ad;have E:db (bR p) k=(dw (bR p) k).length:=by grind[db]
   have Y:(dw (bR p) (k+1)).length=(dw (bR p) k).length+1:=by
    grind[dw,mJ]
   have aB:=vi (bR p) k;generalize (dw (bR p) k).length=cnt at*;have n:=DZ b4 (i:=k) ad ((cnt:Nat):Int);have d:∀z,z≠zC->(H.set zC (.row I 1 (dJ (a.set k ((cnt:Nat):Int))))).get z=H.get z:=λz b=>ae.b8 (Ne.symm b)
   have B:(H.set zC (.row I 1 (dJ (a.set k ((cnt:Nat):Int))))).get K=A (.row I 4 [a7 cnt (.az zC 0 m 1 (A m)) .ao .ao]):=al;have aw:(H.set zC (.row I 1 (dJ (a.set k ((cnt:Nat):Int))))).get zC=A (.row I 1 (dJ (a.set k ((cnt:Nat):Int)))):=ae.cH iB;have cL:(H.set zC (.row I 1 (dJ (a.set k ((cnt:Nat):Int))))).next=H.next:=rfl
   have an:=fB (show cnt<=1000000000 by omega);refine cv d1 (fQ dX) (l g) n ?_;generalize H.set zC (.row I 1 (dJ (a.set k ((cnt:Nat):Int))))=H1 at*;have am:=ahv (v:=cnt+1) B;refine c_ (fQ B) an am @H_.eq_1 O ?_;have aj:∀z,z≠K->(H1.set K (.row I 4 [a7 (cnt+1) (.az zC 0 m 1 (A m)) .ao .ao])).get z=H1.get z:=(by grind[ae.b8]);have f2:=y (H1:=H1.set K (.row I 4 [a7 (cnt+1) (.az zC 0 m 1 (A m)) .ao .ao])) (by simp;omega) al;refine on _ (a.set k ((cnt:Nat):Int)) ad ad f2.1 al al (λt ba=> ?_) (by grind[ae.cH]) λf o r u w x=>fin f (f2.2.trans o) (λz b ah ai=>by rw[r z (by simp;omega) ah ai,aj z ai,d z ah]) (by rw[u];simp;omega) w x
   grind
  ·have d1:(((aR L k:Nat):Int)==(k:Int))=false:=al;have G:=kd he k;rw[<-dD]at G;have ab:aR L k<k:=ad;have E:db (bR p) (aR L k)=db (bR p) k:=(sq he).2 (he.symm G.1);have Y:(dw (bR p) (k+1)).length=(dw (bR p) k).length:=by
    grind[dw,mJ]
   have M:=hw (aR L k) ab;rw[E]at M;have ak:bF (A (.az zC 0 m 1 (A m))) (.az zC 0 m 1 (A m))=true:=by simp[bF,af.beq]
   have n:=DZ b4 (i:=k) ad ((db (bR p) k:Nat):Int);refine bP d1 ?_;refine dK (pj s (by rw[c.len];omega)) ?_;refine bh (fQ dX) (l (show aR L k<m by omega)) (DX b4 M) (l g) n (ag ak (ag @H_.eq_1 O)) ?_;have d:∀z,z≠zC->(H.set zC (.row I 1 (dJ (a.set k ((db (bR p) k:Nat):Int))))).get z=H.get z:=(by grind[ae.b8]);have f2:=y (H1:=H.set zC (.row I 1 (dJ (a.set k ((db (bR p) k:Nat):Int))))) rfl (λz ah ai=>d z ah);refine on _ (a.set k ((db (bR p) k:Nat):Int)) ad ad f2.1 (ae.cH iB) al (λt ba=> ?_) al λf o r u w x=>fin f (f2.2.trans o) (λz b ah ai=>by rw[r z (by simp;omega) ah ai,d z ah]) (by rw[u];rfl) w x
   grind
end
end
section
open Go.a_
set_option maxRecDepth 2000
section
variable {U zD zX m:Nat}{lv:af}{p:c8}{nv fv:af}{ok:Nat->Prop}{L:List Nat}
structure m7(p:c8)(U zD zX m:Nat)(lv nv fv:af)(L:List Nat)(zC K:Nat)(H:ae):Prop where
 fn:eN U zD lv L H
 aO:H.get zX=some (.row false 2 [[nv,fv]])
 aL:aH (bu aN) H (· <K) (p.nodes.map aQ) nv
 aC:aH (bu (bu aN)) H (· <K) (p.fields.map (·.map aQ)) fv
 b4:H.get zC=some (.row false 1 (dJ (aQ ((List.range m).map (db (bR p))))))
 E4:U<K
 iC:zD<K
 jm:zX<K
 iB:zC<K
def m7.e3{zC K:Nat}{H H':ae}(s:m7 p U zD zX m lv nv fv L zC K H)(q:cl K H H'):m7 p U zD zX m lv nv fv L zC K H':=
 ⟨s.fn.e3 q s.E4 s.iC,(q.2 zX s.jm).trans s.aO,s.aL.keep λk b a g=>⟨a,by rw[q.2 k a];exact g⟩,s.aC.keep λk b a g=>⟨a,by rw[q.2 k a];exact g⟩,(q.2 zC s.iB).trans s.b4,s.E4,s.iC,s.jm,s.iB⟩
theorem m7.cls{zC K:Nat}{H:ae}(s:m7 p U zD zX m lv nv fv L zC K H){t:Nat}(ba:t<m):ct P 30 (.az zC 0 m 1 (A m)) (D F (t:Nat))=A (.ptr zC t 0)/\aI P H 3 (.ptr zC t 0)=A (D F ((db (bR p) t:Nat):Int)):=
 ⟨nj b0 ba,DX s.b4 (lj al)⟩
theorem VL{R:Nat->Nat->Prop}:∀{l:List Nat} (h:0<l.length),h4 R l=((db R l[0]:Nat):Int)
 |[],h=>al
 |_::_,_=>rfl
theorem N8{x2:af}{zC K cnt:Nat}(d:fJ m p){Q:af->ae->Prop}{N:Nat}:∀(j k q:Nat) (H:ae) (pv:af),k+j=p.nodes.length->j<q->m7 p U zD zX m lv nv fv L zC K H->H.get K=A (.row I 4 [a7 cnt (.az zC 0 m 1 (A m)) pv .ao])->aY aN (K+1) bb H ((p.nodes.take k).map (h4 (bR p))) pv->
  (∀(H':ae) (pv:af),cl K H H'->H'.get K=A (.row I 4 [a7 cnt (.az zC 0 m 1 (A m)) pv .ao])->aY aN (K+1) bb H' (p.nodes.map (h4 (bR p))) pv->W (tI (aK P aG) N (.ptr zX 0 0) x2 (D F (m:Nat)) (.ptr U 0 0) (.ptr K 0 0) H') Q)->
  W (rz (aK P aG) N q (.ptr zX 0 0) x2 (D F (m:Nat)) (.ptr U 0 0) (.ptr K 0 0) (D F (k:Nat)) H) Q
 |_,_,0,_,_,_,aJ,_,_,_,_=>ad
 |0,k,q+1,H,pv,M,_,s,dX,h,fin=>by
  have ab:¬(k:Int)<(p.nodes.length:Int):=ad;have b:∀H0,bE P H0 .len [31] [nv]=A (D F p.nodes.length):=λH0=>by rw[s.aL.len dP,List.length_map]
  refine cv @rz.eq_2 @xJ.eq_1 (fw s.aO) b ?_;rw[List.take_of_length_le ad]at h;exact fin H pv (.refl _ _) dX h
 |j+1,k,q+1,H,pv,M,aJ,s,dX,h,fin=>by
  have O:k<p.nodes.length:=ad;have ah:=d.nn;have b:∀H0,bE P H0 .len [31] [nv]=A (D F p.nodes.length):=λH0=>by rw[s.aL.len dP,List.length_map]
  obtain⟨aj,w,f,g,a3⟩:=s.aL.pg (j:=(k:Int)) (a:=p.nodes[k]) ad al;have hm:=List.getElem_mem O;have G:=d.nodes _ hm;have on:=N8 (x2:=x2) (zC:=zC) (K:=K) (cnt:=cnt) d (Q:=Q) (N:=N) j (k+1) q;have ai:=ae.bq dX;have iJ:(p.nodes.take (k+1)).map (h4 (bR p))=(p.nodes.take k).map (h4 (bR p))++[h4 (bR p) p.nodes[k]]:=by grind[List.take_succ_eq_append_getElem]
  rw[iJ]at on;have t:∀H0,bE P H0 .len [30] [w]=A (D F p.nodes[k].length):=λH0=>by rw[a3.len b0,g1]
  have S:=fB (show k<=1000000000 by omega);have go:W (H9 (aK P aG) N (rz (aK P aG) N q) (.ptr zX 0 0) x2 (D F (m:Nat)) (.ptr U 0 0) (.ptr K 0 0) (D F (k:Nat)) (D F (h4 (bR p) p.nodes[k])) H) Q:=by
   generalize h4 (bR p) p.nodes[k]=z at*;obtain⟨e,H',y,i,l,B,aa⟩:=h.jU (a:=z) ad al;have E:H'.get K=A (.row I 4 [a7 cnt (.az zC 0 m 1 (A m)) pv .ao]):=by rw[l.2 K ad];omega
   have hle:H.next+1<=H'.next:=B
   refine bh @H9.eq_1 @CV.eq_1 (fQ dX) @c2 y (ag (R3 E i.az.one) S) ?_;have o:∀z,z≠K->(H'.set K (.row I 4 [a7 cnt (.az zC 0 m 1 (A m)) e .ao])).get z=H'.get z:=λz r=>ae.b8 (Ne.symm r)
   have pu:cl K H (H'.set K (.row I 4 [a7 cnt (.az zC 0 m 1 (A m)) e .ao])):=⟨by simp;omega,λz r=>by rw[o z ad,l.2 z ad]⟩;exact on _ e ad ad (s.e3 pu) (ae.cH ad) (i.p6 (λh=>h) _) λu R T V Y=>fin u R (pu.trans T) V Y
  by_cases n:0<p.nodes[k].length
  ·have d0:(0:Int)<(p.nodes[k].length:Int):=ad;obtain⟨ak,v,x⟩:=a3.int (j:=0) (a:=(p.nodes[k][0]:Int)) ad (by grind[lj]);obtain⟨a1,bd⟩:=s.cls (G _ (List.getElem_mem n));have c:h4 (bR p) p.nodes[k]=((db (bR p) p.nodes[k][0]:Nat):Int):=VL n;rw[c]at go;refine bh @rz.eq_2 @xJ.eq_1 (fw s.aO) b f (ag (g _ (au.refl _)) (ag t (ag v (ag x (ag (fQ dX) (ag a1 bd)))))) ?_;omega
  ·have d0:¬(0:Int)<(p.nodes[k].length:Int):=ad;have c:h4 (bR p) p.nodes[k]= -1:=by
    rw[List.eq_nil_of_length_eq_zero (show p.nodes[k].length=0 by omega)];rfl
   rw[c]at go;refine bh @rz.eq_2 @xJ.eq_1 (fw s.aO) b f (ag (g _ (au.refl _)) t) ?_;exact go
def Dx(p:c8)(m s f t:Nat)(z:Int):Prop:=(z= -1/\∀u,u<t->bR p s u->p.ee u f=[])\/∃a,a∈ku p (bR p) m s f/\z=((db (bR p) a:Nat):Int)
theorem Dx.end{s f:Nat}{z:Int}(h:Dx p m s f m z):z=h4 (bR p) (ku p (bR p) m s f):=by
 rcases h with⟨rfl,h⟩|⟨a,ah,rfl⟩
 ·have:ku p (bR p) m s f=[]:=by
   apply List.eq_nil_iff_forall_not_mem.2;grind[uX]
  rw[this];rfl
 ·exact(VM (bR.jO p).eqv ah YX).symm
theorem N5{x2:af}{zC K cnt s f:Nat}{pv qv iv:af}{H:ae}(c:fJ m p)(g:dN m p L)(aL:hZ p L)(aA:j7 p L)(w:s<m)(T:aR L s=s)(E:f<8)(st:m7 p U zD zX m lv nv fv L zC K H)(dX:H.get K=A (.row I 4 [a7 cnt (.az zC 0 m 1 (A m)) pv qv])){L5:af->af->af->af->af->af->ae->O}{L8:af->af->af->af->af->af->af->af->ae->O}{Q:af->ae->Prop}{N:Nat}
  (fin:W (xK (aK P aG) N L5 L8 (.ptr zX 0 0) x2 (D F (m:Nat)) (.ptr U 0 0) (.ptr K 0 0) (D F (s:Nat)) iv (D F (f:Nat)) (D F (h4 (bR p) (ku p (bR p) m s f))) H) Q):∀(j k q:Nat) (z:Int),k+j=m->j<q->Dx p m s f k z->
  W (xN (aK P aG) N L5 L8 q (.ptr zX 0 0) x2 (D F (m:Nat)) (.ptr U 0 0) (.ptr K 0 0) (D F (s:Nat)) iv (D F (f:Nat)) (D F z) (D F (k:Nat)) H) Q
 |_,_,0,_,_,aJ,_=>ad
 |0,k,q+1,z,M,_,d=>by
  have an:¬(k:Int)<(m:Int):=ad;refine bG @xN.eq_2 @CL.eq_1 ?_;obtain rfl:k=m:=ad;rw[d.end];omega
 |j+1,k,q+1,z,M,aJ,d=>by
  have S:k<m:=ad;have ap:=c.hm;have R:k<p.fields.length:=by rw[c.len];omega
  obtain⟨ar,ax,n,o,a3⟩:=st.aC.lists (j:=(k:Int)) (a:=p.fields[k]) ad al;have am:p.fields[k]? =A p.fields[k]:=al;have y:=List.getElem_mem R;have aj:=c.wid _ y;have G:f<p.fields[k].length:=ad;obtain⟨av,ab,r,t,v⟩:=a3.pg (j:=(f:Int)) (a:=p.fields[k][f]) ad al;have ak:p.fields[k][f]? =A p.fields[k][f]:=al;have Y:=List.getElem_mem G;have ah:p.ee k f=p.fields[k][f]:=by grind[c8.ee]
  have x:∀H0,bE P H0 .len [30] [ab]=A (D F p.fields[k][f].length):=λH0=>by rw[v.len b0,g1]
  have on:=N5 (x2:=x2) (iv:=iv) c g aL aA w T E st dX (L5:=L5) (L8:=L8) (Q:=Q) (N:=N) fin j (k+1) q;have l:=fB (show k<=1000000000 by omega);have ai:=n3 g aL aA S;have fls:=n3 g aL aA w;have he:=(bR.jO p).eqv;have aa:aR L k=s->bR p s k:=(by grind[pe]);refine bG @xN.eq_2 @CL.eq_1 ?_;refine dK (pj st.fn (by rw[g.len];omega)) ?_;by_cases e:aR L k=s
  ·have d1:(((aR L k:Nat):Int)==(s:Int))=true:=al;have aq:=aa e;by_cases B:0<p.fields[k][f].length
   ·have d0:(0:Int)<(p.fields[k][f].length:Int):=ad;obtain⟨aw,a1,bd⟩:=v.int (j:=0) (a:=(p.fields[k][f][0]:Int)) ad (by grind[lj]);obtain⟨b,i⟩:=st.cls (c.ee _ y _ Y _ (List.getElem_mem B));refine bh d1 (fw st.aO) n (o _ (au.refl _)) r (ag (t _ (au.refl _)) (ag x (ag (fQ dX) (ag a1 (ag bd (ag b (ag i (ag @CU.eq_1 l)))))))) ?_;exact on _ ad ad (.inr (by grind[uX]))
   ·have d0:¬(0:Int)<(p.fields[k][f].length:Int):=ad;refine bh d1 (fw st.aO) n (o _ (au.refl _)) r (ag (t _ (au.refl _)) (ag x (ag @CU.eq_1 l))) ?_;refine on z ad ad ?_;rcases d with⟨b,i⟩|h
    ·refine .inl ⟨b,λu hu V=> ?_⟩;grind
    ·exact .inr h
  ·have d1:(((aR L k:Nat):Int)==(s:Int))=false:=al;refine b3 d1 @CU.eq_1 l ?_;refine on z ad ad ?_;rcases d with⟨b,i⟩|h
   ·refine .inl ⟨b,λu hu V=> ?_⟩;grind[pe]
   ·exact .inr h
end
end
section
open Go.a_
set_option maxRecDepth 2000
section
variable {U zD zX m:Nat}{lv:af}{p:c8}{nv fv:af}{ok:Nat->Prop}{L:List Nat}
noncomputable def n4(p:c8)(m s k:Nat):List Int:=(List.range k).map λf=>h4 (bR p) (ku p (bR p) m s f)
theorem Yo(p:c8)(m s k:Nat):n4 p m s (k+1)=n4 p m s k++[h4 (bR p) (ku p (bR p) m s k)]:=by grind[n4,List.range_succ]
theorem N6{x2:af}{zC K E cnt s:Nat}{pv qv:af}(b:fJ m p)(o:dN m p L)(aL:hZ p L)(aA:j7 p L)(l:s<m)(i:aR L s=s)(g:K<E){L5:af->af->af->af->af->af->ae->O}{Q:af->ae->Prop}{N:Nat}(B:61<N):∀(j k q:Nat) (H:ae) (iv:af),k+j=8->j<q->m7 p U zD zX m lv nv fv L zC K H->H.get K=A (.row I 4 [a7 cnt (.az zC 0 m 1 (A m)) pv qv])->E<=H.next->aY aN E bb H (n4 p m s k) iv->
  (∀(H':ae) (iv:af),cl E H H'->aY aN E bb H' (n4 p m s 8) iv->W (p4 (aK P aG) N L5 (.ptr zX 0 0) x2 (D F (m:Nat)) (.ptr U 0 0) (.ptr K 0 0) (D F (s:Nat)) iv H') Q)->
  W (xU (aK P aG) N L5 q (.ptr zX 0 0) x2 (D F (m:Nat)) (.ptr U 0 0) (.ptr K 0 0) (D F (s:Nat)) iv (D F (k:Nat)) H) Q
 |_,_,0,_,_,_,aJ,_,_,_,_,_=>ad
 |j,k,q+1,H,iv,d,aJ,st,dX,y,h,fin=>by
  have G:s<p.fields.length:=by rw[b.len];omega
  obtain⟨ai,S,e,f,a3⟩:=st.aC.lists (j:=(s:Int)) (a:=p.fields[s]) ad al;have x:=b.wid _ (List.getElem_mem G);have n:∀H0,bE P H0 .len [31] [S]=A (D F 8):=λH0=>by rw[a3.len dP,List.length_map,x];rfl
  match j,d,aJ with
  |0,d,_=>
   have aa:¬(k:Int)<8:=ad;refine bh @xU.eq_2 @CT.eq_1 (fw st.aO) e (f _ (au.refl _)) n ?_;obtain rfl:k=8:=ad;exact fin H iv (.refl _ _) h
  |j+1,d,aJ=>
   have on:=N6 (x2:=x2) (zC:=zC) (cnt:=cnt) (pv:=pv) (qv:=qv) b o aL aA l i g (L5:=L5) (Q:=Q) B j (k+1) q;have ab:=b.hm;refine bh @xU.eq_2 @CT.eq_1 (fw st.aO) e (f _ (au.refl _)) n ?_;refine N5 b o aL aA l i ad st dX ?_ (m-s) s N (-1) ad ad (.inl ⟨rfl,λu hu M=> ?_⟩)
   ·rw[Yo]at on;generalize h4 (bR p) (ku p (bR p) m s k)=z at*;obtain⟨R,H',t,v,c,w,Y⟩:=h.jU (a:=z) y (by simp[n4];omega);have hle:H.next+1<=H'.next:=w
    refine cv @xK.eq_1 @tJ.eq_1 @c2 t ?_;exact on H' R ad ad (st.e3 (c.le ad)) (by rw[c.2 K g];omega) ad v λr i2 T V=>fin r i2 (c.trans T) V
   ·have ah:=(kd (bR.jO p).eqv s).2.2 u M;grind[n3]
theorem N4{x2:af}{zC K cnt:Nat}{pv:af}{lsn:List Int}(g:fJ m p)(c:dN m p L)(aL:hZ p L)(aA:j7 p L){Q:af->ae->Prop}{N:Nat}(t:61<N):∀(j k q:Nat) (H:ae) (E:Nat) (qv:af),k+j=m->j<q->m7 p U zD zX m lv nv fv L zC K H->H.get K=A (.row I 4 [a7 cnt (.az zC 0 m 1 (A m)) pv qv])->K<E->E<=H.next->aH aN H (λz=>K+1<=z/\z<E) lsn pv->aY (bu aN) E (E<= ·) H ((dw (bR p) k).map λr=>n4 p m r 8) qv->
  (∀(H':ae) (qv:af),cl K H H'->H'.get K=A (.row I 4 [a7 cnt (.az zC 0 m 1 (A m)) pv qv])->aH aN H' (λz=>K+1<=z) lsn pv->aH (bu aN) H' (λz=>K+1<=z) ((dw (bR p) m).map λr=>n4 p m r 8) qv->W (mS (aK P aG) N x2 (.ptr K 0 0) H') Q)->
  W (xT (aK P aG) N q (.ptr zX 0 0) x2 (D F (m:Nat)) (.ptr U 0 0) (.ptr K 0 0) (D F (k:Nat)) H) Q
 |_,_,0,_,_,_,_,aJ,_,_,_,_,_,_,_=>ad
 |0,k,q+1,H,E,qv,O,_,st,dX,f,s,aw,h,fin=>by
  have ab:¬(k:Int)<(m:Int):=ad;refine bG @xT.eq_2 @CS.eq_1 ?_;obtain rfl:k=m:=ad;exact fin H qv (.refl _ _) dX (aw.keep (.le ad)) (h.az.keep (.le ad))
 |j+1,k,q+1,H,E,qv,O,aJ,st,dX,f,s,aw,h,fin=>by
  have u:k<m:=ad;have ah:=g.hm;have on:=N4 (x2:=x2) (cnt:=cnt) (pv:=pv) (lsn:=lsn) (zC:=zC) (K:=K) g c aL aA (Q:=Q) t j (k+1) q;have w:=fB (show k<=1000000000 by omega);have dD:=n3 c aL aA u;refine bG @xT.eq_2 @CS.eq_1 ?_;refine dK (pj st.fn (by rw[c.len];omega)) ?_;by_cases e:aR L k=k
  ·have d1:(((aR L k:Nat):Int) != (k:Int))=false:=al;have rs:dw (bR p) (k+1)=dw (bR p) k++[k]:=by grind[dw,mJ]
   rw[rs,List.map_append]at on;refine bP d1 ?_;refine N6 g c aL aA u e ad t 8 0 N H .ao ad ad st dX Nat.le.refl (aY.nil _ _ _ _) ?_;intro H1 iv pu aP;have i:au H H1:=pu.aB;have aj:=vi (bR p) k;obtain⟨l,H',y,n,d,aa⟩:=h.sd dP s i (aP.kJ fx) al;have G:=i.get dX;have B:H'.get K=A (.row I 4 [a7 cnt (.az zC 0 m 1 (A m)) pv qv]):=by rw[d.2 K f];omega
   refine bh @p4.eq_1 @nC.eq_1 (fQ G) (λz0=>rH z0 aP.az.one) y (ag (R4 B n.az.one) w) ?_;have o:∀z,z≠K->(H'.set K (.row I 4 [a7 cnt (.az zC 0 m 1 (A m)) pv l])).get z=H'.get z:=(by grind[ae.b8]);have ai:=i.1;have v:cl K H (H'.set K (.row I 4 [a7 cnt (.az zC 0 m 1 (A m)) pv l])):=⟨by simp;omega,λz a=>by rw[o z ad,d.2 z ad]⟩;refine on _ E l ad ad (st.e3 v) (ae.cH ad) f (by simp;omega) (aw.keep λz b a M=>⟨a,by rw[o z ad,d.2 z a.2];omega⟩) (n.keep λz b a M=>al) λx R S T V Y=>fin x R (v.trans S) T V Y
  ·have d1:(((aR L k:Nat):Int) != (k:Int))=true:=al;have rs:dw (bR p) (k+1)=dw (bR p) k:=by grind[dw,mJ]
   rw[rs]at on;refine b3 d1 @nC.eq_1 w ?_;grind
end
def adm{H:ae}{ok:Nat->Prop}{m:Nat}{p:c8}{nv fv:af}(h:fJ m p)(E:aH (bu aN) H ok (p.nodes.map aQ) nv)(v:aH (bu (bu aN)) H ok (p.fields.map (·.map aQ)) fv):
  W (aK P aG 83 [.agg [nv,fv]] H) λr H'=>∃aj,r= .tuple [aj,D F 0]/\hX H' (λL=>H.next<=L) (merge p m) aj/\au H H':=by
 have hm:=h.hm;have bL:=h.nn;refine afB (p.nodes.length+m+100) ?_;generalize bJ:p.nodes.length+m+100=N;obtain⟨zX,u⟩:∃zX,zX=H.next:=⟨_,rfl⟩
 have ah:fj H.next (.agg [nv,fv])=A (.ptr H.next 0 0,.row I 2 [[nv,fv]]):=mg _ _ (by simp[E.one,v.one])
 have bo:=au.push H (.row I 2 [[nv,fv]]);have aO:=ae.a2 H (.row I 2 [[nv,fv]]);have aM:=au.push (H.push (.row I 2 [[nv,fv]])) (.row I 4 [a7 0 .ao .ao .ao]);have cj:=ae.a2 (H.push (.row I 2 [[nv,fv]])) (.row I 4 [a7 0 .ao .ao .ao]);have y:=aM.get aO;have cL:(H.push (.row I 2 [[nv,fv]])).next=zX+1:=by rw[u];rfl
 have bt:∀(k:af->ae->O),e5 (H.push (.row I 2 [[nv,fv]])) [D F 0,.ao,.ao,.ao] k=k (.ptr (zX+1) 0 0) ((H.push (.row I 2 [[nv,fv]])).push (.row I 4 [a7 0 .ao .ao .ao])):=λk=>by rw[iL,iN,cL];rfl
 rw[cL]at cj;rw[<-u]at y;rw[<-u]at ah;simp only[Rp,<-u,ah,kM,bt];have w:=bo.trans aM;generalize bf:(H.push (.row I 2 [[nv,fv]])).push (.row I 4 [a7 0 .ao .ao .ao])=aT at*;have bO:aT.next=zX+2:=by rw[<-bf,u];rfl
 refine bP (mE y) ?_;refine bw (aib h (E.aB w) (v.aB w)) λaU V=> ?_
 have bd:=V.get y;have bk:∀H0,bE P H0 .len [152] [fv]=A (D F m):=λH0=>by rw[v.len nr,List.length_map,h.len]
 refine bG (fw bd) bk ?_;refine cK (Yt ad) ?_;rintro _ aa ⟨zD,lv,rfl,R,bh,bM,aL⟩;refine⟨aL.1,?_⟩;obtain⟨U,bg⟩:∃U,U=aU.next:=⟨_,rfl⟩
 rw[<-bg]at R bh ⊢;have M:=V.trans aL;have bA:=V.1;have ar:=M.get y;have a5:=M.get cj;have G:dm H ok aa (· <zX):=λz b _ g=>⟨by have:=ae.bq g;omega,M.get (w.get g)⟩
 have bN:=ae.bq R.lJ;have bK:(List.range m).length=m:=aX;refine NZ h (ok:=(· <zX)) (λk (bi:k<zX)=>ad) ad ad p.nodes.length 0 N aa (List.range m) ad ad R (dN.start m p) (E.keep G) ar (λl aw=>al) ?_;intro ab L5 a0 aF bl o;have av:=o.get ar ad;have a6:=o.get a5 ad;have K:dm H ok ab (· <zX):=λz b d g=>⟨(G z b d g).1,o.get (G z b d g).2 (by have:=(G z b d g).1;omega)⟩
 rw[tH];refine NU h (ok:=(· <zX)) (λk (bi:k<zX)=>ad) ad ad N ab L5 J (by have:=Ox L5;have:=aF.len;grind) a0 (by have:=o.1;omega) aF bl (v.keep K) av (λe=>by cases e) ?_;intro j L6 a1 aI aJ ai s;have be:=s.get av ad;have a8:=s.get a6 ad;have bC:=o.1;have bD:=s.1;have aA:dm H ok j (· <zX):=λz b d g=>⟨(K z b d g).1,s.get (K z b d g).2 (by have:=(K z b d g).1;omega)⟩
 obtain⟨zC,S⟩:∃zC,zC=j.next:=⟨_,rfl⟩
 have bn:=au.push j (.row I 1 (dJ (List.replicate m 0)));have b4:=ae.a2 j (.row I 1 (dJ (List.replicate m 0)));have aZ:ei P 33 [(1,.az zC 0 m 1 (A m))]=A (.agg [D F 0,.az zC 0 m 1 (A m),.ao,.ao]):=JX rfl;have mk:=N1 j.next m ad
 rw[<-S]at b4 mk;have n7:(j.push (.row I 1 (dJ (List.replicate m 0)))).next=zC+1:=by rw[S];rfl
 refine cv @p3.eq_1 S.symm mk aZ ?_;generalize j.push (.row I 1 (dJ (List.replicate m 0)))=f at*;have aP:=au.push f (.row I 4 [a7 0 (.az zC 0 m 1 (A m)) .ao .ao]);have dX:=ae.a2 f (.row I 4 [a7 0 (.az zC 0 m 1 (A m)) .ao .ao]);have st:=i_ (n:=0) (a:= .az zC 0 m 1 (A m)) (b:= .ao) (c:= .ao) (ae.a2 f (.row I 4 [a7 0 .ao .ao .ao])) rfl rfl rfl rfl;have dk:(f.push (.row I 4 [a7 0 .ao .ao .ao])).set f.next (.row I 4 [a7 0 (.az zC 0 m 1 (A m)) .ao .ao])=f.push (.row I 4 [a7 0 (.az zC 0 m 1 (A m)) .ao .ao]):=ae.gU Nat.le.refl Nat.le.refl
 rw[dk,n7]at st;rw[n7]at dX;have n8:(f.push (.row I 4 [a7 0 (.az zC 0 m 1 (A m)) .ao .ao])).next=zC+2:=by show f.next+1=_;omega
 have br:cr P (f.push (.row I 4 [[D F 0,.ao,.ao,.ao]])) 33 (.ptr (zC+1) 0 0) (.agg [D F 0,.az zC 0 m 1 (A m),.ao,.ao])=A (f.push (.row I 4 [a7 0 (.az zC 0 m 1 (A m)) .ao .ao])):=st;have hle:(f.push (.row I 4 [[D F 0,.ao,.ao,.ao]])).next<=(f.push (.row I 4 [a7 0 (.az zC 0 m 1 (A m)) .ao .ao])).next:=Nat.le.refl
 refine bP br ?_;have q:=bn.trans aP;have a_:=aP.get b4;have bx:=q.get be;have a9:=q.get a8;have ak:=a1.aB q;have T:dm H ok (f.push (.row I 4 [a7 0 (.az zC 0 m 1 (A m)) .ao .ao])) (· <zX):=λz b d g=>⟨(aA z b d g).1,q.get (aA z b d g).2⟩
 generalize f.push (.row I 4 [a7 0 (.az zC 0 m 1 (A m)) .ao .ao])=aV at*;have z0:(dw (bR p) 0).length=0:=rfl;refine Ob hm (show zC<zC+1 by omega) ad ad aI aJ ai m 0 N aV (List.replicate m 0) ad ad ak a_ aX (λt ba=>ad) al ?_;intro x Q bQ n10 an bb;rw[xL];have aS:m7 p U zD zX m lv nv fv L6 zC (zC+1) x:=by
  have ax:dm H ok x (· <zC+1):=λz b d g=>⟨by have:=(T z b d g).1;omega,by rw[Q.2 z (by have:=(T z b d g).1;omega)];exact(T z b d g).2⟩
  exact⟨ak.e3 Q ad ad,al,E.keep ax,v.keep ax,an,ad,ad,ad,ad⟩
 have a3:x.get (zX+1)=_:=(Q.2 (zX+1) ad).trans a9;refine N8 h p.nodes.length 0 N x .ao ad ad aS bb (aY.nil _ _ _ _) ?_;intro Y pv aR aq aC;rw[tI];refine N4 h aI aJ ai ad m 0 N Y Y.next .ao ad ad (aS.e3 aR) aq (ae.bq aq) Nat.le.refl ((aC.kJ fx).keep λz b d g=>⟨⟨d,ae.bq g⟩,g⟩) (aY.nil _ _ _ _) ?_
 intro i qv bp bc aE f12;have pu:=aR.trans bp;have am:i.get (zX+1)=_:=(pu.2 (zX+1) ad).trans a3;have bv:=(pu.2 zC ad).trans an;have bj:=ae.bq am;have bs:=i_ (n:=(dw (bR p) m).length) (a:= .az zC 0 m 1 (A m)) (b:=pv) (c:=qv) am rfl rfl aE.one f12.one;have a4:(i.set (zX+1) (.row I 4 [a7 (dw (bR p) m).length (.az zC 0 m 1 (A m)) pv qv])).get (zX+1)=A (.row I 4 [a7 (dw (bR p) m).length (.az zC 0 m 1 (A m)) pv qv]):=ae.cH bj;have bm:∀z,z≠zX+1->(i.set (zX+1) (.row I 4 [a7 (dw (bR p) m).length (.az zC 0 m 1 (A m)) pv qv])).get z=i.get z:=λz d=>ae.b8 (Ne.symm d)
 refine cv @mS.eq_1 (iE bc) bs (iE a4) ?_;have bF:=pu.1;have bH:=w.1;have bz:=q.1;have ay:∀{B:Nat},zC<=B->dm i (λz=>B<=z) (i.set (zX+1) (.row I 4 [a7 (dw (bR p) m).length (.az zC 0 m 1 (A m)) pv qv])) (λL=>zX<=L):=λbI z b (d:_<=z) g=>⟨ad,al⟩
 have ap:(i.set (zX+1) (.row I 4 [a7 (dw (bR p) m).length (.az zC 0 m 1 (A m)) pv qv])).get zC=A (.row I 1 (dJ (aQ ((List.range m).map (db (bR p)))))):=al;refine aD.2 ⟨_,rfl,⟨.az zC 0 m 1 (A m),pv,qv,rfl,?_,?_,?_,?_⟩,by simp;omega,λz d=> ?_⟩
 ·have e:dJ (aQ ((List.range m).map (db (bR p))))=et ((List.range m).map (db (bR p))):=by simp[dJ,et,aQ]
  rw[e]at ap;exact Is (m:=m) aX ap (λL=>zX<=L) ad
 ·exact aE.keep (ay ad)
 ·have e:(merge p m).fields=(dw (bR p) m).map λr=>n4 p m r 8:=rfl
  rw[e];exact f12.keep (ay ad)
 ·exact aC.cap
 ·rw[bm z ad,pu.2 z ad,Q.2 z ad,q.2 z ad,s.2 z ad ad,o.2 z ad ad,M.2 z ad,w.2 z d]
end
end Go.Proofs.YtmhhnnklfcbgfaaGreat
namespace Go.a_
open Go.cw
open Classical
structure nQ(fs:List (List Int))(roots:List Int)(met:List Bool):Prop where
 len:met.length=fs.length
 snd:∀c:Nat,di met c=true->g4 fs roots c
def tZ(fs:List (List Int))(met:List Bool)(c:Nat):Prop:=di met c=J->∀f,fs[c]? =A f->∀d:Nat,(d:Int)∈f->d<fs.length->di met d=J
theorem nQ.set{fs:List (List Int)}{roots:List Int}{met:List Bool}(h:nQ fs roots met){d:Nat}(a:d<fs.length)(ar:g4 fs roots d):nQ fs roots (met.set d J):=by
 refine⟨by rw[List.length_set];exact h.len,λc aA=> ?_⟩;rcases(yR (by rw[h.len];omega)).1 aA with rfl|ah
 ·omega
 ·exact h.snd c ah
def nQ.list{fs:List (List Int)}{roots:List Int}{met:List Bool}(h:nQ fs roots met)(ar:∀n:Nat,(n:Int)∈roots->n<fs.length->di met n=J)(aA:∀c,c<fs.length->tZ fs met c):
  iK met 0=(fE fs roots).map λ(n:Nat)=>(n:Int):=by
 have aP:∀c:Nat,di met c=J↔g4 fs roots c:=by
  intro c;refine⟨h.snd c,λb=> ?_⟩
  induction b with
  |root ah ai=>grind
  |step _ aC a aw i=>exact aA _ (by grind) i _ aC _ a aw
 have:=Dj (m:=fs.length) (p:=g4 fs roots) (bs:=met) (k:=0) (by have:=h.len;omega) (by grind[yS]);grind[fE,List.filter_eq_self]
structure l4(t:Bool)(l:List Bool)(b:Bool)(a:List Bool):Prop where
 len:a.length=l.length
 le:k8 l<=k8 a
 on:b=true->t=true\/k8 l<k8 a
 off:b=false->t=false/\a=l
 up:∀c,di l c=true->di a c=true
theorem l4.refl(t:Bool)(l:List Bool):l4 t l t l:=⟨rfl,(by omega),.inl,λh=>⟨h,rfl⟩,λ_ h=>h⟩
theorem l4.trans{t j m:Bool}{l g i:List Bool}(h:l4 t l j g)(k:l4 j g m i):l4 t l m i:=
 ⟨k.len.trans h.len,Nat.le_trans h.le k.le,λe=>by
  rcases k.on e with f|f
  ·rcases h.on f with n|n
   ·grind
   ·exact .inr (by have:=k.le;omega)
  ·exact .inr (by have:=h.le;omega),λe=>by
  obtain⟨a,b⟩:=k.off e;obtain⟨c,d⟩:=h.off a;grind,λc q=>k.up c (h.up c q)⟩
theorem l4.set{t:Bool}{l:List Bool}{s:Nat}(h:l[s]? =A I):l4 t l J (l.set s J):=by
 have ah:=Ft h;exact⟨List.length_set,by omega,(by omega),λe=>(by cases e),(by grind[yR])⟩
theorem nQ.start(fs:List (List Int))(roots:List Int):nQ fs roots (List.replicate fs.length I):=
 ⟨by simp,(by grind[Kb])⟩
def gH:List Int->Int->List Int
 |[],v=>[v]
 |a::ft,v=>if a<v then a::gH ft v else if a=v then a::ft else v::a::ft
theorem Fj{v b:Int}:∀{l:List Int},b∈gH l v↔b=v\/b∈l
 |[]=>by simp[gH]
 |a::ft=>by
  have:=Fj (v:=v) (b:=b) (l:=ft);grind[gH]
def fL(l:List Int):Prop:=l.Pairwise (· < ·)
def PT{v:Int}:∀{l:List Int},fL l->fL (gH l v)
 |[],_=>by simp[gH,fL]
 |a::ft,h=>by
  unfold fL at h ⊢;rw[List.pairwise_cons]at h;unfold gH;split
  ·rw[List.pairwise_cons];refine⟨λb c=> ?_,PT h.2⟩;grind[Fj]
  grind[List.pairwise_cons]
theorem Aa{v:Int}:∀{l:List Int},(gH l v).length<=l.length+1
 |[]=>by simp[gH]
 |a::ft=>by
  have:=Aa (v:=v) (l:=ft);grind[gH]
def Pg{v:Int}:∀{l:List Int},l.length<=(gH l v).length
 |[]=>by grind
 |a::ft=>by
  have:=Pg (v:=v) (l:=ft);grind[gH]
def Ph{v:Int}:∀{l:List Int},fL l->v∈l->gH l v=l
 |[],_,h=>by grind
 |a::ft,ar,h=>by
  unfold fL at ar;rw[List.pairwise_cons]at ar;unfold gH;split
  ·rcases List.mem_cons.1 h with rfl|ah
   ·omega
   ·rw[Ph ar.2 ah]
  grind
def Pj{v:Int}:∀{l:List Int},v∉l->(gH l v).length=l.length+1
 |[],_=>by simp[gH]
 |a::ft,h=>by
  simp only[List.mem_cons,not_or]at h;have:=Pj (v:=v) (l:=ft) h.2;grind[gH]
theorem PO:∀{l r:List Int},fL l->fL r->(∀a,a∈l↔a∈r)->l=r
 |[],[],_,_,_=>rfl
 |[],b::r,_,_,h=>by have:=(h b).2 (by simp);grind
 |a::l,[],_,_,h=>by have:=(h a).1 (by simp);grind
 |a::l,b::r,aw,ar,h=>by
  unfold fL at aw ar;rw[List.pairwise_cons]at aw ar;have e:a=b:=by
   have ah:=(h a).1 (by simp);have ai:=(h b).2 (by simp);grind
  subst e;rw[PO (l:=l) (r:=r) aw.2 ar.2 λc=> ?_];grind
def adj{l:List Nat}(h:l.Pairwise (· < ·)):fL (l.map λ(n:Nat)=>(n:Int)):=by
 grind[fL]
theorem PS(m:Nat)(p:Nat->Prop):fL ((c7 m p).map λ(n:Nat)=>(n:Int)):=adj (va m p)
def F3{m:Nat}{p:Nat->Prop}{l:List Int}(h:fL l)(hm:∀a∈l,∃n:Nat,a=n/\n<m/\p n)(b:∀n:Nat,n<m->p n->(n:Int)∈l):l=(c7 m p).map λ(n:Nat)=>(n:Int):=by
 grind[PO,PS,g_]
def Ai{m:Nat}{l:List Int}(h:fL l)(hm:∀a∈l,0<=a/\a<m):l.length<=m:=by
 have:=F3 (m:=m) (p:=λn=>(n:Int)∈l) h (λa b=>⟨a.toNat,by grind,by grind,by grind⟩) λn _ aL=>aL
 grind[c7]
def gZ(l:List Int):List Int->List Int
 |[]=>l
 |a::ft=>gZ (gH l a) ft
theorem zO{b:Int}:∀{r l:List Int},b∈gZ l r↔b∈l\/b∈r
 |[],l=>by simp[gZ]
 |a::r,l=>by
  rw[gZ,zO (r:=r),Fj];grind
theorem vl:∀{r l:List Int},fL l->fL (gZ l r)
 |[],_,h=>h
 |a::r,l,h=>by rw[gZ];exact vl (PT h)
def sj(a b:List Int):List Int:=gZ (gZ [] a) b
def NP{a b:List Int}{c:Int}:c∈sj a b↔c∈a\/c∈b:=by
 grind[sj,zO]
def PM(a b:List Int):fL (sj a b):=vl (vl List.Pairwise.nil)
def hN(a b:List Int):List Int:=a.filter λc=>decide (c∉b)
theorem Fi{a b:List Int}{c:Int}:c∈hN a b↔c∈a/\c∉b:=by simp[hN]
def PR{a b:List Int}(h:fL a):fL (hN a b):=List.Pairwise.filter _ h
end Go.a_
namespace Go.Proofs.YtmhhnnklfcbgfaaGreat
open Go.cw
open Nat (reduceAdd reduceLeDiff)
section
open Go.a_
set_option maxRecDepth 2000
section
variable {H:ae}{ok ok':Nat->Prop}
theorem PL{l r:List Int}{v w:af}(h:aH aN H ok l v)(ai:aH aN H ok' r w)(aw:l.length=r.length)(b:l.length<=1000000000){N:Nat}:∀(j k m:Nat),k+j=l.length->j<m->l.take k=r.take k->W (vT (aK P aG) N m v w (D F (k:Nat)) H) λq H'=>q= C (decide (l=r))/\H'=H
 |_,_,0,_,hm,_=>ad
 |0,k,m+1,c,_,aL=>by
  have i:¬(k:Int)<(l.length:Int):=ad;refine cv @vT.eq_2 @A5.eq_1 @Gx.eq_1 (h.bg b0) ?_;grind[aD]
 |j+1,k,m+1,c,hm,aL=>by
  have n:k<l.length:=ad;have o:k<r.length:=ad;obtain⟨p,d,e⟩:=h.int (j:=(k:Int)) (a:=l[k]) ad al;obtain⟨s,f,g⟩:=ai.int (j:=(k:Int)) (a:=r[k]) ad al;refine bh @vT.eq_2 @A5.eq_1 (h.bg b0) d e (ag f g) ?_;by_cases he:l[k]=r[k]
  ·rw[show(l[k] != r[k])=I by grind];refine bN ?_;refine PL h ai aw b j (k+1) m ad ad ?_;grind[List.take_succ_eq_append_getElem]
  ·rw[show(l[k] != r[k])=J by grind];refine bN ?_;refine aD.2 ⟨?_,rfl⟩;rw[decide_eq_false];grind
theorem vk{l r:List Int}{v w:af}(h:aH aN H ok l v)(ai:aH aN H ok' r w)(a:l.length<=1000000000):W (aK P aG 13 [v,w] H) λq H'=>q= C (decide (l=r))/\H'=H:=by
 refine adQ (l.length+1) ?_;by_cases aw:l.length=r.length
 ·have e:(((l.length:Nat):Int) != ((r.length:Nat):Int))=false:=al;refine cv @vt.eq_1 (h.bg b0) (ai.bg b0) e ?_;exact PL h ai aw a l.length 0 (l.length+1) ad ad aX
 ·have e:(((l.length:Nat):Int) != ((r.length:Nat):Int))=true:=bne_iff_ne.2 ad;refine cv @vt.eq_1 (h.bg b0) (ai.bg b0) e ?_;refine aD.2 ⟨?_,rfl⟩;rw[decide_eq_false];grind
theorem P4{l r:List (List Int)}{v w:af}(h:aH (bu aN) H ok l v)(ai:aH (bu aN) H ok' r w)(aw:l.length=r.length)(c:l.length<=1000000000)(b:∀a∈l,a.length<=1000000000){N:Nat}:∀(j k m:Nat),k+j=l.length->j<m->l.take k=r.take k->W (vZ (aK P aG) N m v w (D F (k:Nat)) H) λq H'=>q= C (decide (l=r))/\H'=H
 |_,_,0,_,hm,_=>ad
 |0,k,m+1,d,_,aL=>by
  have t:¬(k:Int)<(l.length:Int):=ad;refine cv @vZ.eq_2 @Bd.eq_1 @GQ.eq_1 (h.bg dP) ?_;grind[aD]
 |j+1,k,m+1,d,hm,aL=>by
  have e:k<l.length:=ad;have x:k<r.length:=ad;obtain⟨p,u,f,g,i⟩:=h.list (j:=(k:Int)) (a:=l[k]) ad al;obtain⟨y,z,n,o,s⟩:=ai.list (j:=(k:Int)) (a:=r[k]) ad al;refine bh @vZ.eq_2 @Bd.eq_1 (h.bg dP) f g (ag n o) ?_;refine dK (vk i s (b _ (List.getElem_mem e))) ?_;by_cases he:l[k]=r[k]
  ·refine bP he ?_;refine P4 h ai aw c b j (k+1) m ad ad ?_;grind[List.take_succ_eq_append_getElem]
  ·refine bP he ?_;refine aD.2 ⟨?_,rfl⟩;rw[decide_eq_false];grind
theorem adu{l r:List (List Int)}{v w:af}(h:aH (bu aN) H ok l v)(ai:aH (bu aN) H ok' r w)(b:l.length<=1000000000)(c:∀a∈l,a.length<=1000000000):W (aK P aG 17 [v,w] H) λq H'=>q= C (decide (l=r))/\H'=H:=by
 refine aea (l.length+1) ?_;by_cases aw:l.length=r.length
 ·have e:(((l.length:Nat):Int) != ((r.length:Nat):Int))=false:=al;refine cv @vW.eq_1 (h.bg dP) (ai.bg dP) e ?_;exact P4 h ai aw b c l.length 0 (l.length+1) ad ad aX
 ·have e:(((l.length:Nat):Int) != ((r.length:Nat):Int))=true:=bne_iff_ne.2 ad;refine cv @vW.eq_1 (h.bg dP) (ai.bg dP) e ?_;refine aD.2 ⟨?_,rfl⟩;rw[decide_eq_false];grind
theorem PJ{l:List Int}{v:af}{a:Int}(h:aH aN H ok l v)(b:l.length<=1000000000){N:Nat}:∀(j k m:Nat),k+j=l.length->j<m->a∉l.take k->W (wT (aK P aG) N m v (D F a) (D F (k:Nat)) H) λq H'=>q= C (decide (a∈l))/\H'=H
 |_,_,0,_,hm,_=>ad
 |0,k,m+1,c,_,aL=>by
  have f:¬(k:Int)<(l.length:Int):=ad;refine cv @wT.eq_2 @BO.eq_1 @HF.eq_1 (h.bg b0) ?_;grind[aD]
 |j+1,k,m+1,c,hm,aL=>by
  have g:k<l.length:=ad;obtain⟨p,d,e⟩:=h.int (j:=(k:Int)) (a:=l[k]) ad al;refine c_ @wT.eq_2 @BO.eq_1 (h.bg b0) d e ?_;by_cases he:l[k]=a
  ·grind[aD]
  ·rw[show(l[k]==a)=I by grind];refine bN ?_;refine PJ h b j (k+1) m ad ad ?_;grind[List.take_succ_eq_append_getElem]
def PK{l:List Int}{v:af}{a:Int}(h:aH aN H ok l v)(b:l.length<=1000000000):W (aK P aG 31 [v,D F a] H) λq H'=>q= C (decide (a∈l))/\H'=H:=by
 refine ae_ (l.length+1) ?_;rw[Q9];exact PJ h b l.length 0 (l.length+1) ad ad aX
theorem PV{l g:List Int}{v w:af}{B:Nat}(u:l.length<=1000000)(d:g.length<=1000000000){N:Nat}:∀(j k m:Nat) (H:ae) (r:List Int) (rv:af),k+j=l.length->j<m->aH aN H (· <B) l v->aH aN H (· <B) g w->B<=H.next->aY aN B bb H r rv->r.length<=k->
  W (wN (aK P aG) N m v w rv (D F (k:Nat)) H) λq H'=>aY aN B bb H' (r++hN (l.drop k) g) q/\cl B H H'
 |_,_,0,_,_,_,_,hm,_,_,_,_,_=>ad
 |0,k,m+1,H,r,rv,x,_,h,ai,c,ar,_=>by
  have K:¬(k:Int)<(l.length:Int):=ad;refine cv @wN.eq_2 @BI.eq_1 @BJ.eq_1 (h.bg b0) ?_;rw[List.drop_of_length_le ad];exact aD.2 ⟨by grind[hN],.refl _ _⟩
 |j+1,k,m+1,H,r,rv,x,hm,h,ai,c,ar,L=>by
  have y:k<l.length:=ad;obtain⟨p,f,i⟩:=h.int (j:=(k:Int)) (a:=l[k]) ad al;have on:=PV (l:=l) (g:=g) (v:=v) (w:=w) (B:=B) u d (N:=N) j (k+1) m;have n:=fB (show k<=1000000000 by omega);rw[List.drop_eq_getElem_cons y];refine c_ @wN.eq_2 @BI.eq_1 (h.bg b0) f i ?_;refine dK (PK ai d) ?_;by_cases he:l[k]∈g
  ·have e:hN (l[k]::l.drop (k+1)) g=hN (l.drop (k+1)) g:=by grind[hN]
   refine b3 @HD.eq_1 he n ?_;grind
  ·have e:hN (l[k]::l.drop (k+1)) g=l[k]::hN (l.drop (k+1)) g:=by grind[hN]
   obtain⟨z,H',o,s,b,t,_⟩:=ar.jU (a:=l[k]) c ad;have hle:H.next+1<=H'.next:=t
   refine bh @HD.eq_1 he f i @c2 (ag o n) ?_;rw[e];refine(on H' _ z ad ad (h.e3 b) (ai.e3 b) ad s al).mono ?_;rintro q G ⟨M,E⟩;exact⟨al,b.trans E⟩
def F6{l g:List Int}{v w:af}(h:aH aN H ok l v)(ai:aH aN H ok' g w)(b:l.length<=1000000)(c:g.length<=1000000000):W (aK P aG 28 [v,w] H) λq H'=>aY aN H.next bb H' (hN l g) q/\au H H':=by
 refine ae4 (l.length+1) ?_;rw[Q7];refine(PV b c l.length 0 (l.length+1) H [] .ao ad ad h.below ai.below Nat.le.refl (aY.nil _ _ _ _) aX).mono ?_;rintro q H' ⟨a,d⟩;rw[List.drop_zero,List.nil_append]at a;exact⟨a,d.aB⟩
end
end
section
open Go.a_
set_option maxRecDepth 2000
def FR{a:Int}:∀{l:List Int} {k:Nat},k<=l.length->(∀(i:Nat) (b:Int),i<k->l[i]? =A b->b<a)->(∀b,l[k]? =A b->¬b<a)->gH l a=if l[k]? =A a then l else l.take k++a::l.drop k
 |[],k,d,_,_=>by
  grind[gH]
 |b::bs,0,_,_,ai=>by
  have h:=ai b aX;simp only[gH,if_neg h,List.getElem?_cons_zero,bD];split
  ·rfl
  ·simp
 |b::bs,k+1,d,ah,ai=>by
  have c:=ah 0 b ad aX;have e:=FR (a:=a) (l:=bs) (k:=k) al al al;simp only[gH,if_pos c,List.getElem?_cons_succ,e];split
  ·rfl
  ·simp
section
variable {H:ae}{ok:Nat->Prop}
theorem aH.head{l:List Int}{v:af}(h:aH aN H ok l v)(aA:hI v){k:Nat}(n:k<=l.length):∃w,gu P 30 v Z (A (.int .i64 (k:Nat))) Z=A w/\aH aN H ok (l.take k) w:=by
 have u:P.underlying 30=A (.slice 3):=aF;have d:cE P 3=A 1:=aF;have e:aN.esz=1:=rfl;rcases h with⟨rfl,rfl⟩|⟨L,i,cap,ro,els,rfl,ai,ax,aM,f⟩|⟨L,i,cap,rfl,rfl⟩
 ·obtain rfl:k=0:=al;exact⟨.ao,by simp[gu,u,d,dL],.nil⟩
 ·have g:l.length<=cap.getD l.length:=by
   cases cap with
   |none=>grind
   |some c=>exact aA _ _ _ _ _ rfl
  have a:dL (A (.int .i64 ((k:Nat):Int))) l.length (cap.getD l.length)=A k:=by
   grind[dL]
  refine⟨.az L (i+0) (k-0) 1 (cap.map (· -0)),?_,.inr (.inl ⟨L,i,cap.map (· -0),ro,els,al,ai,ax,al,λj x m=> ?_⟩)⟩
  ·have b:dL Z 0 k=A 0:=rfl;simp only[gu,u,d,e,if_true,a,b]
  grind
 ·obtain rfl:k=0:=al;have a:dL (A (.int .i64 ((0:Nat):Int))) 0 (cap.getD 0)=A 0:=by
   grind[dL]
  refine⟨.az L (i+0) (0-0) 1 (cap.map (· -0)),?_,.inr al⟩;have b:dL Z 0 0=A 0:=rfl;simp only[gu,u,d,e,if_true,a,b]
theorem aH.tail{l:List Int}{v:af}(h:aH aN H ok l v){k:Nat}(f:k<=l.length):∃w,gu P 30 v (A (.int .i64 (k:Nat))) Z Z=A w/\aH aN H ok (l.drop k) w:=by
 have u:P.underlying 30=A (.slice 3):=aF;have a:cE P 3=A 1:=aF;have b:aN.esz=1:=rfl;rcases h with⟨rfl,rfl⟩|⟨L,i,cap,ro,els,rfl,ai,ax,aM,d⟩|⟨L,i,cap,rfl,rfl⟩
 ·obtain rfl:k=0:=al;exact⟨.ao,by simp[gu,u,a,dL],.nil⟩
 ·have c:dL (A (.int .i64 ((k:Nat):Int))) 0 l.length=A k:=by
   grind[dL]
  refine⟨.az L (i+k) (l.length-k) 1 (cap.map (· -k)),?_,.inr (.inl ⟨L,i+k,cap.map (· -k),ro,els,al,ai,ax,al,λj x e=> ?_⟩)⟩
  ·simp only[gu,u,a,b,if_true,dL];grind
  grind
 ·obtain rfl:k=0:=al;refine⟨.az L (i+0) (0-0) 1 (cap.map (· -0)),?_,.inr (.inr ⟨L,i+0,cap.map (· -0),rfl,rfl⟩)⟩;simp only[gu,u,a,b,if_true,dL];grind
def ue(H:ae)(ok:Nat->Prop)(B:Nat)(l:List Int)(v:af):Prop:=aH aN H (λk=>ok k\/B<=k) l v/\hI v
theorem P1{l:List Int}{v:af}{a:Int}(h:aH aN H ok l v)(aA:hI v)(B:l.length<=100000000){N:Nat}:∀(j k q:Nat),k+j=l.length->j<q->(∀(i:Nat) (b:Int),i<k->l[i]? =A b->b<a)->
  W (rf (aK P aG) N q v (D F a) (D F (k:Nat)) H) λr H'=>ue H' ok H.next (gH l a) r/\au H H'
 |_,_,0,_,aJ,_=>ad
 |j,k,q+1,f,aJ,ah=>by
  have o:=fB (show k<=1000000000 by omega);have c:k<=l.length:=ad;have stop:(∀b,l[k]? =A b->¬b<a)->l[k]? ≠A a->∀{z:af},W (aU (gu P 30 v Z (A (D F (k:Nat))) Z) λU=>
    ea H (eA P H [30,30] af.ao U) λV u=>
    fe u (gB P (u).next 30 1 [(0,D F a)]) λY x=>
    ea x (eA P x [30,30] V Y) λaa y=>
    aU (gu P 30 v (A (D F (k:Nat))) Z Z) λab=>
    ea y (eA P y [30,30] aa ab) λae L=>
    A (ae,L)) λr H'=>ue H' ok H.next (gH l a) r/\au H H':=by
   intro ai O _;obtain⟨o,s1,s2⟩:=h.head aA c;obtain⟨T,gb,S⟩:=h.tail c;obtain⟨v1,H1,a1,bd,bn,_,_⟩:=(aY.nil aN H.next bb H).ints (m:=l.take k) (w:=o) Nat.le.refl s2 al;rw[List.nil_append]at bd;have R:au H H1:=bn.aB;have M:=R.1;obtain⟨v2,s,d1,d2,d3,d4,_⟩:=bd.jU (a:=a) M al;have E:au H s:=(bn.trans d3).aB;obtain⟨v3,aj,G,d,t,_,_⟩:=d2.ints (m:=l.drop k) (w:=T) E.1 (S.aB E) al;have hle:H1.next+1<=s.next:=d4
   have am:=t.1;refine bh s1 a1 @c2 d1 gb G ?_;rw[FR c ah ai,if_neg O];have K:l.take k++[a]++l.drop k=l.take k++a::l.drop k:=aX;rw[K]at d;exact aD.2 ⟨⟨(d.kJ fx).keep (.le ad),d.cap⟩,((bn.trans d3).trans t).aB⟩
  have same:l[k]? =A a->ue H ok H.next (gH l a) v/\au H H:=λe=>by
   rw[FR c ah al,if_pos e];exact⟨⟨h.keep (.le λz Q=> .inl Q),aA⟩,.refl _⟩
  match j,f,aJ with
  |0,f,_=>
   have an:¬(k:Int)<(l.length:Int):=ad;have aq:l[k]? =none:=al;refine cv @rf.eq_2 @tq.eq_1 @wq.eq_1 (h.bg b0) ?_;exact stop al al (z:=v)
  |j+1,f,aJ=>
   have ap:k<l.length:=ad;have ak:l[k]? =A l[k]:=al;obtain⟨p,g,n⟩:=h.int (j:=(k:Int)) (a:=l[k]) ad al;by_cases ax:l[k]<a
   ·refine bh @rf.eq_2 @tq.eq_1 (h.bg b0) g n (ag ax o) ?_;refine P1 h aA B j (k+1) q ad ad λi b aP B=> ?_
    grind
   ·by_cases aM:l[k]=a
    ·have d1:(l[k]==a)=true:=al;refine bh @rf.eq_2 @tq.eq_1 @wq.eq_1 (h.bg b0) g (ag n (ag ax d1)) ?_;grind[aD]
    ·have d1:(l[k]==a)=false:=al;refine bh @rf.eq_2 @tq.eq_1 @wq.eq_1 (h.bg b0) g (ag n (ag ax d1)) ?_;exact stop al al (z:=v)
def adt{l:List Int}{v:af}{a:Int}(h:aH aN H ok l v)(aA:hI v)(b:l.length<=100000000):W (aK P aG 194 [v,D F a] H) λr H'=>ue H' ok H.next (gH l a) r/\au H H':=by
 refine aez (l.length+1) ?_;rw[Q0];exact P1 h aA b l.length 0 _ ad ad ad
theorem FV{l:List Int}{v:af}{a:Int}(h:aH aN H ok l v)(aA:hI v)(b:l.length<=100000000):W (aK P aG 142 [v,D F a] H) λr H'=>ue H' ok H.next (gH l a) r/\au H H':=by
 refine ad3 0 ?_;simp-implicitDefEqProofs(disch:=try exact aW)only[Qw];refine e2 (adt h aA b) λr H' z p=> ?_
 grind[aD]
end
end
section
open Go.a_
set_option maxRecDepth 2000
section
variable {H:ae}{ok ok':Nat->Prop}
theorem J9{l:List Int}{v:af}{B:Nat}(aw:l.length<=10000000){N:Nat}:∀(j k q:Nat) (H:ae) (r:List Int) (rv:af),k+j=l.length->j<q->B<=H.next->aH aN H ok l v->aH aN H (B<= ·) r rv->hI rv->r.length<=10000000+k->
  W (x_ (aK P aG) N q v rv (D F (k:Nat)) H) λz H'=>(aH aN H' (B<= ·) (gZ r (l.drop k)) z/\hI z)/\au H H'
 |_,_,0,_,_,_,_,aJ,_,_,_,_,_=>ad
 |0,k,q+1,H,r,rv,d,_,c,h,ar,aA,_=>by
  have w:¬(k:Int)<(l.length:Int):=ad;refine cv @x_.eq_2 @C2.eq_1 @Ih.eq_1 (h.bg b0) ?_;rw[List.drop_of_length_le ad];exact aD.2 ⟨⟨ar,aA⟩,.refl _⟩
 |j+1,k,q+1,H,r,rv,d,aJ,c,h,ar,aA,u=>by
  have e:k<l.length:=ad;obtain⟨p,f,g⟩:=h.int (j:=(k:Int)) (a:=l[k]) ad al;have on:=J9 (l:=l) (v:=v) (B:=B) aw (N:=N) j (k+1) q;rw[List.drop_eq_getElem_cons e,gZ];refine c_ @x_.eq_2 @C2.eq_1 (h.bg b0) f g ?_;refine e2 (FV ar aA ad) ?_;rintro i H1 ⟨o,s⟩ b;refine bN ?_;have aL:=b.1;refine(on H1 _ i ad ad ad (h.aB b) (o.keep (.le ad)) s (by grind[Aa])).mono ?_;rintro z t ⟨m,n⟩;exact⟨m,b.trans n⟩
theorem J_{l l2:List Int}{v v2:af}{B:Nat}(aw:l.length<=10000000)(d:l2.length<=10000000){N:Nat}(e:l2.length<N):∀(j k q:Nat) (H:ae) (r:List Int) (rv:af),k+j=l.length->j<q->B<=H.next->aH aN H ok l v->aH aN H ok' l2 v2->aH aN H (B<= ·) r rv->hI rv->r.length<=k->
  W (ya (aK P aG) N q v v2 rv (D F (k:Nat)) H) λz H'=>(aH aN H' (B<= ·) (gZ (gZ r (l.drop k)) l2) z/\hI z)/\au H H'
 |_,_,0,_,_,_,_,aJ,_,_,_,_,_,_=>ad
 |0,k,q+1,H,r,rv,g,_,c,h,ai,ar,aA,f=>by
  have y:¬(k:Int)<(l.length:Int):=ad;refine cv @ya.eq_2 @C3.eq_1 @Ig.eq_1 (h.bg b0) ?_;rw[List.drop_of_length_le ad,gZ];exact J9 d l2.length 0 N H r rv ad ad c ai ar aA ad
 |j+1,k,q+1,H,r,rv,g,aJ,c,h,ai,ar,aA,f=>by
  have i:k<l.length:=ad;obtain⟨p,m,n⟩:=h.int (j:=(k:Int)) (a:=l[k]) ad al;have on:=J_ (l:=l) (l2:=l2) (v:=v) (v2:=v2) (B:=B) aw d e j (k+1) q;rw[List.drop_eq_getElem_cons i,gZ];refine c_ @ya.eq_2 @C3.eq_1 (h.bg b0) m n ?_;refine e2 (FV ar aA ad) ?_;rintro o H1 ⟨u,w⟩ b;refine bN ?_;have aL:=b.1;refine(on H1 _ o ad ad ad (h.aB b) (ai.aB b) (u.keep (.le ad)) w (by grind[Aa])).mono ?_;rintro z x ⟨s,t⟩;exact⟨s,b.trans t⟩
def Kk:hI .ao:=λ_ _ _ _ _ h=>by cases h
def acO{l l2:List Int}{v v2:af}(h:aH aN H ok l v)(ai:aH aN H ok' l2 v2)(aw:l.length<=10000000)(b:l2.length<=10000000):W (aK P aG 90 [v,v2] H) λz H'=>(aH aN H' (H.next<= ·) (sj l l2) z/\hI z)/\au H H':=by
 refine afJ (l.length+l2.length+1) ?_;rw[Ru];refine(J_ aw b ad l.length 0 _ H [] .ao ad ad Nat.le.refl h ai .nil Kk aX).mono ?_;rintro z H' ⟨a,c⟩;rw[List.drop_zero]at a;exact⟨a,c⟩
theorem uO{L n i:Nat}{c:Option Nat}(h:i<n):ct P 104 (.az L 0 n 1 c) (D F (i:Nat))=A (.ptr L i 0):=by
 grind[pc,pn]
def Nr{L i:Nat}{met:List Bool}(g:H.get L=A (.row I 1 (c6 met)))(h:i<met.length):aI P H 4 (.ptr L i 0)=A (C (di met i)):=by
 rw[e0 Dh g (ur (qq h))];rfl
def R6{L i:Nat}{met:List Bool}(g:H.get L=A (.row I 1 (c6 met)))(h:i<met.length):cr P H 4 (.ptr L i 0) (C J)=A (H.set L (.row I 1 (c6 (met.set i J)))):=yf g (qq h)
section
variable {fs:List (List Int)}{roots:List Int}{fv rv:af}{L:Nat}
structure lp(fs:List (List Int))(roots:List Int)(fv rv:af)(L:Nat)(met:List Bool)(H:ae):Prop where
 aC:aH (bu aN) H (· <L) fs fv
 ar:aH aN H (· <L) roots rv
 g:H.get L=some (.row false 1 (c6 met))
 m:nQ fs roots met
theorem lp.set{met:List Bool}(s:lp fs roots fv rv L met H){d:Nat}(c:d<fs.length)(ar:g4 fs roots d):lp fs roots fv rv L (met.set d J) (H.set L (.row I 1 (c6 (met.set d J)))):=by
 have a:dm H (· <L) (H.set L (.row I 1 (c6 (met.set d J)))) (· <L):=λk b (e:k<L) g=>(by grind[ae.b8])
 exact⟨s.aC.keep a,s.ar.keep a,ae.cH (ae.bq s.g),s.m.set c ar⟩
def kR(L:Nat)(H H':ae):Prop:=H'.next=H.next/\∀k,k≠L->H'.get k=H.get k
theorem kR.refl(L:Nat)(H:ae):kR L H H:=⟨rfl,λ_ _=>rfl⟩
theorem kR.trans{H1 a b:ae}(h:kR L H1 a)(k:kR L a b):kR L H1 b:=⟨k.1.trans h.1,λz c=>(k.2 z c).trans (h.2 z c)⟩
theorem FH(H:ae)(b:bz):kR L H (H.set L b):=⟨rfl,(by grind[ae.b8])⟩
theorem LU(u:roots.length<=1000000000){Q:af->ae->Prop}{N:Nat}:∀(j k q:Nat) (H:ae) (met:List Bool),k+j=roots.length->j<q->lp fs roots fv rv L met H->(∀(i n:Nat),i<k->roots[i]? =A (n:Int)->n<fs.length->di met n=J)->
  (∀(H':ae) (met:List Bool),lp fs roots fv rv L met H'->(∀n:Nat,(n:Int)∈roots->n<fs.length->di met n=J)->kR L H H'->W (wP (aK P aG) N fv (.az L 0 fs.length 1 (A fs.length)) H') Q)->
  W (wS (aK P aG) N q fv rv (.az L 0 fs.length 1 (A fs.length)) (.int .i64 (k:Nat)) H) Q
 |_,_,0,_,_,_,aJ,_,_,_=>ad
 |0,k,q+1,H,met,v,_,s,aP,fin=>by
  have K:¬(k:Int)<(roots.length:Int):=ad;refine b3 @wS.eq_2 @BM.eq_1 (s.ar.bg b0) ?_;refine fin H met s (λn aL aw=> ?_) (.refl _ _);grind[List.mem_iff_getElem]
 |j+1,k,q+1,H,met,v,aJ,s,aP,fin=>by
  have w:k<roots.length:=ad;obtain⟨p,l,e⟩:=s.ar.int (j:=(k:Int)) (a:=roots[k]) ad al;have t:roots[k]? =A roots[k]:=al;have on:=LU u (Q:=Q) (N:=N) j (k+1) q;have o:=fB (show k<=1000000000 by omega);have M:=iF (H:=H) (by kernel_rfl:P.underlying 104=A (.slice 4)) L 0 fs.length 1 (A fs.length);have y:=iF (H:= .empty) (by kernel_rfl:P.underlying 104=A (.slice 4)) L 0 fs.length 1 (A fs.length);refine bh @wS.eq_2 @BM.eq_1 (s.ar.bg b0) l e y ?_;refine dK (yP _ _) ?_;by_cases b:0<=roots[k]/\roots[k]<(fs.length:Int)
  ·obtain⟨d,f⟩:∃d:Nat,roots[k]=d:=⟨roots[k].toNat,ad⟩;rw[f]at e t b ⊢;have c:d<fs.length:=ad;have h:d<met.length:=by rw[s.m.len];omega
   have x:g4 fs roots d:= .root (f▸List.getElem_mem w) c;simp-implicitDefEqProofs(disch:=try exact aW)only[HE,reduceAdd,reduceLeDiff,reduceIte,bB,b,decide_true,and_self,l,e,uO c,R6 s.g h,o];refine on _ _ ad ad (s.set c x) (λi n ah ai ax=>(yR h).2 ?_) λr z B E G=>fin r z B E ((FH _ _).trans G)
   grind
  ·refine b3 @HE.eq_1 b o ?_;grind
theorem LR{c:Nat}(aA:c<fs.length)(G:∀f∈fs,f.length<=1000000000){L2:af->af->af->ae->O}{L3:af->af->af->af->ae->O}{Q:af->ae->Prop}{N:Nat}:∀(j k q:Nat) (H:ae) (met:List Bool) (t:Bool),k+j=fs[c].length->j<q->lp fs roots fv rv L met H->(t=I->di met c=J->∀(i d:Nat),i<k->fs[c][i]? =A (d:Int)->d<fs.length->di met d=J)->
  (∀(H':ae) (y:List Bool) (B:Bool),lp fs roots fv rv L y H'->l4 t met B y->(B=I->tZ fs y c)->kR L H H'->W (rp (aK P aG) N L2 L3 fv (.az L 0 fs.length 1 (A fs.length)) (.bool B) (.int .i64 (c:Nat)) H') Q)->
  W (tC (aK P aG) N L2 L3 q fv (.az L 0 fs.length 1 (A fs.length)) (.bool t) (.int .i64 (c:Nat)) (.int .i64 (k:Nat)) H) Q
 |_,_,0,_,_,_,_,aJ,_,_,_=>ad
 |j,k,q+1,H,met,t,v,aJ,s,aP,fin=>by
  obtain⟨p,w,l,n,r⟩:=s.aC.list (j:=(c:Int)) (a:=fs[c]) ad al;have aB:=G _ (List.getElem_mem aA);have aa:c<met.length:=by rw[s.m.len];omega
  have E:=fB (show k<=1000000000 by omega);have am:=iF (H:=H) (by kernel_rfl:P.underlying 104=A (.slice 4)) L 0 fs.length 1 (A fs.length);have an:=iF (H:= .empty) (by kernel_rfl:P.underlying 104=A (.slice 4)) L 0 fs.length 1 (A fs.length);have U:fs[c]? =A fs[c]:=al
  match j,v,aJ with
  |0,v,_=>
   have x:¬(k:Int)<(fs[c].length:Int):=ad;refine c_ @tC.eq_2 @wO.eq_1 l n (r.bg b0) ?_;refine fin H met t s (.refl _ _) (λe hm f aC d b aw=> ?_) (.refl _ _);grind[List.mem_iff_getElem]
  |j+1,v,aJ=>
   have x:(k:Int)<(fs[c].length:Int):=ad;have aj:k<fs[c].length:=ad;have V:fs[c][k]? =A fs[c][k]:=al;obtain⟨aD,z,u⟩:=r.int (j:=(k:Int)) (a:=fs[c][k]) ad al;have on:=LR aA G (L2:=L2) (L3:=L3) (Q:=Q) (N:=N) j (k+1) q;have lm:=Nr s.g aa;cases hm:di met c with
   |false=>
    rw[hm]at lm;simp-implicitDefEqProofs(disch:=try exact aW)only[tC,wO,reduceAdd,reduceLeDiff,reduceIte,bB,l,n,r.len b0,x,decide_true,uO aA,lm];exact fin H met t s (.refl _ _) (λ_ h=>al) (.refl _ _)
   |true=>
    rw[hm]at lm;simp-implicitDefEqProofs(disch:=try exact aW)only[tC,wO,reduceAdd,reduceLeDiff,reduceIte,bB,l,n,r.len b0,x,decide_true,uO aA,lm,z,u,am,an];refine dK (yP _ _) ?_;by_cases b:0<=fs[c][k]/\fs[c][k]<(fs.length:Int)
    ·obtain⟨d,ab⟩:∃d:Nat,fs[c][k]=d:=⟨fs[c][k].toNat,ad⟩;have R:=List.getElem_mem aj;rw[ab]at u V b R ⊢;have o:d<fs.length:=ad;have K:d<met.length:=by rw[s.m.len];omega
     have ak:g4 fs roots d:= .step (s.m.snd c hm) U R o;have fu:=Nr s.g K;cases M:di met d with
     |true=>
      rw[M]at fu;simp-implicitDefEqProofs(disch:=try exact aW)only[BN,reduceAdd,reduceLeDiff,reduceIte,bB,b,decide_true,and_self,l,n,z,u,uO o,fu,Bool.not_true,E];refine on H met t ad ad s (λe _ i T ah ai ax=> ?_) fin;grind
     |false=>
      rw[M]at fu;have Y:met[d]? =A false:=by grind[qq]
      simp-implicitDefEqProofs(disch:=try exact aW)only[BN,reduceAdd,reduceLeDiff,reduceIte,bB,b,decide_true,and_self,l,n,z,u,uO o,fu,Bool.not_false,R6 s.g K,E];refine on _ _ J ad ad (s.set o ak) (λe=>by cases e) λS ap t2 aq ar av ay=>fin S ap t2 aq ((l4.set Y).trans ar) av ((FH _ _).trans ay)
    ·refine b3 @BN.eq_1 b E ?_;refine on H met t ad ad s (λe _ i T ah ai ax=> ?_) fin;grind
theorem LV(aL:fs.length<=100000)(m:∀f∈fs,f.length<=1000000000){L2:af->af->af->ae->O}{Q:af->ae->Prop}{N:Nat}(l:∀f∈fs,f.length<N):∀(j k q:Nat) (H:ae) (met:List Bool) (t:Bool),k+j=fs.length->j<q->lp fs roots fv rv L met H->(t=I->∀c,c<k->tZ fs met c)->
  (∀(H':ae) (b:List Bool) (g:Bool),lp fs roots fv rv L b H'->l4 t met g b->(g=I->∀c,c<fs.length->tZ fs b c)->kR L H H'->W (L2 fv (.az L 0 fs.length 1 (A fs.length)) (.bool g) H') Q)->
  W (wR (aK P aG) N L2 q fv (.az L 0 fs.length 1 (A fs.length)) (.bool t) (.int .i64 (k:Nat)) H) Q
 |_,_,0,_,_,_,_,aJ,_,_,_=>ad
 |0,k,q+1,H,met,t,r,_,s,aP,fin=>by
  have E:¬(k:Int)<(fs.length:Int):=ad;have u:=iF (H:=H) (by kernel_rfl:P.underlying 104=A (.slice 4)) L 0 fs.length 1 (A fs.length);have a:=iF (H:= .empty) (by kernel_rfl:P.underlying 104=A (.slice 4)) L 0 fs.length 1 (A fs.length);refine b3 @wR.eq_2 @BL.eq_1 a ?_;exact fin H met t s (.refl _ _) (λe c aA=>aP e c ad) (.refl _ _)
 |j+1,k,q+1,H,met,t,r,aJ,s,aP,fin=>by
  have n:k<fs.length:=ad;have u:=iF (H:=H) (by kernel_rfl:P.underlying 104=A (.slice 4)) L 0 fs.length 1 (A fs.length);have a:=iF (H:= .empty) (by kernel_rfl:P.underlying 104=A (.slice 4)) L 0 fs.length 1 (A fs.length);have on:=LV aL m (L2:=L2) (Q:=Q) l j (k+1) q;refine b3 @wR.eq_2 @BL.eq_1 a ?_;refine LR n m fs[k].length 0 N H met t ad (l _ (List.getElem_mem n)) s (λ_ _ i d h=>ad) ?_;intro H1 v t1 x o M y;refine bP @rp.eq_1 ?_;refine on H1 v t1 ad ad x (λe c aA=> ?_) λp w t2 z B z3 z4=>fin p w t2 z (o.trans B) z3 (y.trans z4)
  rcases Nat.lt_or_eq_of_le (Nat.le_of_lt_succ aA)with h|rfl
  ·obtain⟨G,K⟩:=o.off e;grind
  grind
theorem LS(aL:fs.length<=100000)(d:∀f∈fs,f.length<=1000000000){Q:af->ae->Prop}{N:Nat}(b:∀f∈fs,f.length<N)(j:fs.length<N):∀(q:Nat) (H:ae) (met:List Bool) (t:Bool),(fs.length-k8 met)+(if t then 1 else 0)<q->lp fs roots fv rv L met H->(∀n:Nat,(n:Int)∈roots->n<fs.length->di met n=J)->(t=I->∀c,c<fs.length->tZ fs met c)->
  (∀(H':ae) (g:List Bool),lp fs roots fv rv L g H'->iK g 0=aQ (fE fs roots)->kR L H H'->W (pZ (aK P aG) N (.az L 0 fs.length 1 (A fs.length)) H') Q)->
  W (wQ (aK P aG) N q fv (.az L 0 fs.length 1 (A fs.length)) (C t) H) Q
 |0,_,_,_,aJ,_,_,_,_=>ad
 |q+1,H,met,t,aJ,s,ar,aP,fin=>by
  have on:=LS aL d (Q:=Q) b j q;cases t with
  |false=>
   refine bG @wQ.eq_2 @BK.eq_1 ?_;exact fin H met s (s.m.list ar (aP rfl)) (.refl _ _)
  |true=>
   refine bG @wQ.eq_2 @BK.eq_1 ?_;refine LV aL d b fs.length 0 N H met I ad ad s ad ?_;intro H1 e t1 h a l o;have ah:=zP e;have ai:=zP met;have ax:=a.le;rw[h.m.len]at ah;rw[s.m.len]at ai;simp only[if_true]at aJ;refine on H1 e t1 ?_ h (λn aL aw=>a.up n (ar n aL aw)) l λi k p r z3=>fin i k p r (o.trans z3)
   cases t1 with
   |false=>grind
   |true=>
    have:=a.on rfl;grind
end
theorem PE{fs:List (List Int)}{roots:List Int}{fv rv:af}(aC:aH (bu aN) H ok fs fv)(ar:aH aN H ok' roots rv)(aL:fs.length<=100000)(z:∀f∈fs,f.length<=1000000)(B:roots.length<=1000000):W (aK P aG 29 [fv,rv] H) λr H'=>aY aN H.next bb H' (aQ (fE fs roots)) r/\au H H':=by
 refine ae9 1000002 ?_;have mk:=sP H.next fs.length ad
 have a:=au.push H (.row I 1 (c6 (List.replicate fs.length I)));have p:=ae.a2 H (.row I 1 (c6 (List.replicate fs.length I)));have K:(H.push (.row I 1 (c6 (List.replicate fs.length I)))).next=H.next+1:=rfl
 refine b3 @Q8.eq_1 (aC.bg dP) mk ?_;have v:lp fs roots fv rv H.next (List.replicate fs.length I) (H.push (.row I 1 (c6 (List.replicate fs.length I)))):=⟨aC.below.aB a,ar.below.aB a,p,nQ.start fs roots⟩
 generalize H.push (.row I 1 (c6 (List.replicate fs.length I)))=H1 at*;refine LU ad roots.length 0 _ H1 _ ad ad v (λi n aP=>ad) ?_;intro k q s2 u s;rw[wP];refine LS aL (λf h=>al) (λf h=>al) ad _ k q J al s2 u (λe=>by cases e) ?_;intro w G gb o t;have j:=s.trans t;simp-implicitDefEqProofs(disch:=try exact aW)only[pZ];refine cK (F5 (m:=fs.length) gb.m.len aL gb.g) ?_;rintro r x ⟨b,d⟩;refine⟨d.1,aD.2 ?_⟩;rw[o]at b;have y:=j.1;have E:=d.1;refine⟨⟨b.eL,λL n c e=>by have:=b.low L n c e;omega⟩,ad,λl aw=> ?_⟩;rw[d.2 l ad,j.2 l ad,a.2 l aw]
end
end
section
set_option maxRecDepth 100000
set_option maxHeartbeats 4000000
noncomputable section
def Qp(G:aq):g5 Tryz.f12 G:=⟨_,λN=>t1 an⟩
def adJ(N:Nat):=en Tryz.func12 λG=>(Qp G).2 N
def Qy(G:aq):g5 Tryz.f15 G:=⟨_,λN=>t1 an⟩
def ad7(N:Nat):=en Tryz.func15 λG=>(Qy G).2 N
def BT(G:aq)(N:Nat)(L0:cx):fD 1 2 3 4 7 9 Tryz.f37 G N (·.aa.aa.aa.aa.aa.aj.aj.aj.aa.aa.aa.aa) (bY L0 1 2 3 4 7) [(1,(bY L0 1 2 3 4 7)),(0,(a8 Tryz.f37))]:=⟨_,v6 an⟩
def BQ(G:aq)(N:Nat)(L0:cx)(L3:hs):nS 1 2 3 4 7 9 10 12 Tryz.f37 G N (·.aa.aa.aa.aa.aa.aj.aj.aj.aa.aa.aa.aj.aa.aj.aj) (fY L3 1 2 3 4 7 9 10 12) [(4,(ch (BT G N L0) 1 2 3 4 7 9)),(1,(bY L0 1 2 3 4 7)),(0,(a8 Tryz.f37))]:=⟨_,mZ an⟩
def wU(G:aq)(N:Nat)(L0:cx):Nat->hs
 |0=>tX
 |n+1=>BQ G N L0 (wU G N L0 n)
def BS(G:aq)(N:Nat)(L0:cx):gM 1 2 3 4 7 9 10 Tryz.f37 G N (·.aa.aa.aa.aa.aa.aj.aj.aj.aa.aa.aa) (bY L0 1 2 3 4 7) [(1,(bY L0 1 2 3 4 7)),(0,(a8 Tryz.f37))]:=⟨_,g2 (ak ((BT G N L0).2) (ak (bj (bH (λm=>(BQ G N L0 (wU G N L0 m)).2))) an))⟩
def BR(G:aq)(N:Nat)(L0:cx)(L4:hs):nS 1 2 3 4 7 9 10 11 Tryz.f37 G N (·.aa.aa.aa.aa.aa.aj.aj.aj.aa.aa.aj.aa.aj.aj) (fY L4 1 2 3 4 7 9 10 11) [(2,(dp (BS G N L0) 1 2 3 4 7 9 10)),(1,(bY L0 1 2 3 4 7)),(0,(a8 Tryz.f37))]:=⟨_,mZ an⟩
def wV(G:aq)(N:Nat)(L0:cx):Nat->hs
 |0=>tX
 |n+1=>BR G N L0 (wV G N L0 n)
def HJ(G:aq)(N:Nat)(L0:cx):eY 1 2 3 4 7 Tryz.f37 G N (·.aa.aa.aa.aa.aa.aj.aj) (bY L0 1 2 3 4 7) [(0,(a8 Tryz.f37))]:=⟨_,v5 (bj (ak (ak (ak ((BS G N L0).2) (ak (bj (bH (λm=>(BR G N L0 (wV G N L0 m)).2))) an)) an) an))⟩
def BU(G:aq)(N:Nat):Nat->cx
 |0=>hH
 |n+1=>HJ G N (BU G N n)
def Q_(G:aq)(N:Nat):fM Tryz.f37 G N:=⟨_,t1 (ak (ak (ak (ak (ak (bj (bH (λm=>(HJ G N (BU G N m)).2))) an) an) an) an) an)⟩
def afc(N:Nat):=en Tryz.func37 λG=>(Q_ G N).2
def p0(G:aq)(N:Nat):eJ 3 Tryz.f39 G N (·.aa.aa.aa.aa.aa.aa.aa.aa) (a8 Tryz.f39) []:=⟨_,v1 an⟩
def p1(G:aq)(N:Nat)(L3:b6):eh 1 3 9 Tryz.f39 G N (·.aa.aa.aa.aa.aa.aa.aa.aj.aa.aj.aj.aa.aa) (bn L3 1 3 9) [(6,(a1 (p0 G N) 3))]:=⟨_,v3 an⟩
def B8(G:aq)(N:Nat)(L3:b6):dI 1 3 9 12 Tryz.f39 G N (·.aa.aa.aa.aa.aa.aa.aa.aj.aa.aj.aj.aa.aj.aj.aa.aa.aa.aa) (bn (p1 G N L3) 1 3 9) [(7,(bn (p1 G N L3) 1 3 9)),(6,(a1 (p0 G N) 3))]:=⟨_,lI an⟩
def B2(G:aq)(N:Nat)(L3:b6)(a:cx):eY 1 3 9 12 13 Tryz.f39 G N (·.aa.aa.aa.aa.aa.aa.aa.aj.aa.aj.aj.aa.aj.aj.aa.aa.aa.aj.aa.aj.aj) (bY a 1 3 9 12 13) [(10,(bI (B8 G N L3) 1 3 9 12)),(7,(bn (p1 G N L3) 1 3 9)),(6,(a1 (p0 G N) 3))]:=⟨_,v5 an⟩
def w3(G:aq)(N:Nat)(L3:b6):Nat->cx
 |0=>hH
 |n+1=>B2 G N L3 (w3 G N L3 n)
def B7(G:aq)(N:Nat)(L3:b6):dI 1 3 9 10 Tryz.f39 G N (·.aa.aa.aa.aa.aa.aa.aa.aj.aa.aj.aj.aa.aj.aj.aa.aa) (bn (p1 G N L3) 1 3 9) [(7,(bn (p1 G N L3) 1 3 9)),(6,(a1 (p0 G N) 3))]:=⟨_,v4 (ak (ak ((B8 G N L3).2) (ak (bj (bH (λm=>(B2 G N L3 (w3 G N L3 m)).2))) an)) an)⟩
def B3(G:aq)(N:Nat)(L3:b6)(L8:cx):eY 1 3 9 10 11 Tryz.f39 G N (·.aa.aa.aa.aa.aa.aa.aa.aj.aa.aj.aj.aa.aj.aj.aa.aj.aa.aj.aj) (bY L8 1 3 9 10 11) [(8,(bI (B7 G N L3) 1 3 9 10)),(7,(bn (p1 G N L3) 1 3 9)),(6,(a1 (p0 G N) 3))]:=⟨_,v5 an⟩
def w4(G:aq)(N:Nat)(L3:b6):Nat->cx
 |0=>hH
 |n+1=>B3 G N L3 (w4 G N L3 n)
def B1(G:aq)(N:Nat)(L3:b6):eh 1 3 9 Tryz.f39 G N (·.aa.aa.aa.aa.aa.aa.aa.aj.aa.aj.aj) (bn L3 1 3 9) [(6,(a1 (p0 G N) 3))]:=⟨_,v3 (ak (ak ((p1 G N L3).2) (bj (ak (ak ((B7 G N L3).2) (ak (bj (bH (λm=>(B3 G N L3 (w4 G N L3 m)).2))) an)) an))) an)⟩
def w2(G:aq)(N:Nat):Nat->b6
 |0=>gD
 |n+1=>B1 G N (w2 G N n)
def rq(G:aq)(N:Nat):gG 1 3 Tryz.f39 G N (·.aa.aa.aa.aa.aa.aa) (a8 Tryz.f39) []:=⟨_,v2 (ak (ak ((p0 G N).2) (ak (bj (bH (λm=>(B1 G N (w2 G N m)).2))) an)) an)⟩
def wY(G:aq)(N:Nat)(L9:b6):eh 1 3 6 Tryz.f39 G N (·.aa.aa.aa.aa.aa.aj.aa.aj.aj.aa.aa) (bn L9 1 3 6) [(2,(bd (rq G N) 1 3))]:=⟨_,v3 an⟩
def B6(G:aq)(N:Nat)(L9:b6):dI 1 3 6 7 Tryz.f39 G N (·.aa.aa.aa.aa.aa.aj.aa.aj.aj.aa.aj.aj.aa.aa) (bn (wY G N L9) 1 3 6) [(3,(bn (wY G N L9) 1 3 6)),(2,(bd (rq G N) 1 3))]:=⟨_,lI an⟩
def BZ(G:aq)(N:Nat)(L9:b6)(a:cx):eY 1 3 6 7 8 Tryz.f39 G N (·.aa.aa.aa.aa.aa.aj.aa.aj.aj.aa.aj.aj.aa.aj.aa.aj.aj) (bY a 1 3 6 7 8) [(4,(bI (B6 G N L9) 1 3 6 7)),(3,(bn (wY G N L9) 1 3 6)),(2,(bd (rq G N) 1 3))]:=⟨_,v5 an⟩
def wZ(G:aq)(N:Nat)(L9:b6):Nat->cx
 |0=>hH
 |n+1=>BZ G N L9 (wZ G N L9 n)
def B4(G:aq)(N:Nat)(L9:b6):eh 1 3 6 Tryz.f39 G N (·.aa.aa.aa.aa.aa.aj.aa.aj.aj) (bn L9 1 3 6) [(2,(bd (rq G N) 1 3))]:=⟨_,v3 (ak (ak ((wY G N L9).2) (bj (ak (ak ((B6 G N L9).2) (ak (bj (bH (λm=>(BZ G N L9 (wZ G N L9 m)).2))) an)) an))) an)⟩
def w5(G:aq)(N:Nat):Nat->b6
 |0=>gD
 |n+1=>B4 G N (w5 G N n)
def B5(G:aq)(N:Nat):eh 1 3 4 Tryz.f39 G N (·.aa.aa.aa.aa) (a8 Tryz.f39) []:=⟨_,v3 (ak (ak ((rq G N).2) (ak (bj (bH (λm=>(B4 G N (w5 G N m)).2))) an)) an)⟩
def B0(G:aq)(N:Nat)(L13:cg):dI 1 3 4 5 Tryz.f39 G N (·.aa.aa.aa.aj.aa.aj.aj) (bI L13 1 3 4 5) [(0,(bn (B5 G N) 1 3 4))]:=⟨_,v4 an⟩
def w1(G:aq)(N:Nat):Nat->cg
 |0=>fq
 |n+1=>B0 G N (w1 G N n)
def Ra(G:aq)(N:Nat):fM Tryz.f39 G N:=⟨_,o1 (ak (ak (ak (ak ((B5 G N).2) (ak (bj (bH (λm=>(B0 G N (w1 G N m)).2))) an)) an) an) an)⟩
def afd(N:Nat):=en Tryz.func39 λG=>(Ra G N).2
def Ic(G:aq)(N:Nat):gG 0 5 Tryz.f87 G N (·.aa.aa.aa) (a8 Tryz.f87) []:=⟨_,v2 an⟩
def CX(G:aq)(N:Nat)(L1:cg):dI 0 1 5 6 Tryz.f87 G N (·.aa.aa.aj.aa.aj.aj) (bI L1 0 1 5 6) [(0,(bd (Ic G N) 0 5))]:=⟨_,v4 an⟩
def xV(G:aq)(N:Nat):Nat->cg
 |0=>fq
 |n+1=>CX G N (xV G N n)
def Rr(G:aq)(N:Nat):fW Tryz.f87 G N:=⟨_,t2 (ak (ak (ak ((Ic G N).2) (ak (bj (bH (λm=>(CX G N (xV G N m)).2))) an)) an) an)⟩
def afF(N:Nat):=c1 Tryz.func87 λG=>(Rr G N).2
def mT(G:aq)(N:Nat)(L0:T2)(L1:b6):eh 0 2 3 Tryz.f89 G N (·.aa.aa.aj.aj.aa.aj.aa.aa.aj.aj.aa.aa) (bn L1 0 2 3) [(2,(bd L0 0 2)),(1,(bd L0 0 2)),(0,(a8 Tryz.f89))]:=⟨_,v3 an⟩
def nD(G:aq)(N:Nat)(L0:T2)(L1:b6):dI 0 2 3 4 Tryz.f89 G N (·.aa.aa.aj.aj.aa.aj.aa.aa.aj.aj.aa.aj.aj.aa.aa.aa) (bn (mT G N L0 L1) 0 2 3) [(3,(bn (mT G N L0 L1) 0 2 3)),(2,(bd L0 0 2)),(1,(bd L0 0 2)),(0,(a8 Tryz.f89))]:=⟨_,v4 an⟩
def nE(G:aq)(N:Nat)(L0:T2)(L1:b6)(L4:cy):fD 0 2 3 4 5 6 Tryz.f89 G N (·.aa.aa.aj.aj.aa.aj.aa.aa.aj.aj.aa.aj.aj.aa.aa.aj.aa.aj.aj.aa.aa) (ch L4 0 2 3 4 5 6) [(4,(bI (nD G N L0 L1) 0 2 3 4)),(3,(bn (mT G N L0 L1) 0 2 3)),(2,(bd L0 0 2)),(1,(bd L0 0 2)),(0,(a8 Tryz.f89))]:=⟨_,v6 an⟩
def Ie(G:aq)(N:Nat)(L0:T2)(L1:b6)(L4:cy)(a:hs):nS 0 2 3 4 5 6 7 8 Tryz.f89 G N (·.aa.aa.aj.aj.aa.aj.aa.aa.aj.aj.aa.aj.aj.aa.aa.aj.aa.aj.aj.aa.aj.aj.aa.aa.aa.aj.aj.aa.aa) (fY a 0 2 3 4 5 6 7 8) [(7,(ch (nE G N L0 L1 L4) 0 2 3 4 5 6)),(5,(ch (nE G N L0 L1 L4) 0 2 3 4 5 6)),(4,(bI (nD G N L0 L1) 0 2 3 4)),(3,(bn (mT G N L0 L1) 0 2 3)),(2,(bd L0 0 2)),(1,(bd L0 0 2)),(0,(a8 Tryz.f89))]:=⟨_,mZ an⟩
def C1(G:aq)(N:Nat)(L0:T2)(L1:b6)(L4:cy)(a:hs):nS 0 2 3 4 5 6 7 8 Tryz.f89 G N (·.aa.aa.aj.aj.aa.aj.aa.aa.aj.aj.aa.aj.aj.aa.aa.aj.aa.aj.aj.aa.aj.aj.aa.aa.aa.aj.aj) (fY a 0 2 3 4 5 6 7 8) [(7,(ch (nE G N L0 L1 L4) 0 2 3 4 5 6)),(5,(ch (nE G N L0 L1 L4) 0 2 3 4 5 6)),(4,(bI (nD G N L0 L1) 0 2 3 4)),(3,(bn (mT G N L0 L1) 0 2 3)),(2,(bd L0 0 2)),(1,(bd L0 0 2)),(0,(a8 Tryz.f89))]:=⟨_,mZ (ak (ak ((Ie G N L0 L1 L4 a).2) an) an)⟩
def x0(G:aq)(N:Nat)(L0:T2)(L1:b6)(L4:cy):Nat->hs
 |0=>tX
 |n+1=>C1 G N L0 L1 L4 (x0 G N L0 L1 L4 n)
def xW(G:aq)(N:Nat)(L0:T2)(L1:b6)(L4:cy):gM 0 2 3 4 5 6 7 Tryz.f89 G N (·.aa.aa.aj.aj.aa.aj.aa.aa.aj.aj.aa.aj.aj.aa.aa.aj.aa.aj.aj.aa.aj.aj.aa.aa) (ch (nE G N L0 L1 L4) 0 2 3 4 5 6) [(5,(ch (nE G N L0 L1 L4) 0 2 3 4 5 6)),(4,(bI (nD G N L0 L1) 0 2 3 4)),(3,(bn (mT G N L0 L1) 0 2 3)),(2,(bd L0 0 2)),(1,(bd L0 0 2)),(0,(a8 Tryz.f89))]:=⟨_,g2 (ak (bj (bH (λm=>(C1 G N L0 L1 L4 (x0 G N L0 L1 L4 m)).2))) an)⟩
def xX(G:aq)(N:Nat)(L0:T2)(L1:b6)(L4:cy):ql 0 2 3 4 5 6 7 56 57 Tryz.f89 G N (·.aa.aa.aj.aj.aa.aj.aa.aa.aj.aj.aa.aj.aj.aa.aa.aj.aa.aj.aj.aa.aj.aj.aa.aj.aa.aj.aa) (dp (xW G N L0 L1 L4) 0 2 3 4 5 6 7) [(6,(dp (xW G N L0 L1 L4) 0 2 3 4 5 6 7)),(5,(ch (nE G N L0 L1 L4) 0 2 3 4 5 6)),(4,(bI (nD G N L0 L1) 0 2 3 4)),(3,(bn (mT G N L0 L1) 0 2 3)),(2,(bd L0 0 2)),(1,(bd L0 0 2)),(0,(a8 Tryz.f89))]:=⟨_,v9 an⟩
def C0(G:aq)(N:Nat)(L0:T2)(L1:b6)(L4:cy):fD 0 2 3 4 5 6 Tryz.f89 G N (·.aa.aa.aj.aj.aa.aj.aa.aa.aj.aj.aa.aj.aj.aa.aa.aj.aa.aj.aj) (ch L4 0 2 3 4 5 6) [(4,(bI (nD G N L0 L1) 0 2 3 4)),(3,(bn (mT G N L0 L1) 0 2 3)),(2,(bd L0 0 2)),(1,(bd L0 0 2)),(0,(a8 Tryz.f89))]:=⟨_,v6 (ak (ak ((nE G N L0 L1 L4).2) (bj (ak (ak ((xW G N L0 L1 L4).2) (ak (bj (ak ((xX G N L0 L1 L4).2) an)) an)) an))) an)⟩
def rA(G:aq)(N:Nat)(L0:T2)(L1:b6):Nat->cy
 |0=>ir
 |n+1=>C0 G N L0 L1 (rA G N L0 L1 n)
def CZ(G:aq)(N:Nat)(L0:T2)(L1:b6):eh 0 2 3 Tryz.f89 G N (·.aa.aa.aj.aj.aa.aj.aa.aa.aj.aj) (bn L1 0 2 3) [(2,(bd L0 0 2)),(1,(bd L0 0 2)),(0,(a8 Tryz.f89))]:=⟨_,v3 (ak (ak ((mT G N L0 L1).2) (bj (ak (ak (ak ((nD G N L0 L1).2) (ak (bj (bH (λm=>(C0 G N L0 L1 (rA G N L0 L1 m)).2))) an)) an) an))) an)⟩
def xZ(G:aq)(N:Nat)(L0:T2):Nat->b6
 |0=>gD
 |n+1=>CZ G N L0 (xZ G N L0 n)
def CY(G:aq)(N:Nat)(L0:T2):gG 0 2 Tryz.f89 G N (·.aa.aa.aj.aj) (bd L0 0 2) [(0,(a8 Tryz.f89))]:=⟨_,v2 (ak (bj (ak (ak (bj (bH (λm=>(CZ G N L0 (xZ G N L0 m)).2))) an) an)) an)⟩
def xY(G:aq)(N:Nat):Nat->T2
 |0=>m2
 |n+1=>CY G N (xY G N n)
def Rt(G:aq)(N:Nat):fM Tryz.f89 G N:=⟨_,t1 (ak (ak (bj (bH (λm=>(CY G N (xY G N m)).2))) an) an)⟩
def afH(N:Nat):=en Tryz.func89 λG=>(Rt G N).2
def C4(G:aq):W0 Tryz.f91 G (·.aa.aa) (a8 Tryz.f91) []:=⟨_,λN=>v0 an⟩
def yb(G:aq):nT 0 3 6 7 Tryz.f91 G (·.aa.aj.aa.aj.aa) (br (C4 G)) [(0,(br (C4 G)))]:=⟨_,λN=>lI an⟩
def Rv(G:aq):eO Tryz.f91 G:=⟨_,λN=>t2 (ak (ak ((C4 G).2 N) (ak (bj (ak ((yb G).2 N) an)) an)) an)⟩
def afK(N:Nat):=c1 Tryz.func91 λG=>(Rv G).2 N
def Rw(G:aq):jH Tryz.f92 G:=⟨_,λN=>uA an⟩
def afL(N:Nat):=hC Tryz.func92 λG=>(Rw G).2 N
end
end
section
open Go.a_
set_option maxRecDepth 2000
section
variable {x:bC}{H:ae}{ok:Nat->Prop}{R:Nat->Nat->Prop}{m:Nat}
def oN(R:Nat->Nat->Prop)(m j:Nat)(a:List Int):Prop:=∀s,j<=s->s<m->∃t:Nat,a[db R s]? =A (t:Int)/\j<=t/\R s t/\∀u,j<=u->u<m->R s u->t<=u
theorem oN.step(he:gd R){j:Nat}{a:List Int}(h:oN R m (j+1) a)(d:j<m)(c:db R j<a.length):oN R m j (a.set (db R j) (j:Int)):=by
 intro s e b;by_cases ar:R s j
 ·grind[sq]
 ·have f:s≠j:=by rintro rfl;exact ar (he.refl s)
  obtain⟨t,ah,ai,ax,aM⟩:=h s ad b;grind[sq]
theorem oN.end(he:gd R){a:List Int}(h:oN R m 0 a){s:Nat}(b:s<m):a[db R s]? =A ((eg R s:Nat):Int):=by
 obtain⟨t,ah,_,ax,aM⟩:=h s ad b;grind[kd]
theorem Kx(he:gd R){zC zA n:Nat}{ov b c:af}{x1 x2 x3 x4 x9:af}(hm:m<=1000000)(f:zC≠zA){ok:Nat->Prop}(s:∀k,ok k->k≠zA){L0:af->af->af->af->af->ae->O}{Q:af->ae->Prop}{N:Nat}:∀(j q:Nat) (H:ae) (d:List Int),j<=m->j<q->H.get zC=A (.row I 4 [a7 n ov b c])->aH aN H ok (aQ ((List.range m).map (db R))) ov->H.get zA=A (.row I 1 (dJ d))->d.length=(dw R m).length->oN R m j d->
  (∀(H':ae) (d:List Int),kR zA H H'->H'.get zA=A (.row I 1 (dJ d))->d.length=(dw R m).length->oN R m 0 d->W (BS (aK P aG) N L0 x1 x2 x3 x4 (.ptr zC 0 0) x9 (.az zA 0 (dw R m).length 1 (A (dw R m).length)) H') Q)->
  W (wV (aK P aG) N L0 q x1 x2 x3 x4 (.ptr zC 0 0) x9 (.az zA 0 (dw R m).length 1 (A (dw R m).length)) (D F ((j:Int)-1)) H) Q
 |_,0,_,_,_,aJ,_,_,_,_,_,_=>ad
 |0,q+1,H,d,_,_,b4,aZ,cj,h,aP,fin=>by
  have d1:¬(0:Int)<=((0:Nat):Int)-1:=ad;refine bG @wV.eq_2 @BR.eq_1 ?_;exact fin H d (.refl _ _) cj h aP
 |j+1,q+1,H,d,L,aJ,b4,aZ,cj,h,aP,fin=>by
  have v:((j+1:Nat):Int)-1=(j:Int):=ad;have o:j<m:=ad;have aA:=Ei he o;obtain⟨p,x,y⟩:=aZ.int (j:=(j:Int)) (a:=((db R j:Nat):Int)) ad (by simpa using lj (l:=(List.range m).map (db R)) (i:=j) al);have w:ct P 30 (.az zA 0 (dw R m).length 1 (A (dw R m).length)) (D F ((db R j:Nat):Int))=A (.ptr zA (db R j) 0):=nj b0 aA;have st:=DZ cj (i:=db R j) ad (j:Int);have z:IntKind.i64.wrap ((j:Int)-1)=(j:Int)-1:=(by grind[Go.IntWalk.i64_in]);have on:=Kx he (zC:=zC) (zA:=zA) (n:=n) (ov:=ov) (b:=b) (c:=c) (x1:=x1) (x2:=x2) (x3:=x3) (x4:=x4) (x9:=x9) hm f s (L0:=L0) (Q:=Q) (N:=N) j q;rw[v];refine bh @wV.eq_2 @BR.eq_1 (fQ b4) x y (ag w (ag st z)) ?_
  have e:kR zA H (H.set zA (.row I 1 (dJ (d.set (db R j) (j:Int))))):=FH _ _;refine on _ _ ad ad (by rw[e.2 zC f];omega) (aZ.keep λk b r g=>⟨r,by rw[e.2 k (s k r)];exact g⟩) (ae.cH (ae.bq cj)) al (aP.step he o ad) λt u B E G K=>fin t u (e.trans B) E G K
theorem Kw(he:gd R){zC zA B n:Nat}{ov b c:af}{x1 x2 x3 x4:af}(hm:m<=1000000)(o:zC<B){ok:Nat->Prop}(u:∀k,ok k->k<B){i:List Int}(S:i.length=(dw R m).length)(aP:oN R m 0 i){f:List bp}(U:f.length<=100000000){L0:af->af->af->af->af->ae->O}{Q:af->ae->Prop}{N:Nat}:∀(j k q:Nat) (H:ae) (v:af),k+j=m->j<q->B<=H.next->H.get zC=A (.row I 4 [a7 n ov b c])->aH aN H ok (aQ ((List.range m).map (db R))) ov->H.get zA=A (.row I 1 (dJ i))->aY cP B bb H (f++(List.range k).map λs=>bp.same s (eg R s)) v->(∀L n E,v= .az L 0 n 4 E->zA≠L)->
  (∀(H':ae) (v:af),cl B H H'->aY cP B bb H' (f++hK R m) v->W (BT (aK P aG) N L0 x1 x2 x3 x4 (.ptr zC 0 0) v H') Q)->
  W (wU (aK P aG) N L0 q x1 x2 x3 x4 (.ptr zC 0 0) v (.az zA 0 (dw R m).length 1 (A (dw R m).length)) (D F (k:Nat)) H) Q
 |_,_,0,_,_,_,aJ,_,_,_,_,_,_,_=>ad
 |0,k,q+1,H,v,T,_,l,b4,aZ,cj,aw,t,fin=>by
  have an:¬(k:Int)<(m:Int):=ad;have h:∀H0,bE P H0 .len [30] [ov]=A (D F m):=λH0=>by rw[aZ.len b0,g1];simp
  refine cv @wU.eq_2 @BQ.eq_1 (fQ b4) h ?_;obtain rfl:k=m:=ad;exact fin H v (.refl _ _) aw
 |j+1,k,q+1,H,v,T,aJ,l,b4,aZ,cj,aw,t,fin=>by
  have r:k<m:=ad;have h:∀H0,bE P H0 .len [30] [ov]=A (D F m):=λH0=>by rw[aZ.len b0,g1];simp
  obtain⟨p,ab,ah⟩:=aZ.int (j:=(k:Int)) (a:=((db R k:Nat):Int)) ad (by grind[lj]);have V:ct P 30 (.az zA 0 (dw R m).length 1 (A (dw R m).length)) (D F ((db R k:Nat):Int))=A (.ptr zA (db R k) 0):=nj b0 (Ei he r);have aa:=DX cj (aP.end he r);have on:=Kw he (x1:=x1) (x2:=x2) (x3:=x3) (x4:=x4) (zC:=zC) (zA:=zA) (n:=n) (ov:=ov) (b:=b) (c:=c) hm o u S aP U (L0:=L0) (Q:=Q) (N:=N) j (k+1) q;have Y:=ae.bq cj;obtain⟨x,H',d,ak,e,G,M,am⟩:=aY.qo (K:=cP) (ok:=bb) (ok':=bb) ik aw l (au.refl H) (a:= .same k (eg R k)) (cs:=[D F 5,D F (k:Nat),D F (eg R k:Nat),D F 0]) rfl (λ_ _=>trivial) al
  replace d:eA P (H.push (.row I 4 [[D F 5,D F (k:Nat),D F (eg R k:Nat),D F 0]])) [53,53] v (.az H.next 0 1 4 (A 1))=A (x,H'):=d;have hle:H.next+1<=H'.next:=G
  refine bh @wU.eq_2 @BQ.eq_1 (fQ b4) h ab (ag ah (ag V (ag aa (ag @lh d)))) ?_;refine on H' x ad ad ad (by rw[e.2 zC o];omega) (aZ.keep λz b w g=>⟨w,by rw[e.2 z (u z w)];exact g⟩) (by rw[M zA Y t];omega) ?_ ?_ λy v2 ai aj=>fin y v2 (e.trans ai) aj
  ·grind[List.range_succ]
  grind
