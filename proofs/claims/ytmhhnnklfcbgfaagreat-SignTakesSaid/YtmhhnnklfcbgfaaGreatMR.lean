/-
  Texts of one proof, laid together: Tn To Tp Tq SgN Tr Ts Tt ShK Tu.
-/
import Derived.Test.YtmhhnnklfcbgfaaGreatMP
set_option linter.unusedVariables false
set_option linter.unusedSimpArgs false
set_option linter.defProp false
open Option renaming some→A,none→Z
open Bool renaming true→J,false→I
open Go.cv.af renaming int→D,bool→C
open Go.IntKind renaming i64→F
namespace Go.Proofs.YtmhhnnklfcbgfaaGreat
open Go.cv
open Nat (reduceAdd reduceLeDiff)
section
open Go.a2
set_option maxRecDepth 2000
section
variable {U zD zX m:Nat}{lv:af}{p:df}{nv fv:af}{ok:Nat->Prop}
theorem O9{x2:af}{i:Nat}{l:List Nat}(aP:p.nodes[i]? =A l)(hm:m<=60)(ar:∀a∈l,a<m)(S:l.length<=60)(a_:∀a∈l,∀b∈l,bW p a b)(x:∀k,ok k->k≠zD)(y:zX≠zD){L23:af->af->af->af->af->ae->O}{Q:af->ae->Prop}{N:Nat}:∀(j k q:Nat) (H:ae) (L:List Nat),k+j=l.length\/(j=0/\l.length<=k)->1<=k->j<q->eV U zD lv L H->dW m p L->aI (bp aN) H ok (p.nodes.map aO) nv->H.get zX=A (.row I 2 [[nv,fv]])->(∀i a c,i<k->l[0]? =A a->l[i]? =A c->en L a c)->
  (∀(H':ae) (L':List Nat),eV U zD lv L' H'->dW m p L'->ja L L'->(∀a∈l,∀c∈l,en L' a c)->hg zD H H'->W (yB (aK P aD) N L23 (.ptr zX 0 0) x2 (D F (m:Nat)) (.ptr U 0 0) (D F (i:Nat)) H') Q)->
  W (yH (aK P aD) N L23 q (.ptr zX 0 0) x2 (D F (m:Nat)) (.ptr U 0 0) (D F (i:Nat)) (D F (k:Nat)) H) Q
 |_,_,0,_,_,_,_,aH,_,_,_,_,_,_=>aa
 |0,k,q+1,H,L,T,ah,_,s,d,aL,aQ,au,fin=>by
  have ap:¬(k:Int)<(l.length:Int):=aa;obtain⟨ad,w,g,n,a3⟩:=aL.pS (j:=(i:Int)) (a:=l) aa al;have r:∀H0,bD P H0 .len [30] [w]=A (D F l.length):=λH0=>by rw[a3.len bV,fI]
  refine bb @yH.eq_2 @DG.eq_1 (fF aQ) g (n _ (aw.refl _)) r ?_;refine fin H L s d (.refl d.h1) (λa e c aA=> ?_) (.refl _ _);obtain⟨i,aP,rfl⟩:=List.mem_iff_getElem.1 e;obtain⟨i2,ao,rfl⟩:=List.mem_iff_getElem.1 aA;have o:0<l.length:=aa;have u:=au i l[0] l[i] aa al al;have f:=au i2 l[0] l[i2] aa al al;exact(m7 L).trans ((m7 L).symm u) f
 |j+1,k,q+1,H,L,T,ah,aH,s,d,aL,aQ,au,fin=>by
  have E:k<l.length:=aa;have o:0<l.length:=aa;obtain⟨ad,w,g,n,a3⟩:=aL.pS (j:=(i:Int)) (a:=l) aa al;have r:∀H0,bD P H0 .len [30] [w]=A (D F l.length):=λH0=>by rw[a3.len bV,fI]
  obtain⟨av,M,R⟩:=a3.int (j:=0) (a:=(l[0]:Int)) aa (by grind[lJ]);obtain⟨ax,a6,bd⟩:=a3.int (j:=(k:Int)) (a:=(l[k]:Int)) aa (by grind[lJ]);have on:=O9 (x2:=x2) (i:=i) (l:=l) aP hm ar S a_ x y (L23:=L23) (Q:=Q) (N:=N) j (k+1) q;have G:=List.getElem_mem o;have mk:=List.getElem_mem E;have v:l[0]<L.length:=by rw[d.len];grind
  have B:l[k]<L.length:=by rw[d.len];grind
  refine bb @yH.eq_2 @DG.eq_1 (fF aQ) g (n _ (aw.refl _)) (ag r (ag M (ag R (ag a6 bd)))) ?_;refine cB (OH s d.h1 (by rw[d.len];omega) v B) ?_;rintro _ H1 ⟨t,rfl,u,f,z3,z4⟩;refine⟨aa,?_⟩;have ec:hg zD H H1:=⟨aa,λz _ Y=>z4 z Y⟩;have ab:=O6 d (ar _ G) (ar _ mk) (a_ _ G _ mk);have V:∀i a c,i<k+1->l[0]? =A a->l[i]? =A c->en (gg L l[0] l[k]) a c:=by
   intro i a c aP e aA;rcases Nat.lt_or_eq_of_le (Nat.le_of_lt_succ aP)with h|rfl
   ·exact f.j.le _ _ (au i a c h e aA)
   ·simp[o]at e;simp[E]at aA;subst e;subst aA;exact QU d.h1 v B
  refine bM ?_;exact on H1 _ aa aa aa u ab (aL.keep (ec.keep x)) (ec.get aQ y) V λK L2 ai aj ak am an=>fin K L2 ai aj (f.j.trans ak) am (ec.trans an)
theorem O_(d:fY m p)(f:∀k,ok k->k≠zD)(g:zX≠zD){x2:af}{Q:af->ae->Prop}{N:Nat}(z:61<N):∀(j k q:Nat) (H:ae) (L:List Nat),k+j=p.nodes.length->j<q->eV U zD lv L H->dW m p L->aI (bp aN) H ok (p.nodes.map aO) nv->H.get zX=A (.row I 2 [[nv,fv]])->(∀l∈p.nodes.take k,∀a∈l,∀b∈l,en L a b)->
  (∀(H':ae) (L':List Nat),eV U zD lv L' H'->dW m p L'->ic p L'->hg zD H H'->W (uw (aK P aD) N (.ptr zX 0 0) x2 (D F (m:Nat)) (.ptr U 0 0) H') Q)->
  W (yG (aK P aD) N q (.ptr zX 0 0) x2 (D F (m:Nat)) (.ptr U 0 0) (D F (k:Nat)) H) Q
 |_,_,0,_,_,_,aH,_,_,_,_,_,_=>aa
 |0,k,q+1,H,L,B,_,s,t,aL,aQ,au,fin=>by
  have R:¬(k:Int)<(p.nodes.length:Int):=aa;have r:∀H0,bD P H0 .len [31] [nv]=A (D F p.nodes.length):=λH0=>by rw[aL.len dJ,List.length_map]
  refine cu @yG.eq_2 @DF.eq_1 (fF aQ) r ?_;rw[List.take_of_length_le aa]at au;exact fin H L s t ⟨au⟩ (.refl _ _)
 |j+1,k,q+1,H,L,B,aH,s,t,aL,aQ,au,fin=>by
  have w:k<p.nodes.length:=aa;have r:∀H0,bD P H0 .len [31] [nv]=A (D F p.nodes.length):=λH0=>by rw[aL.len dJ,List.length_map]
  have on:=O_ d f g (x2:=x2) (Q:=Q) z j (k+1) q;have S:=d.nn;have e:=List.getElem_mem w;refine cu @yG.eq_2 @DF.eq_1 (fF aQ) r ?_;refine O9 (l:=p.nodes[k]) al d.hm (d.nodes _ e) (d.nl _ e) (λa n b o=> .node e n o) f g (p.nodes[k].length-1) 1 N H L aa aa (by have:=d.nl _ e;omega) s t aL aQ (λi a c aP y v=> ?_) ?_
  ·obtain rfl:i=0:=aa;rw[y]at v;cases v;exact rfl
  intro H1 L1 E G K T u;refine bK @yB.eq_1 ?_;refine on H1 L1 aa aa E G (aL.keep (u.keep f)) (u.get aQ g) (λl ar=> ?_) λx L2 M O z3 z4=>fin x L2 M O z3 (u.trans z4)
  rw[List.take_succ_eq_append_getElem w]at ar;rcases List.mem_append.1 ar with h|h
  ·exactλa n b o=>K.le _ _ (au l h a n b o)
  grind
def ss(p:df)(L:List Nat)(s t:Nat):Prop:=aS L s=aS L t->∀k a b,a∈p.er s k->b∈p.er t k->en L a b
theorem MW{p:df}{s k a:Nat}{fs:List (List Nat)}(b:p.fields[s]? =A fs)(h:a∈p.er s k):∃l,fs[k]? =A l/\a∈l:=by
 grind[df.er]
theorem acD{p:df}{s k a:Nat}{fs:List (List Nat)}{l:List Nat}(c:p.fields[s]? =A fs)(b:fs[k]? =A l)(h:a∈l):a∈p.er s k:=by
 grind[df.er]
theorem Pu(d:fY m p)(o:∀k,ok k->k≠zD)(E:zX≠zD){x2:af}{s:Nat}(ap:s<m){L18:af->af->af->af->af->ae->O}{L19:af->af->af->af->af->af->ae->O}{Q:af->ae->Prop}{N:Nat}:∀(j k q:Nat) (H:ae) (L:List Nat) (b:Bool),k+j=m->j<q->eV U zD lv L H->zD<H.next->dW m p L->aI (bp (bp aN)) H ok (p.fields.map (·.map aO)) fv->H.get zX=A (.row I 2 [[nv,fv]])->(b=I->∀t,t<k->ss p L s t)->
  (∀(H':ae) (L':List Nat) (b':Bool),eV U zD lv L' H'->dW m p L'->jq b L b' L'->(b'=I->∀t,t<m->ss p L' s t)->hg zD H H'->W (r4 (aK P aD) N L18 L19 (.ptr zX 0 0) x2 (D F (m:Nat)) (.ptr U 0 0) (C b') (D F (s:Nat)) H') Q)->
  W (uz (aK P aD) N L18 L19 q (.ptr zX 0 0) x2 (D F (m:Nat)) (.ptr U 0 0) (C b) (D F (s:Nat)) (D F (k:Nat)) H) Q
 |_,_,0,_,_,_,_,aH,_,_,_,_,_,_,_=>aa
 |0,k,q+1,H,L,b,am,_,s1,iT,f,aB,aQ,au,fin=>by
  have aR:¬(k:Int)<(m:Int):=aa;refine bF @uz.eq_2 @DD.eq_1 ?_;obtain rfl:k=m:=aa;exact fin H L b s1 f (.refl f.h1) au (.refl _ _)
 |j+1,k,q+1,H,L,b,am,aH,s1,iT,f,aB,aQ,au,fin=>by
  have ao:=d.hm;have av:s<p.fields.length:=by rw[d.len];omega
  have an:k<p.fields.length:=by rw[d.len];omega
  obtain⟨aV,aZ,T,V,a3⟩:=aB.lists (j:=(s:Int)) (a:=p.fields[s]) aa al;obtain⟨aW,a0,Y,g,ab⟩:=aB.lists (j:=(k:Int)) (a:=p.fields[k]) aa al;have ak:p.fields[s]? =A p.fields[s]:=al;have aj:p.fields[k]? =A p.fields[k]:=al;have u:=List.getElem_mem av;have v:=List.getElem_mem an;have on:=Pu d o E (x2:=x2) ap (L18:=L18) (L19:=L19) (Q:=Q) (N:=N) j (k+1) q;have R:=e8 (show k<=1000000000 by omega);refine bF @uz.eq_2 @DD.eq_1 ?_;refine dK (pU s1 (by rw[f.len];omega)) ?_;refine dK (pU s1 (by rw[f.len];omega)) ?_;by_cases e:aS L s=aS L k
  ·have d1:(((aS L s:Nat):Int)==((aS L k:Nat):Int))=true:=al;have M:bW p s k:=f.sub s k e;refine bb d1 (fF aQ) T (V _ (aw.refl _)) Y (g _ (aw.refl _)) ?_;refine zi (aeM ao (d.wid _ u) (d.wid _ v) (λl ar=>⟨d.dz _ u l ar,d.er _ u l ar⟩) (λl ar=>⟨d.dz _ v l ar,d.er _ v l ar⟩) ?_ o s1 iT f a3 ab) ?_
   ·intro i cy r w B x aF y ax;have K:∀z,z∈cy++r->z∈p.er s i\/z∈p.er k i:=(by grind[acD]);rcases K x aF with ah|ah<;>rcases K y ax with ai|ai
    ·exact .field (.refl s) ah ai
    ·exact .field M ah ai
    ·exact .field (.symm M) ah ai
    ·exact .field (.refl k) ah ai
   rintro _ H1 ⟨L1,t1,rfl,aM,aP,z3,z4,z5⟩;refine⟨z5.1,?_⟩;have ay:ss p L1 s k:=λ_ cR a c ad aA=>by
    obtain⟨cy,w,ah⟩:=MW ak ad;obtain⟨r,B,ai⟩:=MW aj aA;exact z4 cR cy r w B a (List.mem_append.2 (.inl ah)) c (List.mem_append.2 (.inr ai))
   have go:∀b',jq b L b' L1->W (DL (aK P aD) N L18 L19 (uz (aK P aD) N L18 L19 q) (.ptr zX 0 0) x2 (D F (m:Nat)) (.ptr U 0 0) (C b') (D F (s:Nat)) (D F (k:Nat)) H1) Q:=λb' G=>by
    refine bF @DL.eq_1 R ?_;refine on H1 L1 b' aa aa aM (by have:=z5.1;omega) aP (aB.keep (z5.keep o)) (z5.get aQ E) (λn t a_=> ?_) λS L2 g aC aE aG aJ aL=>fin S L2 g aC aE (G.trans aG) aJ (z5.trans aL)
    rcases Nat.lt_or_eq_of_le (Nat.le_of_lt_succ a_)with h|rfl
    ·obtain⟨aT,aU⟩:=G.off n;grind
    ·exact ay
   have aX:=z3.or (b:=b);refine bM ?_;grind
  ·have d1:(((aS L s:Nat):Int)==((aS L k:Nat):Int))=false:=al;refine bK d1 ?_;refine bF @DL.eq_1 R ?_;refine on H L b aa aa s1 iT f aB aQ (λn t a_=> ?_) fin;rcases Nat.lt_or_eq_of_le (Nat.le_of_lt_succ a_)with h|rfl
   ·exact au n t h
   ·exactλh=>absurd h e
theorem Pr(e:fY m p)(c:∀k,ok k->k≠zD)(d:zX≠zD){x2:af}{L18:af->af->af->af->af->ae->O}{Q:af->ae->Prop}{N:Nat}(n:60<N):∀(j k q:Nat) (H:ae) (L:List Nat) (b:Bool),k+j=m->j<q->eV U zD lv L H->zD<H.next->dW m p L->aI (bp (bp aN)) H ok (p.fields.map (·.map aO)) fv->H.get zX=A (.row I 2 [[nv,fv]])->(b=I->∀s,s<k->∀t,t<m->ss p L s t)->
  (∀(H':ae) (L':List Nat) (b':Bool),eV U zD lv L' H'->dW m p L'->jq b L b' L'->(b'=I->∀s,s<m->∀t,t<m->ss p L' s t)->hg zD H H'->W (L18 (.ptr zX 0 0) x2 (D F (m:Nat)) (.ptr U 0 0) (C b') H') Q)->
  W (yF (aK P aD) N L18 q (.ptr zX 0 0) x2 (D F (m:Nat)) (.ptr U 0 0) (C b) (D F (k:Nat)) H) Q
 |_,_,0,_,_,_,_,aH,_,_,_,_,_,_,_=>aa
 |0,k,q+1,H,L,b,o,_,s1,iT,a,aB,aQ,au,fin=>by
  have E:¬(k:Int)<(m:Int):=aa;refine bF @yF.eq_2 @DC.eq_1 ?_;obtain rfl:k=m:=aa;exact fin H L b s1 a (.refl a.h1) au (.refl _ _)
 |j+1,k,q+1,H,L,b,o,aH,s1,iT,a,aB,aQ,au,fin=>by
  have G:=e.hm;have on:=Pr e c d (x2:=x2) (L18:=L18) (Q:=Q) n j (k+1) q;refine bF @yF.eq_2 @DC.eq_1 ?_;refine Pu e c d aa m 0 N H L b aa aa s1 iT a aB aQ aa ?_;intro H1 L1 i z B z3 z4 z5;refine bK @r4.eq_1 ?_;refine on H1 L1 i aa aa z (by have:=z5.1;omega) B (aB.keep (z5.keep c)) (z5.get aQ d) (λf s r=> ?_) λg L2 l u v w x y=>fin g L2 l u v (z3.trans w) x (z5.trans y)
  rcases Nat.lt_or_eq_of_le (Nat.le_of_lt_succ r)with h|rfl
  ·obtain⟨K,M⟩:=z3.off f;grind
  ·exact z4 f
theorem O4(d:fY m p)(e:∀k,ok k->k≠zD)(f:zX≠zD){x2:af}{Q:af->ae->Prop}{N:Nat}(h:60<N):∀(q:Nat) (H:ae) (L:List Nat) (b:Bool),hO L+(if b then 1 else 0)<q->eV U zD lv L H->zD<H.next->dW m p L->ic p L->aI (bp (bp aN)) H ok (p.fields.map (·.map aO)) fv->H.get zX=A (.row I 2 [[nv,fv]])->(b=I->∀s,s<m->∀t,t<m->ss p L s t)->
  (∀(H':ae) (L':List Nat),eV U zD lv L' H'->dW m p L'->ic p L'->ki p L'->hg zD H H'->W (qw (aK P aD) N (.ptr zX 0 0) x2 (D F (m:Nat)) (.ptr U 0 0) H') Q)->
  W (yE (aK P aD) N q (.ptr zX 0 0) x2 (D F (m:Nat)) (.ptr U 0 0) (C b) H) Q
 |0,_,_,_,aH,_,_,_,_,_,_,_,_=>aa
 |q+1,H,L,b,aH,s1,iT,l,aL,aB,aQ,au,fin=>by
  have on:=O4 d e f (x2:=x2) (Q:=Q) h q;cases b with
  |false=>
   refine bF @yE.eq_2 @DB.eq_1 ?_;refine fin H L s1 l aL ⟨λs t k a c o i aA=> ?_⟩ (.refl _ _);have ah:=d.toMay.dz i;have ai:=d.toMay.dz aA;exact au rfl s ah.2.1 t ai.2.1 o k a c i aA
  |true=>
   have B:=d.hm;refine bF @yE.eq_2 @DB.eq_1 ?_;refine Pr d e f h m 0 N H L I aa aa s1 iT l aB aQ aa ?_;intro H1 L1 g y z z3 z4 z5;have hle:=z3.j.rA;simp only[if_true]at aH;refine on H1 L1 g ?_ y (by have:=z5.1;omega) z (aL.Ab z3.j) (aB.keep (z5.keep e)) (z5.get aQ f) z4 λn L2 r u v w x=>fin n L2 r u v w (z5.trans x)
   cases g with
   |false=>grind
   |true=>
    have:=z3.on rfl;grind
end
end
section
open Go.a2
set_option maxRecDepth 2000
def Pb(l n:Nat)(aL:n<=1000000):g5 (h0 P ⟨.leaf,l⟩ 30 (D F n) (D F n)) l=A (.az l 0 n 1 (A n),.row I 1 (dP (List.replicate n 0))):=by
 rw[rz (e:=3) (b:=8) (z:= D F 0) aG aG aG aG rfl rfl b0 b0 l n aa];simp[dP,af.cells]
def aiI{H:ae}{zC n:Nat}{a b c:af}{v:Nat}(g:H.get zC=A (.row I 4 [bl n a b c])):cz P H 3 (.ptr zC 0 0) (D F (v:Nat))=A (H.set zC (.row I 4 [bl v a b c])):=by
 rw[fb (n:=1) aG g rfl rfl rfl b0];rfl
def EO{H:ae}{W:List Int}{zC:Nat}{ro:Bool}(g:H.get zC=A (.row ro 1 (dP W))){i:Nat}{w:Int}(h:W[i]? =A w):aJ P H 3 (.ptr zC i 0)=A (D F w):=by
 rw[eW qG g (oA h)];rfl
def ER{H:ae}{W:List Int}{zC:Nat}(g:H.get zC=A (.row I 1 (dP W))){i:Nat}(aP:i<W.length)(w:Int):cz P H 3 (.ptr zC i 0) (D F w)=A (H.set zC (.row I 1 (dP (W.set i w)))):=by
 rw[fb D_ g (oA (List.getElem?_eq_getElem aP)) rfl rfl aa,<-EP];rfl
section
variable {U zD zX m:Nat}{lv:af}{p:df}{nv fv:af}{ok:Nat->Prop}{L:List Nat}
theorem eV.eu{H H':ae}{B:Nat}(s:eV U zD lv L H)(p:cg B H H')(ah:U<B)(ai:zD<B):eV U zD lv L H':=by
 refine⟨(p.2 U ah).trans s.l7,?_⟩;rcases s.lv with h|⟨a,rest,b,c,d⟩
 ·grind
 ·exact .inr ⟨a,rest,b,(p.2 zD ai).trans c,d⟩
theorem Pp{x1 x2:af}{zC K:Nat}(hm:m<=60)(R:zC<K)(T:U<zC)(S:zD<zC)(c:dW m p L)(aL:ic p L)(aA:ki p L){Q:af->ae->Prop}{N:Nat}:∀(j k q:Nat) (H:ae) (a:List Int),k+j=m->j<q->eV U zD lv L H->H.get zC=A (.row I 1 (dP a))->a.length=m->(∀t,t<k->a[t]? =A ((dj (bW p) t:Nat):Int))->H.get K=A (.row I 4 [bl (dB (bW p) k).length (.az zC 0 m 1 (A m)) .aq .aq])->
  (∀(H':ae),cg zC H H'->(∀z,z<H.next->z≠zC->z≠K->H'.get z=H.get z)->H'.next=H.next->H'.get zC=A (.row I 1 (dP (aO ((List.range m).map (dj (bW p))))))->H'.get K=A (.row I 4 [bl (dB (bW p) m).length (.az zC 0 m 1 (A m)) .aq .aq])->W (yA (aK P aD) N x1 x2 (D F (m:Nat)) (.ptr U 0 0) (.ptr K 0 0) H') Q)->
  W (yD (aK P aD) N q x1 x2 (D F (m:Nat)) (.ptr U 0 0) (.ptr K 0 0) (D F (k:Nat)) H) Q
 |_,_,0,_,_,_,aH,_,_,_,_,_,_=>aa
 |0,k,q+1,H,a,ab,_,s,b5,V,hw,ed,fin=>by
  have ax:¬(k:Int)<(m:Int):=aa;refine bF @yD.eq_2 @DA.eq_1 ?_;obtain rfl:k=m:=aa;have e:a=aO ((List.range k).map (dj (bW p))):=by
   apply List.ext_getElem?;grind[aO]
  refine fin H (.refl _ _) (λ_ _ _ _=>rfl) rfl al ed
 |j+1,k,q+1,H,a,ab,aH,s,b5,V,hw,ed,fin=>by
  have g:k<m:=aa;have on:=Pp (x1:=x1) (x2:=x2) hm R T S c aL aA (Q:=Q) (N:=N) j (k+1) q;have aC:=ae.bm ed;have iS:=ae.bm b5;have dz:=oF c aL aA g;have O:=e8 (show k<=1000000000 by omega);have he:=(bW.cl p).eqv;have l:∀{i:Nat},i<m->ct P 30 (.az zC 0 m 1 (A m)) (D F (i:Nat))=A (.ptr zC i 0):=λaP=>mQ bV aP
  refine bF @yD.eq_2 @DA.eq_1 ?_;refine dK (pU s (by rw[c.len];omega)) ?_;have y:∀{H1:ae},H1.next=H.next->(∀z,z≠zC->z≠K->H1.get z=H.get z)->eV U zD lv L H1/\cg zC H H1:=λah ai=>⟨⟨(ai U aa aa).trans s.l7,by
   rcases s.lv with h|⟨ao,rest,ap,ar,au⟩
   ·grind
   grind⟩,aa,λz b=>ai z aa aa⟩
  by_cases e:aS L k=k
  ·have d1:(((aS L k:Nat):Int)==(k:Int))=true:=al;have ay:et (bW p) k=k:=aa;have E:dj (bW p) k=(dB (bW p) k).length:=by grind[dj]
   have Y:(dB (bW p) (k+1)).length=(dB (bW p) k).length+1:=by
    grind[dB,m3]
   have aB:=vT (bW p) k;generalize (dB (bW p) k).length=cnt at*;have n:=ER b5 (i:=k) aa ((cnt:Nat):Int);have d:∀z,z≠zC->(H.set zC (.row I 1 (dP (a.set k ((cnt:Nat):Int))))).get z=H.get z:=λz b=>ae.b_ (Ne.symm b)
   have B:(H.set zC (.row I 1 (dP (a.set k ((cnt:Nat):Int))))).get K=A (.row I 4 [bl cnt (.az zC 0 m 1 (A m)) .aq .aq]):=al;have av:(H.set zC (.row I 1 (dP (a.set k ((cnt:Nat):Int))))).get zC=A (.row I 1 (dP (a.set k ((cnt:Nat):Int)))):=ae.cO iS;have cX:(H.set zC (.row I 1 (dP (a.set k ((cnt:Nat):Int))))).next=H.next:=rfl
   have an:=e8 (show cnt<=1000000000 by omega);refine cu d1 (hb ed) (l g) n ?_;generalize H.set zC (.row I 1 (dP (a.set k ((cnt:Nat):Int))))=H1 at*;have am:=aiI (v:=cnt+1) B;refine dd (hb B) an am @Ja.eq_1 O ?_;have aj:∀z,z≠K->(H1.set K (.row I 4 [bl (cnt+1) (.az zC 0 m 1 (A m)) .aq .aq])).get z=H1.get z:=(by grind[ae.b_]);have f2:=y (H1:=H1.set K (.row I 4 [bl (cnt+1) (.az zC 0 m 1 (A m)) .aq .aq])) (by simp;omega) al;refine on _ (a.set k ((cnt:Nat):Int)) aa aa f2.1 al al (λt a_=> ?_) (by grind[ae.cO]) λf o r u w x=>fin f (f2.2.trans o) (λz b ah ai=>by rw[r z (by simp;omega) ah ai,aj z ai,d z ah]) (by rw[u];simp;omega) w x
   grind
  ·have d1:(((aS L k:Nat):Int)==(k:Int))=false:=al;have G:=kr he k;rw[<-dz]at G;have ad:aS L k<k:=aa;have E:dj (bW p) (aS L k)=dj (bW p) k:=(sU he).2 (he.symm G.1);have Y:(dB (bW p) (k+1)).length=(dB (bW p) k).length:=by
    grind[dB,m3]
   have M:=hw (aS L k) ad;rw[E]at M;have ak:bG (A (.az zC 0 m 1 (A m))) (.az zC 0 m 1 (A m))=true:=by simp[bG,af.beq]
   have n:=ER b5 (i:=k) aa ((dj (bW p) k:Nat):Int);refine bK d1 ?_;refine dK (pU s (by rw[c.len];omega)) ?_;refine bb (hb ed) (l (show aS L k<m by omega)) (EO b5 M) (l g) n (ag ak (ag @Ja.eq_1 O)) ?_;have d:∀z,z≠zC->(H.set zC (.row I 1 (dP (a.set k ((dj (bW p) k:Nat):Int))))).get z=H.get z:=(by grind[ae.b_]);have f2:=y (H1:=H.set zC (.row I 1 (dP (a.set k ((dj (bW p) k:Nat):Int))))) rfl (λz ah ai=>d z ah);refine on _ (a.set k ((dj (bW p) k:Nat):Int)) aa aa f2.1 (ae.cO iS) al (λt a_=> ?_) al λf o r u w x=>fin f (f2.2.trans o) (λz b ah ai=>by rw[r z (by simp;omega) ah ai,d z ah]) (by rw[u];rfl) w x
   grind
end
end
section
open Go.a2
set_option maxRecDepth 2000
section
variable {U zD zX m:Nat}{lv:af}{p:df}{nv fv:af}{ok:Nat->Prop}{L:List Nat}
structure nz(p:df)(U zD zX m:Nat)(lv nv fv:af)(L:List Nat)(zC K:Nat)(H:ae):Prop where
 fn:eV U zD lv L H
 aQ:H.get zX=some (.row false 2 [[nv,fv]])
 aL:aI (bp aN) H (· <K) (p.nodes.map aO) nv
 aB:aI (bp (bp aN)) H (· <K) (p.fields.map (·.map aO)) fv
 b5:H.get zC=some (.row false 1 (dP (aO ((List.range m).map (dj (bW p))))))
 FY:U<K
 iT:zD<K
 iD:zX<K
 iS:zC<K
def nz.eu{zC K:Nat}{H H':ae}(s:nz p U zD zX m lv nv fv L zC K H)(q:cg K H H'):nz p U zD zX m lv nv fv L zC K H':=
 ⟨s.fn.eu q s.FY s.iT,(q.2 zX s.iD).trans s.aQ,s.aL.keep λk b a g=>⟨a,by rw[q.2 k a];exact g⟩,s.aB.keep λk b a g=>⟨a,by rw[q.2 k a];exact g⟩,(q.2 zC s.iS).trans s.b5,s.FY,s.iT,s.iD,s.iS⟩
theorem nz.cls{zC K:Nat}{H:ae}(s:nz p U zD zX m lv nv fv L zC K H){t:Nat}(a_:t<m):ct P 30 (.az zC 0 m 1 (A m)) (D F (t:Nat))=A (.ptr zC t 0)/\aJ P H 3 (.ptr zC t 0)=A (D F ((dj (bW p) t:Nat):Int)):=
 ⟨mQ bV a_,EO s.b5 (lJ al)⟩
theorem W2{R:Nat->Nat->Prop}:∀{l:List Nat} (h:0<l.length),il R l=((dj R l[0]:Nat):Int)
 |[],h=>al
 |_::_,_=>rfl
theorem Pj{x2:af}{zC K cnt:Nat}(d:fY m p){Q:af->ae->Prop}{N:Nat}:∀(j k q:Nat) (H:ae) (pv:af),k+j=p.nodes.length->j<q->nz p U zD zX m lv nv fv L zC K H->H.get K=A (.row I 4 [bl cnt (.az zC 0 m 1 (A m)) pv .aq])->aZ aN (K+1) ba H ((p.nodes.take k).map (il (bW p))) pv->
  (∀(H':ae) (pv:af),cg K H H'->H'.get K=A (.row I 4 [bl cnt (.az zC 0 m 1 (A m)) pv .aq])->aZ aN (K+1) ba H' (p.nodes.map (il (bW p))) pv->W (ux (aK P aD) N (.ptr zX 0 0) x2 (D F (m:Nat)) (.ptr U 0 0) (.ptr K 0 0) H') Q)->
  W (r5 (aK P aD) N q (.ptr zX 0 0) x2 (D F (m:Nat)) (.ptr U 0 0) (.ptr K 0 0) (D F (k:Nat)) H) Q
 |_,_,0,_,_,_,aH,_,_,_,_=>aa
 |0,k,q+1,H,pv,M,_,s,ed,h,fin=>by
  have ad:¬(k:Int)<(p.nodes.length:Int):=aa;have b:∀H0,bD P H0 .len [31] [nv]=A (D F p.nodes.length):=λH0=>by rw[s.aL.len dJ,List.length_map]
  refine cu @r5.eq_2 @yx.eq_1 (fF s.aQ) b ?_;rw[List.take_of_length_le aa]at h;exact fin H pv (.refl _ _) ed h
 |j+1,k,q+1,H,pv,M,aH,s,ed,h,fin=>by
  have O:k<p.nodes.length:=aa;have ah:=d.nn;have b:∀H0,bD P H0 .len [31] [nv]=A (D F p.nodes.length):=λH0=>by rw[s.aL.len dJ,List.length_map]
  obtain⟨aj,w,f,g,a3⟩:=s.aL.pS (j:=(k:Int)) (a:=p.nodes[k]) aa al;have hm:=List.getElem_mem O;have G:=d.nodes _ hm;have on:=Pj (x2:=x2) (zC:=zC) (K:=K) (cnt:=cnt) d (Q:=Q) (N:=N) j (k+1) q;have ai:=ae.bm ed;have eZ:(p.nodes.take (k+1)).map (il (bW p))=(p.nodes.take k).map (il (bW p))++[il (bW p) p.nodes[k]]:=by grind[List.take_succ_eq_append_getElem]
  rw[eZ]at on;have t:∀H0,bD P H0 .len [30] [w]=A (D F p.nodes[k].length):=λH0=>by rw[a3.len bV,fI]
  have S:=e8 (show k<=1000000000 by omega);have go:W (I_ (aK P aD) N (r5 (aK P aD) N q) (.ptr zX 0 0) x2 (D F (m:Nat)) (.ptr U 0 0) (.ptr K 0 0) (D F (k:Nat)) (D F (il (bW p) p.nodes[k])) H) Q:=by
   generalize il (bW p) p.nodes[k]=z at*;obtain⟨e,H',y,i,l,B,ab⟩:=h.j4 (a:=z) aa al;have E:H'.get K=A (.row I 4 [bl cnt (.az zC 0 m 1 (A m)) pv .aq]):=by rw[l.2 K aa];omega
   have hle:H.next+1<=H'.next:=B
   refine bb @I_.eq_1 @DK.eq_1 (hb ed) @c3 y (ag (Ta E i.az.one) S) ?_;have o:∀z,z≠K->(H'.set K (.row I 4 [bl cnt (.az zC 0 m 1 (A m)) e .aq])).get z=H'.get z:=λz r=>ae.b_ (Ne.symm r)
   have pu:cg K H (H'.set K (.row I 4 [bl cnt (.az zC 0 m 1 (A m)) e .aq])):=⟨by simp;omega,λz r=>by rw[o z aa,l.2 z aa]⟩;exact on _ e aa aa (s.eu pu) (ae.cO aa) (i.qz (λh=>h) _) λu R T V Y=>fin u R (pu.trans T) V Y
  by_cases n:0<p.nodes[k].length
  ·have d0:(0:Int)<(p.nodes[k].length:Int):=aa;obtain⟨ak,v,x⟩:=a3.int (j:=0) (a:=(p.nodes[k][0]:Int)) aa (by grind[lJ]);obtain⟨a6,bd⟩:=s.cls (G _ (List.getElem_mem n));have c:il (bW p) p.nodes[k]=((dj (bW p) p.nodes[k][0]:Nat):Int):=W2 n;rw[c]at go;refine bb @r5.eq_2 @yx.eq_1 (fF s.aQ) b f (ag (g _ (aw.refl _)) (ag t (ag v (ag x (ag (hb ed) (ag a6 bd)))))) ?_;omega
  ·have d0:¬(0:Int)<(p.nodes[k].length:Int):=aa;have c:il (bW p) p.nodes[k]= -1:=by
    rw[List.eq_nil_of_length_eq_zero (show p.nodes[k].length=0 by omega)];rfl
   rw[c]at go;refine bb @r5.eq_2 @yx.eq_1 (fF s.aQ) b f (ag (g _ (aw.refl _)) t) ?_;exact go
def Em(p:df)(m s f t:Nat)(z:Int):Prop:=(z= -1/\∀u,u<t->bW p s u->p.er u f=[])\/∃a,a∈kL p (bW p) m s f/\z=((dj (bW p) a:Nat):Int)
theorem Em.end{s f:Nat}{z:Int}(h:Em p m s f m z):z=il (bW p) (kL p (bW p) m s f):=by
 rcases h with⟨rfl,h⟩|⟨a,ah,rfl⟩
 ·have:kL p (bW p) m s f=[]:=by
   apply List.eq_nil_iff_forall_not_mem.2;grind[vz]
  rw[this];rfl
 ·exact(W3 (bW.cl p).eqv ah Z_).symm
theorem Pf{x2:af}{zC K cnt s f:Nat}{pv qv iv:af}{H:ae}(c:fY m p)(g:dW m p L)(aL:ic p L)(aA:ki p L)(w:s<m)(T:aS L s=s)(E:f<8)(st:nz p U zD zX m lv nv fv L zC K H)(ed:H.get K=A (.row I 4 [bl cnt (.az zC 0 m 1 (A m)) pv qv])){L5:af->af->af->af->af->af->ae->O}{L8:af->af->af->af->af->af->af->af->ae->O}{Q:af->ae->Prop}{N:Nat}
  (fin:W (yy (aK P aD) N L5 L8 (.ptr zX 0 0) x2 (D F (m:Nat)) (.ptr U 0 0) (.ptr K 0 0) (D F (s:Nat)) iv (D F (f:Nat)) (D F (il (bW p) (kL p (bW p) m s f))) H) Q):∀(j k q:Nat) (z:Int),k+j=m->j<q->Em p m s f k z->
  W (yC (aK P aD) N L5 L8 q (.ptr zX 0 0) x2 (D F (m:Nat)) (.ptr U 0 0) (.ptr K 0 0) (D F (s:Nat)) iv (D F (f:Nat)) (D F z) (D F (k:Nat)) H) Q
 |_,_,0,_,_,aH,_=>aa
 |0,k,q+1,z,M,_,d=>by
  have an:¬(k:Int)<(m:Int):=aa;refine bF @yC.eq_2 @Dz.eq_1 ?_;obtain rfl:k=m:=aa;rw[d.end];omega
 |j+1,k,q+1,z,M,aH,d=>by
  have S:k<m:=aa;have ao:=c.hm;have R:k<p.fields.length:=by rw[c.len];omega
  obtain⟨ar,ax,n,o,a3⟩:=st.aB.lists (j:=(k:Int)) (a:=p.fields[k]) aa al;have am:p.fields[k]? =A p.fields[k]:=al;have y:=List.getElem_mem R;have aj:=c.wid _ y;have G:f<p.fields[k].length:=aa;obtain⟨au,ad,r,t,v⟩:=a3.pS (j:=(f:Int)) (a:=p.fields[k][f]) aa al;have ak:p.fields[k][f]? =A p.fields[k][f]:=al;have Y:=List.getElem_mem G;have ah:p.er k f=p.fields[k][f]:=by grind[df.er]
  have x:∀H0,bD P H0 .len [30] [ad]=A (D F p.fields[k][f].length):=λH0=>by rw[v.len bV,fI]
  have on:=Pf (x2:=x2) (iv:=iv) c g aL aA w T E st ed (L5:=L5) (L8:=L8) (Q:=Q) (N:=N) fin j (k+1) q;have l:=e8 (show k<=1000000000 by omega);have ai:=oF g aL aA S;have fls:=oF g aL aA w;have he:=(bW.cl p).eqv;have ab:aS L k=s->bW p s k:=(by grind[pQ]);refine bF @yC.eq_2 @Dz.eq_1 ?_;refine dK (pU st.fn (by rw[g.len];omega)) ?_;by_cases e:aS L k=s
  ·have d1:(((aS L k:Nat):Int)==(s:Int))=true:=al;have ap:=ab e;by_cases B:0<p.fields[k][f].length
   ·have d0:(0:Int)<(p.fields[k][f].length:Int):=aa;obtain⟨av,a6,bd⟩:=v.int (j:=0) (a:=(p.fields[k][f][0]:Int)) aa (by grind[lJ]);obtain⟨b,i⟩:=st.cls (c.er _ y _ Y _ (List.getElem_mem B));refine bb d1 (fF st.aQ) n (o _ (aw.refl _)) r (ag (t _ (aw.refl _)) (ag x (ag (hb ed) (ag a6 (ag bd (ag b (ag i (ag @DJ.eq_1 l)))))))) ?_;exact on _ aa aa (.inr (by grind[vz]))
   ·have d0:¬(0:Int)<(p.fields[k][f].length:Int):=aa;refine bb d1 (fF st.aQ) n (o _ (aw.refl _)) r (ag (t _ (aw.refl _)) (ag x (ag @DJ.eq_1 l))) ?_;refine on z aa aa ?_;rcases d with⟨b,i⟩|h
    ·refine .inl ⟨b,λu hu V=> ?_⟩;grind
    ·exact .inr h
  ·have d1:(((aS L k:Nat):Int)==(s:Int))=false:=al;refine bT d1 @DJ.eq_1 l ?_;refine on z aa aa ?_;rcases d with⟨b,i⟩|h
   ·refine .inl ⟨b,λu hu V=> ?_⟩;grind[pQ]
   ·exact .inr h
end
end
section
open Go.a2
set_option maxRecDepth 2000
section
variable {U zD zX m:Nat}{lv:af}{p:df}{nv fv:af}{ok:Nat->Prop}{L:List Nat}
noncomputable def oG(p:df)(m s k:Nat):List Int:=(List.range k).map λf=>il (bW p) (kL p (bW p) m s f)
theorem ZB(p:df)(m s k:Nat):oG p m s (k+1)=oG p m s k++[il (bW p) (kL p (bW p) m s k)]:=by grind[oG,List.range_succ]
theorem Pg{x2:af}{zC K E cnt s:Nat}{pv qv:af}(b:fY m p)(o:dW m p L)(aL:ic p L)(aA:ki p L)(l:s<m)(i:aS L s=s)(g:K<E){L5:af->af->af->af->af->af->ae->O}{Q:af->ae->Prop}{N:Nat}(B:61<N):∀(j k q:Nat) (H:ae) (iv:af),k+j=8->j<q->nz p U zD zX m lv nv fv L zC K H->H.get K=A (.row I 4 [bl cnt (.az zC 0 m 1 (A m)) pv qv])->E<=H.next->aZ aN E ba H (oG p m s k) iv->
  (∀(H':ae) (iv:af),cg E H H'->aZ aN E ba H' (oG p m s 8) iv->W (qx (aK P aD) N L5 (.ptr zX 0 0) x2 (D F (m:Nat)) (.ptr U 0 0) (.ptr K 0 0) (D F (s:Nat)) iv H') Q)->
  W (yJ (aK P aD) N L5 q (.ptr zX 0 0) x2 (D F (m:Nat)) (.ptr U 0 0) (.ptr K 0 0) (D F (s:Nat)) iv (D F (k:Nat)) H) Q
 |_,_,0,_,_,_,aH,_,_,_,_,_=>aa
 |j,k,q+1,H,iv,d,aH,st,ed,y,h,fin=>by
  have G:s<p.fields.length:=by rw[b.len];omega
  obtain⟨ai,S,e,f,a3⟩:=st.aB.lists (j:=(s:Int)) (a:=p.fields[s]) aa al;have x:=b.wid _ (List.getElem_mem G);have n:∀H0,bD P H0 .len [31] [S]=A (D F 8):=λH0=>by rw[a3.len dJ,List.length_map,x];rfl
  match j,d,aH with
  |0,d,_=>
   have ab:¬(k:Int)<8:=aa;refine bb @yJ.eq_2 @DI.eq_1 (fF st.aQ) e (f _ (aw.refl _)) n ?_;obtain rfl:k=8:=aa;exact fin H iv (.refl _ _) h
  |j+1,d,aH=>
   have on:=Pg (x2:=x2) (zC:=zC) (cnt:=cnt) (pv:=pv) (qv:=qv) b o aL aA l i g (L5:=L5) (Q:=Q) B j (k+1) q;have ad:=b.hm;refine bb @yJ.eq_2 @DI.eq_1 (fF st.aQ) e (f _ (aw.refl _)) n ?_;refine Pf b o aL aA l i aa st ed ?_ (m-s) s N (-1) aa aa (.inl ⟨rfl,λu hu M=> ?_⟩)
   ·rw[ZB]at on;generalize il (bW p) (kL p (bW p) m s k)=z at*;obtain⟨R,H',t,v,c,w,Y⟩:=h.j4 (a:=z) y (by simp[oG];omega);have hle:H.next+1<=H'.next:=w
    refine cu @yy.eq_1 @uy.eq_1 @c3 t ?_;exact on H' R aa aa (st.eu (c.le aa)) (by rw[c.2 K g];omega) aa v λr i2 T V=>fin r i2 (c.trans T) V
   ·have ah:=(kr (bW.cl p).eqv s).2.2 u M;grind[oF]
theorem Pe{x2:af}{zC K cnt:Nat}{pv:af}{lsn:List Int}(g:fY m p)(c:dW m p L)(aL:ic p L)(aA:ki p L){Q:af->ae->Prop}{N:Nat}(t:61<N):∀(j k q:Nat) (H:ae) (E:Nat) (qv:af),k+j=m->j<q->nz p U zD zX m lv nv fv L zC K H->H.get K=A (.row I 4 [bl cnt (.az zC 0 m 1 (A m)) pv qv])->K<E->E<=H.next->aI aN H (λz=>K+1<=z/\z<E) lsn pv->aZ (bp aN) E (E<= ·) H ((dB (bW p) k).map λr=>oG p m r 8) qv->
  (∀(H':ae) (qv:af),cg K H H'->H'.get K=A (.row I 4 [bl cnt (.az zC 0 m 1 (A m)) pv qv])->aI aN H' (λz=>K+1<=z) lsn pv->aI (bp aN) H' (λz=>K+1<=z) ((dB (bW p) m).map λr=>oG p m r 8) qv->W (nb (aK P aD) N x2 (.ptr K 0 0) H') Q)->
  W (yI (aK P aD) N q (.ptr zX 0 0) x2 (D F (m:Nat)) (.ptr U 0 0) (.ptr K 0 0) (D F (k:Nat)) H) Q
 |_,_,0,_,_,_,_,aH,_,_,_,_,_,_,_=>aa
 |0,k,q+1,H,E,qv,O,_,st,ed,f,s,ar,h,fin=>by
  have ad:¬(k:Int)<(m:Int):=aa;refine bF @yI.eq_2 @DH.eq_1 ?_;obtain rfl:k=m:=aa;exact fin H qv (.refl _ _) ed (ar.keep (.le aa)) (h.az.keep (.le aa))
 |j+1,k,q+1,H,E,qv,O,aH,st,ed,f,s,ar,h,fin=>by
  have u:k<m:=aa;have ah:=g.hm;have on:=Pe (x2:=x2) (cnt:=cnt) (pv:=pv) (lsn:=lsn) (zC:=zC) (K:=K) g c aL aA (Q:=Q) t j (k+1) q;have w:=e8 (show k<=1000000000 by omega);have dz:=oF c aL aA u;refine bF @yI.eq_2 @DH.eq_1 ?_;refine dK (pU st.fn (by rw[c.len];omega)) ?_;by_cases e:aS L k=k
  ·have d1:(((aS L k:Nat):Int) != (k:Int))=false:=al;have rs:dB (bW p) (k+1)=dB (bW p) k++[k]:=by grind[dB,m3]
   rw[rs,List.map_append]at on;refine bK d1 ?_;refine Pg g c aL aA u e aa t 8 0 N H .aq aa aa st ed Nat.le.refl (aZ.nil _ _ _ _) ?_;intro H1 iv pu aP;have i:aw H H1:=pu.aC;have aj:=vT (bW p) k;obtain⟨l,H',y,n,d,ab⟩:=h.qV dJ s i (aP.kt fy) al;have G:=i.get ed;have B:H'.get K=A (.row I 4 [bl cnt (.az zC 0 m 1 (A m)) pv qv]):=by rw[d.2 K f];omega
   refine bb @qx.eq_1 @n1.eq_1 (hb G) (λz0=>qB z0 aP.az.one) y (ag (Tb B n.az.one) w) ?_;have o:∀z,z≠K->(H'.set K (.row I 4 [bl cnt (.az zC 0 m 1 (A m)) pv l])).get z=H'.get z:=(by grind[ae.b_]);have ai:=i.1;have v:cg K H (H'.set K (.row I 4 [bl cnt (.az zC 0 m 1 (A m)) pv l])):=⟨by simp;omega,λz a=>by rw[o z aa,d.2 z aa]⟩;refine on _ E l aa aa (st.eu v) (ae.cO aa) f (by simp;omega) (ar.keep λz b a M=>⟨a,by rw[o z aa,d.2 z a.2];omega⟩) (n.keep λz b a M=>al) λx R S T V Y=>fin x R (v.trans S) T V Y
  ·have d1:(((aS L k:Nat):Int) != (k:Int))=true:=al;have rs:dB (bW p) (k+1)=dB (bW p) k:=by grind[dB,m3]
   rw[rs]at on;refine bT d1 @n1.eq_1 w ?_;grind
end
def aeA{H:ae}{ok:Nat->Prop}{m:Nat}{p:df}{nv fv:af}(h:fY m p)(E:aI (bp aN) H ok (p.nodes.map aO) nv)(v:aI (bp (bp aN)) H ok (p.fields.map (·.map aO)) fv):
  W (aK P aD 83 [.agg [nv,fv]] H) λr H'=>∃aj,r= .tuple [aj,D F 0]/\ky H' (λL=>H.next<=L) (merge p m) aj/\aw H H':=by
 have hm:=h.hm;have bM:=h.nn;refine agX (p.nodes.length+m+100) ?_;generalize bJ:p.nodes.length+m+100=N;obtain⟨zX,u⟩:∃zX,zX=H.next:=⟨_,rfl⟩
 have ah:fl H.next (.agg [nv,fv])=A (.ptr H.next 0 0,.row I 2 [[nv,fv]]):=mH _ _ (by simp[E.one,v.one])
 have bq:=aw.push H (.row I 2 [[nv,fv]]);have aQ:=ae.a1 H (.row I 2 [[nv,fv]]);have aM:=aw.push (H.push (.row I 2 [[nv,fv]])) (.row I 4 [bl 0 .aq .aq .aq]);have cp:=ae.a1 (H.push (.row I 2 [[nv,fv]])) (.row I 4 [bl 0 .aq .aq .aq]);have y:=aM.get aQ;have cX:(H.push (.row I 2 [[nv,fv]])).next=zX+1:=by rw[u];rfl
 have bu:∀(k:af->ae->O),fA (H.push (.row I 2 [[nv,fv]])) [D F 0,.aq,.aq,.aq] k=k (.ptr (zX+1) 0 0) ((H.push (.row I 2 [[nv,fv]])).push (.row I 4 [bl 0 .aq .aq .aq])):=λk=>by rw[kf,kh,cX];rfl
 rw[cX]at cp;rw[<-u]at y;rw[<-u]at ah;simp only[Su,<-u,ah,nq,bu];have w:=bq.trans aM;generalize be:(H.push (.row I 2 [[nv,fv]])).push (.row I 4 [bl 0 .aq .aq .aq])=aT at*;have bP:aT.next=zX+2:=by rw[<-be,u];rfl
 refine bK (m0 y) ?_;refine bz (ajp h (E.aC w) (v.aC w)) λaU V=> ?_
 have bc:=V.get y;have bj:∀H0,bD P H0 .len [152] [fv]=A (D F m):=λH0=>by rw[v.len nO,List.length_map,h.len]
 refine bF (fF bc) bj ?_;refine cB (ZG aa) ?_;rintro _ ab ⟨zD,lv,rfl,R,bg,bN,aL⟩;refine⟨aL.1,?_⟩;obtain⟨U,bf⟩:∃U,U=aU.next:=⟨_,rfl⟩
 rw[<-bf]at R bg ⊢;have M:=V.trans aL;have bA:=V.1;have au:=M.get y;have a5:=M.get cp;have G:du H ok ab (· <zX):=λz b _ g=>⟨by have:=ae.bm g;omega,M.get (w.get g)⟩
 have bO:=ae.bm R.l7;have bL:(List.range m).length=m:=aW;refine O_ h (ok:=(· <zX)) (λk (bh:k<zX)=>aa) aa aa p.nodes.length 0 N ab (List.range m) aa aa R (dW.start m p) (E.keep G) au (λl ar=>al) ?_;intro ad L5 a0 aG bk o;have av:=o.get au aa;have a6:=o.get a5 aa;have K:du H ok ad (· <zX):=λz b d g=>⟨(G z b d g).1,o.get (G z b d g).2 (by have:=(G z b d g).1;omega)⟩
 rw[uw];refine O4 h (ok:=(· <zX)) (λk (bh:k<zX)=>aa) aa aa N ad L5 J (by have:=PL L5;have:=aG.len;grind) a0 (by have:=o.1;omega) aG bk (v.keep K) av (λe=>by cases e) ?_;intro j L6 a2 aH aJ ai s;have bd:=s.get av aa;have a7:=s.get a6 aa;have bC:=o.1;have bE:=s.1;have aA:du H ok j (· <zX):=λz b d g=>⟨(K z b d g).1,s.get (K z b d g).2 (by have:=(K z b d g).1;omega)⟩
 obtain⟨zC,S⟩:∃zC,zC=j.next:=⟨_,rfl⟩
 have bo:=aw.push j (.row I 1 (dP (List.replicate m 0)));have b5:=ae.a1 j (.row I 1 (dP (List.replicate m 0)));have aX:ey P 33 [(1,.az zC 0 m 1 (A m))]=A (.agg [D F 0,.az zC 0 m 1 (A m),.aq,.aq]):=KW rfl;have mk:=Pb j.next m aa
 rw[<-S]at b5 mk;have n7:(j.push (.row I 1 (dP (List.replicate m 0)))).next=zC+1:=by rw[S];rfl
 refine cu @qw.eq_1 S.symm mk aX ?_;generalize j.push (.row I 1 (dP (List.replicate m 0)))=f at*;have aP:=aw.push f (.row I 4 [bl 0 (.az zC 0 m 1 (A m)) .aq .aq]);have ed:=ae.a1 f (.row I 4 [bl 0 (.az zC 0 m 1 (A m)) .aq .aq]);have st:=k1 (n:=0) (a:= .az zC 0 m 1 (A m)) (b:= .aq) (c:= .aq) (ae.a1 f (.row I 4 [bl 0 .aq .aq .aq])) rfl rfl rfl rfl;have dt:(f.push (.row I 4 [bl 0 .aq .aq .aq])).set f.next (.row I 4 [bl 0 (.az zC 0 m 1 (A m)) .aq .aq])=f.push (.row I 4 [bl 0 (.az zC 0 m 1 (A m)) .aq .aq]):=ae.gD Nat.le.refl Nat.le.refl
 rw[dt,n7]at st;rw[n7]at ed;have n8:(f.push (.row I 4 [bl 0 (.az zC 0 m 1 (A m)) .aq .aq])).next=zC+2:=by show f.next+1=_;omega
 have bs:cz P (f.push (.row I 4 [[D F 0,.aq,.aq,.aq]])) 33 (.ptr (zC+1) 0 0) (.agg [D F 0,.az zC 0 m 1 (A m),.aq,.aq])=A (f.push (.row I 4 [bl 0 (.az zC 0 m 1 (A m)) .aq .aq])):=st;have hle:(f.push (.row I 4 [[D F 0,.aq,.aq,.aq]])).next<=(f.push (.row I 4 [bl 0 (.az zC 0 m 1 (A m)) .aq .aq])).next:=Nat.le.refl
 refine bK bs ?_;have q:=bo.trans aP;have a9:=aP.get b5;have bw:=q.get bd;have a8:=q.get a7;have ak:=a2.aC q;have T:du H ok (f.push (.row I 4 [bl 0 (.az zC 0 m 1 (A m)) .aq .aq])) (· <zX):=λz b d g=>⟨(aA z b d g).1,q.get (aA z b d g).2⟩
 generalize f.push (.row I 4 [bl 0 (.az zC 0 m 1 (A m)) .aq .aq])=aV at*;have z0:(dB (bW p) 0).length=0:=rfl;refine Pp hm (show zC<zC+1 by omega) aa aa aH aJ ai m 0 N aV (List.replicate m 0) aa aa ak a9 aW (λt a_=>aa) al ?_;intro x Q bQ n10 an ba;rw[yA];have aS:nz p U zD zX m lv nv fv L6 zC (zC+1) x:=by
  have ax:du H ok x (· <zC+1):=λz b d g=>⟨by have:=(T z b d g).1;omega,by rw[Q.2 z (by have:=(T z b d g).1;omega)];exact(T z b d g).2⟩
  exact⟨ak.eu Q aa aa,al,E.keep ax,v.keep ax,an,aa,aa,aa,aa⟩
 have a3:x.get (zX+1)=_:=(Q.2 (zX+1) aa).trans a8;refine Pj h p.nodes.length 0 N x .aq aa aa aS ba (aZ.nil _ _ _ _) ?_;intro Y pv aR ap aB;rw[ux];refine Pe h aH aJ ai aa m 0 N Y Y.next .aq aa aa (aS.eu aR) ap (ae.bm ap) Nat.le.refl ((aB.kt fy).keep λz b d g=>⟨⟨d,ae.bm g⟩,g⟩) (aZ.nil _ _ _ _) ?_
 intro i qv br bb aF f12;have pu:=aR.trans br;have am:i.get (zX+1)=_:=(pu.2 (zX+1) aa).trans a3;have bv:=(pu.2 zC aa).trans an;have bi:=ae.bm am;have bt:=k1 (n:=(dB (bW p) m).length) (a:= .az zC 0 m 1 (A m)) (b:=pv) (c:=qv) am rfl rfl aF.one f12.one;have a4:(i.set (zX+1) (.row I 4 [bl (dB (bW p) m).length (.az zC 0 m 1 (A m)) pv qv])).get (zX+1)=A (.row I 4 [bl (dB (bW p) m).length (.az zC 0 m 1 (A m)) pv qv]):=ae.cO bi;have bn:∀z,z≠zX+1->(i.set (zX+1) (.row I 4 [bl (dB (bW p) m).length (.az zC 0 m 1 (A m)) pv qv])).get z=i.get z:=λz d=>ae.b_ (Ne.symm d)
 refine cu @nb.eq_1 (kq bb) bt (kq a4) ?_;have bG:=pu.1;have bH:=w.1;have bx:=q.1;have ay:∀{B:Nat},zC<=B->du i (λz=>B<=z) (i.set (zX+1) (.row I 4 [bl (dB (bW p) m).length (.az zC 0 m 1 (A m)) pv qv])) (λL=>zX<=L):=λbI z b (d:_<=z) g=>⟨aa,al⟩
 have ao:(i.set (zX+1) (.row I 4 [bl (dB (bW p) m).length (.az zC 0 m 1 (A m)) pv qv])).get zC=A (.row I 1 (dP (aO ((List.range m).map (dj (bW p)))))):=al;refine aE.2 ⟨_,rfl,⟨.az zC 0 m 1 (A m),pv,qv,rfl,?_,?_,?_,?_⟩,by simp;omega,λz d=> ?_⟩
 ·have e:dP (aO ((List.range m).map (dj (bW p))))=eD ((List.range m).map (dj (bW p))):=by simp[dP,eD,aO]
  rw[e]at ao;exact Jq (m:=m) aW ao (λL=>zX<=L) aa
 ·exact aF.keep (ay aa)
 ·have e:(merge p m).fields=(dB (bW p) m).map λr=>oG p m r 8:=rfl
  rw[e];exact f12.keep (ay aa)
 ·exact aB.cap
 ·rw[bn z aa,pu.2 z aa,Q.2 z aa,q.2 z aa,s.2 z aa aa,o.2 z aa aa,M.2 z aa,w.2 z d]
end
end Go.Proofs.YtmhhnnklfcbgfaaGreat
namespace Go.a2
open Go.cv
open Classical
structure oj(fs:List (List Int))(roots:List Int)(met:List Bool):Prop where
 len:met.length=fs.length
 snd:∀c:Nat,dr met c=true->fC fs roots c
def uN(fs:List (List Int))(met:List Bool)(c:Nat):Prop:=dr met c=J->∀f,fs[c]? =A f->∀d:Nat,(d:Int)∈f->d<fs.length->dr met d=J
theorem oj.set{fs:List (List Int)}{roots:List Int}{met:List Bool}(h:oj fs roots met){d:Nat}(a:d<fs.length)(au:fC fs roots d):oj fs roots (met.set d J):=by
 refine⟨by rw[List.length_set];exact h.len,λc aA=> ?_⟩;rcases(zy (by rw[h.len];omega)).1 aA with rfl|ah
 ·omega
 ·exact h.snd c ah
def oj.list{fs:List (List Int)}{roots:List Int}{met:List Bool}(h:oj fs roots met)(au:∀n:Nat,(n:Int)∈roots->n<fs.length->dr met n=J)(aA:∀c,c<fs.length->uN fs met c):
  iY met 0=(fa fs roots).map λ(n:Nat)=>(n:Int):=by
 have aP:∀c:Nat,dr met c=J↔fC fs roots c:=by
  intro c;refine⟨h.snd c,λb=> ?_⟩
  induction b with
  |root ah ai=>grind
  |step _ aB a ar i=>exact aA _ (by grind) i _ aB _ a ar
 have:=D9 (m:=fs.length) (p:=fC fs roots) (bs:=met) (k:=0) (by have:=h.len;omega) (by grind[zz]);grind[fa,List.filter_eq_self]
structure mx(t:Bool)(l:List Bool)(b:Bool)(a:List Bool):Prop where
 len:a.length=l.length
 le:ly l<=ly a
 on:b=true->t=true\/ly l<ly a
 off:b=false->t=false/\a=l
 up:∀c,dr l c=true->dr a c=true
theorem mx.refl(t:Bool)(l:List Bool):mx t l t l:=⟨rfl,(by omega),.inl,λh=>⟨h,rfl⟩,λ_ h=>h⟩
theorem mx.trans{t j m:Bool}{l g i:List Bool}(h:mx t l j g)(k:mx j g m i):mx t l m i:=
 ⟨k.len.trans h.len,Nat.le_trans h.le k.le,λe=>by
  rcases k.on e with f|f
  ·rcases h.on f with n|n
   ·grind
   ·exact .inr (by have:=k.le;omega)
  ·exact .inr (by have:=h.le;omega),λe=>by
  obtain⟨a,b⟩:=k.off e;obtain⟨c,d⟩:=h.off a;grind,λc q=>k.up c (h.up c q)⟩
theorem mx.set{t:Bool}{l:List Bool}{s:Nat}(h:l[s]? =A I):mx t l J (l.set s J):=by
 have ah:=Gn h;have ai:=(List.getElem?_eq_some_iff.1 h).1;exact⟨List.length_set,by omega,(by omega),λe=>(by cases e),(by grind[zy])⟩
theorem oj.start(fs:List (List Int))(roots:List Int):oj fs roots (List.replicate fs.length I):=
 ⟨by simp,(by grind[La])⟩
def gU:List Int->Int->List Int
 |[],v=>[v]
 |a::ft,v=>if a<v then a::gU ft v else if a=v then a::ft else v::a::ft
theorem Gd{v b:Int}:∀{l:List Int},b∈gU l v↔b=v\/b∈l
 |[]=>by simp[gU]
 |a::ft=>by
  have:=Gd (v:=v) (b:=b) (l:=ft);grind[gU]
def fP(l:List Int):Prop:=l.Pairwise (· < ·)
def Q9{v:Int}:∀{l:List Int},fP l->fP (gU l v)
 |[],_=>by simp[gU,fP]
 |a::ft,h=>by
  unfold fP at h ⊢;rw[List.pairwise_cons]at h;unfold gU;split
  ·rename_i d;rw[List.pairwise_cons];refine⟨λb c=> ?_,Q9 h.2⟩;grind[Gd]
  grind[List.pairwise_cons]
theorem AS{v:Int}:∀{l:List Int},(gU l v).length<=l.length+1
 |[]=>by simp[gU]
 |a::ft=>by
  have:=AS (v:=v) (l:=ft);grind[gU]
def QA{v:Int}:∀{l:List Int},l.length<=(gU l v).length
 |[]=>by grind
 |a::ft=>by
  have:=QA (v:=v) (l:=ft);grind[gU]
def QB{v:Int}:∀{l:List Int},fP l->v∈l->gU l v=l
 |[],_,h=>by grind
 |a::ft,au,h=>by
  unfold fP at au;rw[List.pairwise_cons]at au;unfold gU;split
  ·rename_i b;rcases List.mem_cons.1 h with rfl|ah
   ·omega
   ·rw[QB au.2 ah]
  grind
def QC{v:Int}:∀{l:List Int},v∉l->(gU l v).length=l.length+1
 |[],_=>by simp[gU]
 |a::ft,h=>by
  simp only[List.mem_cons,not_or]at h;have:=QC (v:=v) (l:=ft) h.2;grind[gU]
theorem Q7:∀{l r:List Int},fP l->fP r->(∀a,a∈l↔a∈r)->l=r
 |[],[],_,_,_=>rfl
 |[],b::r,_,_,h=>by have:=(h b).2 (by simp);grind
 |a::l,[],_,_,h=>by have:=(h a).1 (by simp);grind
 |a::l,b::r,ar,au,h=>by
  unfold fP at ar au;rw[List.pairwise_cons]at ar au;have e:a=b:=by
   have ah:=(h a).1 (by simp);have ai:=(h b).2 (by simp);grind
  subst e;rw[Q7 (l:=l) (r:=r) ar.2 au.2 λc=> ?_];grind
def aex{l:List Nat}(h:l.Pairwise (· < ·)):fP (l.map λ(n:Nat)=>(n:Int)):=by
 grind[fP]
theorem GY(m:Nat)(p:Nat->Prop):fP ((db m p).map λ(n:Nat)=>(n:Int)):=aex (vL m p)
def vW{m:Nat}{p:Nat->Prop}{l:List Int}(h:fP l)(hm:∀a∈l,∃n:Nat,a=n/\n<m/\p n)(b:∀n:Nat,n<m->p n->(n:Int)∈l):l=(db m p).map λ(n:Nat)=>(n:Int):=by
 grind[Q7,GY,g4]
def vV{m:Nat}{l:List Int}(h:fP l)(hm:∀a∈l,0<=a/\a<m):l.length<=m:=by
 have:=vW (m:=m) (p:=λn=>(n:Int)∈l) h (λa b=>⟨a.toNat,by grind,by grind,by grind⟩) λn _ aL=>aL
 grind[db]
def gV(l:List Int):List Int->List Int
 |[]=>l
 |a::ft=>gV (gU l a) ft
theorem Ay{b:Int}:∀{r l:List Int},b∈gV l r↔b∈l\/b∈r
 |[],l=>by simp[gV]
 |a::r,l=>by
  rw[gV,Ay (r:=r),Gd];grind
theorem vX:∀{r l:List Int},fP l->fP (gV l r)
 |[],_,h=>h
 |a::r,l,h=>by rw[gV];exact vX (Q9 h)
def sO(a b:List Int):List Int:=gV (gV [] a) b
def OY{a b:List Int}{c:Int}:c∈sO a b↔c∈a\/c∈b:=by
 grind[sO,Ay]
def Q5(a b:List Int):fP (sO a b):=vX (vX List.Pairwise.nil)
def h3(a b:List Int):List Int:=a.filter λc=>decide (c∉b)
theorem Ga{a b:List Int}{c:Int}:c∈h3 a b↔c∈a/\c∉b:=by simp[h3]
def Q8{a b:List Int}(h:fP a):fP (h3 a b):=List.Pairwise.filter _ h
end Go.a2
namespace Go.Proofs.YtmhhnnklfcbgfaaGreat
open Go.cv
open Nat (reduceAdd reduceLeDiff)
section
open Go.a2
set_option maxRecDepth 2000
section
variable {H:ae}{ok ok':Nat->Prop}
theorem Q4{l r:List Int}{v w:af}(h:aI aN H ok l v)(ai:aI aN H ok' r w)(ar:l.length=r.length)(b:l.length<=1000000000){N:Nat}:∀(j k m:Nat),k+j=l.length->j<m->l.take k=r.take k->W (wN (aK P aD) N m v w (D F (k:Nat)) H) λq H'=>q= C (decide (l=r))/\H'=H
 |_,_,0,_,hm,_=>aa
 |0,k,m+1,c,_,aL=>by
  have i:¬(k:Int)<(l.length:Int):=aa;refine cu @wN.eq_2 @BJ.eq_1 @Hq.eq_1 (h.bf bV) ?_;grind[aE]
 |j+1,k,m+1,c,hm,aL=>by
  have n:k<l.length:=aa;have o:k<r.length:=aa;obtain⟨p,d,e⟩:=h.int (j:=(k:Int)) (a:=l[k]) aa al;obtain⟨s,f,g⟩:=ai.int (j:=(k:Int)) (a:=r[k]) aa al;refine bb @wN.eq_2 @BJ.eq_1 (h.bf bV) d e (ag f g) ?_;by_cases he:l[k]=r[k]
  ·rw[show(l[k] != r[k])=I by grind];refine bM ?_;refine Q4 h ai ar b j (k+1) m aa aa ?_;grind[List.take_succ_eq_append_getElem]
  ·rw[show(l[k] != r[k])=J by grind];refine bM ?_;refine aE.2 ⟨?_,rfl⟩;rw[decide_eq_false];grind
theorem GW{l r:List Int}{v w:af}(h:aI aN H ok l v)(ai:aI aN H ok' r w)(a:l.length<=1000000000):W (aK P aD 13 [v,w] H) λq H'=>q= C (decide (l=r))/\H'=H:=by
 refine ae5 (l.length+1) ?_;by_cases ar:l.length=r.length
 ·have e:(((l.length:Nat):Int) != ((r.length:Nat):Int))=false:=al;refine cu @we.eq_1 (h.bf bV) (ai.bf bV) e ?_;exact Q4 h ai ar a l.length 0 (l.length+1) aa aa aW
 ·have e:(((l.length:Nat):Int) != ((r.length:Nat):Int))=true:=bne_iff_ne.2 aa;refine cu @we.eq_1 (h.bf bV) (ai.bf bV) e ?_;refine aE.2 ⟨?_,rfl⟩;rw[decide_eq_false];grind
theorem Rm{l r:List (List Int)}{v w:af}(h:aI (bp aN) H ok l v)(ai:aI (bp aN) H ok' r w)(ar:l.length=r.length)(c:l.length<=1000000000)(b:∀a∈l,a.length<=1000000000){N:Nat}:∀(j k m:Nat),k+j=l.length->j<m->l.take k=r.take k->W (wT (aK P aD) N m v w (D F (k:Nat)) H) λq H'=>q= C (decide (l=r))/\H'=H
 |_,_,0,_,hm,_=>aa
 |0,k,m+1,d,_,aL=>by
  have t:¬(k:Int)<(l.length:Int):=aa;refine cu @wT.eq_2 @BR.eq_1 @HH.eq_1 (h.bf dJ) ?_;grind[aE]
 |j+1,k,m+1,d,hm,aL=>by
  have e:k<l.length:=aa;have x:k<r.length:=aa;obtain⟨p,u,f,g,i⟩:=h.list (j:=(k:Int)) (a:=l[k]) aa al;obtain⟨y,z,n,o,s⟩:=ai.list (j:=(k:Int)) (a:=r[k]) aa al;refine bb @wT.eq_2 @BR.eq_1 (h.bf dJ) f g (ag n o) ?_;refine dK (GW i s (b _ (List.getElem_mem e))) ?_;by_cases he:l[k]=r[k]
  ·refine bK he ?_;refine Rm h ai ar c b j (k+1) m aa aa ?_;grind[List.take_succ_eq_append_getElem]
  ·refine bK he ?_;refine aE.2 ⟨?_,rfl⟩;rw[decide_eq_false];grind
theorem Rn{l r:List (List Int)}{v w:af}(h:aI (bp aN) H ok l v)(ai:aI (bp aN) H ok' r w)(b:l.length<=1000000000)(c:∀a∈l,a.length<=1000000000):W (aK P aD 17 [v,w] H) λq H'=>q= C (decide (l=r))/\H'=H:=by
 refine afo (l.length+1) ?_;by_cases ar:l.length=r.length
 ·have e:(((l.length:Nat):Int) != ((r.length:Nat):Int))=false:=al;refine cu @wQ.eq_1 (h.bf dJ) (ai.bf dJ) e ?_;exact Rm h ai ar b c l.length 0 (l.length+1) aa aa aW
 ·have e:(((l.length:Nat):Int) != ((r.length:Nat):Int))=true:=bne_iff_ne.2 aa;refine cu @wQ.eq_1 (h.bf dJ) (ai.bf dJ) e ?_;refine aE.2 ⟨?_,rfl⟩;rw[decide_eq_false];grind
theorem Q2{l:List Int}{v:af}{a:Int}(h:aI aN H ok l v)(b:l.length<=1000000000){N:Nat}:∀(j k m:Nat),k+j=l.length->j<m->a∉l.take k->W (xD (aK P aD) N m v (D F a) (D F (k:Nat)) H) λq H'=>q= C (decide (a∈l))/\H'=H
 |_,_,0,_,hm,_=>aa
 |0,k,m+1,c,_,aL=>by
  have f:¬(k:Int)<(l.length:Int):=aa;refine cu @xD.eq_2 @Cx.eq_1 @ID.eq_1 (h.bf bV) ?_;grind[aE]
 |j+1,k,m+1,c,hm,aL=>by
  have g:k<l.length:=aa;obtain⟨p,d,e⟩:=h.int (j:=(k:Int)) (a:=l[k]) aa al;refine dd @xD.eq_2 @Cx.eq_1 (h.bf bV) d e ?_;by_cases he:l[k]=a
  ·grind[aE]
  ·rw[show(l[k]==a)=I by grind];refine bM ?_;refine Q2 h b j (k+1) m aa aa ?_;grind[List.take_succ_eq_append_getElem]
def Q3{l:List Int}{v:af}{a:Int}(h:aI aN H ok l v)(b:l.length<=1000000000):W (aK P aD 31 [v,D F a] H) λq H'=>q= C (decide (a∈l))/\H'=H:=by
 refine agr (l.length+1) ?_;rw[Sh];exact Q2 h b l.length 0 (l.length+1) aa aa aW
theorem Rb{l g:List Int}{v w:af}{B:Nat}(u:l.length<=1000000)(d:g.length<=1000000000){N:Nat}:∀(j k m:Nat) (H:ae) (r:List Int) (rv:af),k+j=l.length->j<m->aI aN H (· <B) l v->aI aN H (· <B) g w->B<=H.next->aZ aN B ba H r rv->r.length<=k->
  W (xw (aK P aD) N m v w rv (D F (k:Nat)) H) λq H'=>aZ aN B ba H' (r++h3 (l.drop k) g) q/\cg B H H'
 |_,_,0,_,_,_,_,hm,_,_,_,_,_=>aa
 |0,k,m+1,H,r,rv,x,_,h,ai,c,au,_=>by
  have K:¬(k:Int)<(l.length:Int):=aa;refine cu @xw.eq_2 @Cr.eq_1 @Cs.eq_1 (h.bf bV) ?_;rw[List.drop_of_length_le aa];exact aE.2 ⟨by grind[h3],.refl _ _⟩
 |j+1,k,m+1,H,r,rv,x,hm,h,ai,c,au,L=>by
  have y:k<l.length:=aa;obtain⟨p,f,i⟩:=h.int (j:=(k:Int)) (a:=l[k]) aa al;have on:=Rb (l:=l) (g:=g) (v:=v) (w:=w) (B:=B) u d (N:=N) j (k+1) m;have n:=e8 (show k<=1000000000 by omega);rw[List.drop_eq_getElem_cons y];refine dd @xw.eq_2 @Cr.eq_1 (h.bf bV) f i ?_;refine dK (Q3 ai d) ?_;by_cases he:l[k]∈g
  ·have e:h3 (l[k]::l.drop (k+1)) g=h3 (l.drop (k+1)) g:=by grind[h3]
   refine bT @IB.eq_1 he n ?_;grind
  ·have e:h3 (l[k]::l.drop (k+1)) g=l[k]::h3 (l.drop (k+1)) g:=by grind[h3]
   obtain⟨z,H',o,s,b,t,_⟩:=au.j4 (a:=l[k]) c aa;have hle:H.next+1<=H'.next:=t
   refine bb @IB.eq_1 he f i @c3 (ag o n) ?_;rw[e];refine(on H' _ z aa aa (h.eu b) (ai.eu b) aa s al).mono ?_;rintro q G ⟨M,E⟩;exact⟨al,b.trans E⟩
def G1{l g:List Int}{v w:af}(h:aI aN H ok l v)(ai:aI aN H ok' g w)(b:l.length<=1000000)(c:g.length<=1000000000):W (aK P aD 28 [v,w] H) λq H'=>aZ aN H.next ba H' (h3 l g) q/\aw H H':=by
 refine agl (l.length+1) ?_;rw[Sf];refine(Rb b c l.length 0 (l.length+1) H [] .aq aa aa h.below ai.below Nat.le.refl (aZ.nil _ _ _ _) aW).mono ?_;rintro q H' ⟨a,d⟩;rw[List.drop_zero,List.nil_append]at a;exact⟨a,d.aC⟩
end
end
section
open Go.a2
set_option maxRecDepth 2000
def GM{a:Int}:∀{l:List Int} {k:Nat},k<=l.length->(∀(i:Nat) (b:Int),i<k->l[i]? =A b->b<a)->(∀b,l[k]? =A b->¬b<a)->gU l a=if l[k]? =A a then l else l.take k++a::l.drop k
 |[],k,d,_,_=>by
  grind[gU]
 |b::bs,0,_,_,ai=>by
  have h:=ai b aW;simp only[gU,if_neg h,List.getElem?_cons_zero,bE];split
  ·rfl
  ·simp
 |b::bs,k+1,d,ah,ai=>by
  have c:=ah 0 b aa aW;have e:=GM (a:=a) (l:=bs) (k:=k) al al al;simp only[gU,if_pos c,List.getElem?_cons_succ,e];split
  ·rfl
  ·simp
section
variable {H:ae}{ok:Nat->Prop}
theorem aI.head{l:List Int}{v:af}(h:aI aN H ok l v)(aA:hF v){k:Nat}(n:k<=l.length):∃w,gI P 30 v Z (A (.int .i64 (k:Nat))) Z=A w/\aI aN H ok (l.take k) w:=by
 have u:P.underlying 30=A (.slice 3):=aG;have d:cM P 3=A 1:=aG;have e:aN.esz=1:=rfl;rcases h with⟨rfl,rfl⟩|⟨L,i,cap,ro,els,rfl,ai,ay,aM,f⟩|⟨L,i,cap,rfl,rfl⟩
 ·obtain rfl:k=0:=al;exact⟨.aq,by simp[gI,u,d,dR],.nil⟩
 ·have g:l.length<=cap.getD l.length:=by
   cases cap with
   |none=>grind
   |some c=>exact aA _ _ _ _ _ rfl
  have a:dR (A (.int .i64 ((k:Nat):Int))) l.length (cap.getD l.length)=A k:=by
   grind[dR]
  refine⟨.az L (i+0) (k-0) 1 (cap.map (· -0)),?_,.inr (.inl ⟨L,i,cap.map (· -0),ro,els,al,ai,ay,al,λj x m=> ?_⟩)⟩
  ·have b:dR Z 0 k=A 0:=rfl;simp only[gI,u,d,e,if_true,a,b]
  grind
 ·obtain rfl:k=0:=al;have a:dR (A (.int .i64 ((0:Nat):Int))) 0 (cap.getD 0)=A 0:=by
   grind[dR]
  refine⟨.az L (i+0) (0-0) 1 (cap.map (· -0)),?_,.inr al⟩;have b:dR Z 0 0=A 0:=rfl;simp only[gI,u,d,e,if_true,a,b]
theorem aI.tail{l:List Int}{v:af}(h:aI aN H ok l v){k:Nat}(f:k<=l.length):∃w,gI P 30 v (A (.int .i64 (k:Nat))) Z Z=A w/\aI aN H ok (l.drop k) w:=by
 have u:P.underlying 30=A (.slice 3):=aG;have a:cM P 3=A 1:=aG;have b:aN.esz=1:=rfl;rcases h with⟨rfl,rfl⟩|⟨L,i,cap,ro,els,rfl,ai,ay,aM,d⟩|⟨L,i,cap,rfl,rfl⟩
 ·obtain rfl:k=0:=al;exact⟨.aq,by simp[gI,u,a,dR],.nil⟩
 ·have c:dR (A (.int .i64 ((k:Nat):Int))) 0 l.length=A k:=by
   grind[dR]
  refine⟨.az L (i+k) (l.length-k) 1 (cap.map (· -k)),?_,.inr (.inl ⟨L,i+k,cap.map (· -k),ro,els,al,ai,ay,al,λj x e=> ?_⟩)⟩
  ·simp only[gI,u,a,b,if_true,dR];grind
  grind
 ·obtain rfl:k=0:=al;refine⟨.az L (i+0) (0-0) 1 (cap.map (· -0)),?_,.inr (.inr ⟨L,i+0,cap.map (· -0),rfl,rfl⟩)⟩;simp only[gI,u,a,b,if_true,dR];grind
def uS(H:ae)(ok:Nat->Prop)(B:Nat)(l:List Int)(v:af):Prop:=aI aN H (λk=>ok k\/B<=k) l v/\hF v
theorem Rj{l:List Int}{v:af}{a:Int}(h:aI aN H ok l v)(aA:hF v)(B:l.length<=100000000){N:Nat}:∀(j k q:Nat),k+j=l.length->j<q->(∀(i:Nat) (b:Int),i<k->l[i]? =A b->b<a)->
  W (rR (aK P aD) N q v (D F a) (D F (k:Nat)) H) λr H'=>uS H' ok H.next (gU l a) r/\aw H H'
 |_,_,0,_,aH,_=>aa
 |j,k,q+1,f,aH,ah=>by
  have o:=e8 (show k<=1000000000 by omega);have c:k<=l.length:=aa;have stop:(∀b,l[k]? =A b->¬b<a)->l[k]? ≠A a->∀{z:af},W (aU (gI P 30 v Z (A (D F (k:Nat))) Z) λU=>
    eg H (ej P H [30,30] af.aq U) λV u=>
    fp u (gu P (u).next 30 1 [(0,D F a)]) λY x=>
    eg x (ej P x [30,30] V Y) λab y=>
    aU (gI P 30 v (A (D F (k:Nat))) Z Z) λad=>
    eg y (ej P y [30,30] ab ad) λae L=>
    A (ae,L)) λr H'=>uS H' ok H.next (gU l a) r/\aw H H':=by
   intro ai O _;obtain⟨o,s1,s2⟩:=h.head aA c;obtain⟨T,S,hq⟩:=h.tail c;obtain⟨v1,H1,a6,bd,bo,_,_⟩:=(aZ.nil aN H.next ba H).ints (m:=l.take k) (w:=o) Nat.le.refl s2 al;rw[List.nil_append]at bd;have R:aw H H1:=bo.aC;have M:=R.1;obtain⟨v2,s,d1,d2,d3,d4,_⟩:=bd.j4 (a:=a) M al;have E:aw H s:=(bo.trans d3).aC;obtain⟨v3,aj,G,d,t,_,_⟩:=d2.ints (m:=l.drop k) (w:=T) E.1 (hq.aC E) al;have hle:H1.next+1<=s.next:=d4
   have am:=t.1;refine bb s1 a6 @c3 d1 S G ?_;rw[GM c ah ai,if_neg O];have K:l.take k++[a]++l.drop k=l.take k++a::l.drop k:=aW;rw[K]at d;exact aE.2 ⟨⟨(d.kt fy).keep (.le aa),d.cap⟩,((bo.trans d3).trans t).aC⟩
  have same:l[k]? =A a->uS H ok H.next (gU l a) v/\aw H H:=λe=>by
   rw[GM c ah al,if_pos e];exact⟨⟨h.keep (.le λz Q=> .inl Q),aA⟩,.refl _⟩
  match j,f,aH with
  |0,f,_=>
   have an:¬(k:Int)<(l.length:Int):=aa;have ap:l[k]? =none:=al;refine cu @rR.eq_2 @tZ.eq_1 @xa.eq_1 (h.bf bV) ?_;exact stop al al (z:=v)
  |j+1,f,aH=>
   have ao:k<l.length:=aa;have ak:l[k]? =A l[k]:=al;obtain⟨p,g,n⟩:=h.int (j:=(k:Int)) (a:=l[k]) aa al;by_cases ay:l[k]<a
   ·refine bb @rR.eq_2 @tZ.eq_1 (h.bf bV) g n (ag ay o) ?_;refine Rj h aA B j (k+1) q aa aa λi b aP B=> ?_
    grind
   ·by_cases aM:l[k]=a
    ·have d1:(l[k]==a)=true:=al;refine bb @rR.eq_2 @tZ.eq_1 @xa.eq_1 (h.bf bV) g (ag n (ag ay d1)) ?_;grind[aE]
    ·have d1:(l[k]==a)=false:=al;refine bb @rR.eq_2 @tZ.eq_1 @xa.eq_1 (h.bf bV) g (ag n (ag ay d1)) ?_;exact stop al al (z:=v)
def aeK{l:List Int}{v:af}{a:Int}(h:aI aN H ok l v)(aA:hF v)(b:l.length<=100000000):W (aK P aD 194 [v,D F a] H) λr H'=>uS H' ok H.next (gU l a) r/\aw H H':=by
 refine afO (l.length+1) ?_;rw[Sb];exact Rj h aA b l.length 0 _ aa aa aa
theorem GP{l:List Int}{v:af}{a:Int}(h:aI aN H ok l v)(aA:hF v)(b:l.length<=100000000):W (aK P aD 142 [v,D F a] H) λr H'=>uS H' ok H.next (gU l a) r/\aw H H':=by
 refine afh 0 ?_;simp-implicitDefEqProofs(disch:=try exact aY)only[RP];refine e2 (aeK h aA b) λr H' z p=> ?_
 grind[aE]
end
end
section
open Go.a2
set_option maxRecDepth 2000
section
variable {H:ae}{ok ok':Nat->Prop}
theorem K8{l:List Int}{v:af}{B:Nat}(ar:l.length<=10000000){N:Nat}:∀(j k q:Nat) (H:ae) (r:List Int) (rv:af),k+j=l.length->j<q->B<=H.next->aI aN H ok l v->aI aN H (B<= ·) r rv->hF rv->r.length<=10000000+k->
  W (yQ (aK P aD) N q v rv (D F (k:Nat)) H) λz H'=>(aI aN H' (B<= ·) (gV r (l.drop k)) z/\hF z)/\aw H H'
 |_,_,0,_,_,_,_,aH,_,_,_,_,_=>aa
 |0,k,q+1,H,r,rv,d,_,c,h,au,aA,_=>by
  have w:¬(k:Int)<(l.length:Int):=aa;refine cu @yQ.eq_2 @DR.eq_1 @Jg.eq_1 (h.bf bV) ?_;rw[List.drop_of_length_le aa];exact aE.2 ⟨⟨au,aA⟩,.refl _⟩
 |j+1,k,q+1,H,r,rv,d,aH,c,h,au,aA,u=>by
  have e:k<l.length:=aa;obtain⟨p,f,g⟩:=h.int (j:=(k:Int)) (a:=l[k]) aa al;have on:=K8 (l:=l) (v:=v) (B:=B) ar (N:=N) j (k+1) q;rw[List.drop_eq_getElem_cons e,gV];refine dd @yQ.eq_2 @DR.eq_1 (h.bf bV) f g ?_;refine e2 (GP au aA aa) ?_;rintro i H1 ⟨o,s⟩ b;refine bM ?_;have aL:=b.1;refine(on H1 _ i aa aa aa (h.aC b) (o.keep (.le aa)) s (by grind[AS])).mono ?_;rintro z t ⟨m,n⟩;exact⟨m,b.trans n⟩
theorem K9{l l2:List Int}{v v2:af}{B:Nat}(ar:l.length<=10000000)(d:l2.length<=10000000){N:Nat}(e:l2.length<N):∀(j k q:Nat) (H:ae) (r:List Int) (rv:af),k+j=l.length->j<q->B<=H.next->aI aN H ok l v->aI aN H ok' l2 v2->aI aN H (B<= ·) r rv->hF rv->r.length<=k->
  W (yR (aK P aD) N q v v2 rv (D F (k:Nat)) H) λz H'=>(aI aN H' (B<= ·) (gV (gV r (l.drop k)) l2) z/\hF z)/\aw H H'
 |_,_,0,_,_,_,_,aH,_,_,_,_,_,_=>aa
 |0,k,q+1,H,r,rv,g,_,c,h,ai,au,aA,f=>by
  have y:¬(k:Int)<(l.length:Int):=aa;refine cu @yR.eq_2 @DS.eq_1 @Jf.eq_1 (h.bf bV) ?_;rw[List.drop_of_length_le aa,gV];exact K8 d l2.length 0 N H r rv aa aa c ai au aA aa
 |j+1,k,q+1,H,r,rv,g,aH,c,h,ai,au,aA,f=>by
  have i:k<l.length:=aa;obtain⟨p,m,n⟩:=h.int (j:=(k:Int)) (a:=l[k]) aa al;have on:=K9 (l:=l) (l2:=l2) (v:=v) (v2:=v2) (B:=B) ar d e j (k+1) q;rw[List.drop_eq_getElem_cons i,gV];refine dd @yR.eq_2 @DS.eq_1 (h.bf bV) m n ?_;refine e2 (GP au aA aa) ?_;rintro o H1 ⟨u,w⟩ b;refine bM ?_;have aL:=b.1;refine(on H1 _ o aa aa aa (h.aC b) (ai.aC b) (u.keep (.le aa)) w (by grind[AS])).mono ?_;rintro z x ⟨s,t⟩;exact⟨s,b.trans t⟩
def Lj:hF .aq:=λ_ _ _ _ _ h=>by cases h
def ad4{l l2:List Int}{v v2:af}(h:aI aN H ok l v)(ai:aI aN H ok' l2 v2)(ar:l.length<=10000000)(b:l2.length<=10000000):W (aK P aD 90 [v,v2] H) λz H'=>(aI aN H' (H.next<= ·) (sO l l2) z/\hF z)/\aw H H':=by
 refine ag5 (l.length+l2.length+1) ?_;rw[Sz];refine(K9 ar b aa l.length 0 _ H [] .aq aa aa Nat.le.refl h ai .nil Lj aW).mono ?_;rintro z H' ⟨a,c⟩;rw[List.drop_zero]at a;exact⟨a,c⟩
theorem vp{L n i:Nat}{c:Option Nat}(h:i<n):ct P 104 (.az L 0 n 1 c) (D F (i:Nat))=A (.ptr L i 0):=by
 grind[nJ,pW]
def OA{L i:Nat}{met:List Bool}(g:H.get L=A (.row I 1 (da met)))(h:i<met.length):aJ P H 4 (.ptr L i 0)=A (C (dr met i)):=by
 rw[eW D7 g (u3 (qX h))];rfl
def Td{L i:Nat}{met:List Bool}(g:H.get L=A (.row I 1 (da met)))(h:i<met.length):cz P H 4 (.ptr L i 0) (C J)=A (H.set L (.row I 1 (da (met.set i J)))):=yY g (qX h)
section
variable {fs:List (List Int)}{roots:List Int}{fv rv:af}{L:Nat}
structure lO(fs:List (List Int))(roots:List Int)(fv rv:af)(L:Nat)(met:List Bool)(H:ae):Prop where
 aB:aI (bp aN) H (· <L) fs fv
 au:aI aN H (· <L) roots rv
 g:H.get L=some (.row false 1 (da met))
 m:oj fs roots met
theorem lO.set{met:List Bool}(s:lO fs roots fv rv L met H){d:Nat}(c:d<fs.length)(au:fC fs roots d):lO fs roots fv rv L (met.set d J) (H.set L (.row I 1 (da (met.set d J)))):=by
 have a:du H (· <L) (H.set L (.row I 1 (da (met.set d J)))) (· <L):=λk b (e:k<L) g=>(by grind[ae.b_])
 exact⟨s.aB.keep a,s.au.keep a,ae.cO (ae.bm s.g),s.m.set c au⟩
def k9(L:Nat)(H H':ae):Prop:=H'.next=H.next/\∀k,k≠L->H'.get k=H.get k
theorem k9.refl(L:Nat)(H:ae):k9 L H H:=⟨rfl,λ_ _=>rfl⟩
theorem k9.trans{H1 a b:ae}(h:k9 L H1 a)(k:k9 L a b):k9 L H1 b:=⟨k.1.trans h.1,λz c=>(k.2 z c).trans (h.2 z c)⟩
theorem GB(H:ae)(b:bA):k9 L H (H.set L b):=⟨rfl,(by grind[ae.b_])⟩
theorem M7(u:roots.length<=1000000000){Q:af->ae->Prop}{N:Nat}:∀(j k q:Nat) (H:ae) (met:List Bool),k+j=roots.length->j<q->lO fs roots fv rv L met H->(∀(i n:Nat),i<k->roots[i]? =A (n:Int)->n<fs.length->dr met n=J)->
  (∀(H':ae) (met:List Bool),lO fs roots fv rv L met H'->(∀n:Nat,(n:Int)∈roots->n<fs.length->dr met n=J)->k9 L H H'->W (xz (aK P aD) N fv (.az L 0 fs.length 1 (A fs.length)) H') Q)->
  W (xC (aK P aD) N q fv rv (.az L 0 fs.length 1 (A fs.length)) (.int .i64 (k:Nat)) H) Q
 |_,_,0,_,_,_,aH,_,_,_=>aa
 |0,k,q+1,H,met,v,_,s,aP,fin=>by
  have K:¬(k:Int)<(roots.length:Int):=aa;refine bT @xC.eq_2 @Cv.eq_1 (s.au.bf bV) ?_;refine fin H met s (λn aL ar=> ?_) (.refl _ _);grind[List.mem_iff_getElem]
 |j+1,k,q+1,H,met,v,aH,s,aP,fin=>by
  have w:k<roots.length:=aa;obtain⟨p,l,e⟩:=s.au.int (j:=(k:Int)) (a:=roots[k]) aa al;have t:roots[k]? =A roots[k]:=al;have on:=M7 u (Q:=Q) (N:=N) j (k+1) q;have o:=e8 (show k<=1000000000 by omega);have M:=hN (H:=H) (by kernel_rfl:P.underlying 104=A (.slice 4)) L 0 fs.length 1 (A fs.length);have y:=hN (H:= .empty) (by kernel_rfl:P.underlying 104=A (.slice 4)) L 0 fs.length 1 (A fs.length);refine bb @xC.eq_2 @Cv.eq_1 (s.au.bf bV) l e y ?_;refine dK (zw _ _) ?_;by_cases b:0<=roots[k]/\roots[k]<(fs.length:Int)
  ·obtain⟨d,f⟩:∃d:Nat,roots[k]=d:=⟨roots[k].toNat,aa⟩;rw[f]at e t b ⊢;have c:d<fs.length:=aa;have h:d<met.length:=by rw[s.m.len];omega
   have x:fC fs roots d:= .root (f▸List.getElem_mem w) c;simp-implicitDefEqProofs(disch:=try exact aY)only[IC,reduceAdd,reduceLeDiff,reduceIte,bB,b,decide_true,and_self,l,e,vp c,Td s.g h,o];refine on _ _ aa aa (s.set c x) (λi n ah ai ay=>(zy h).2 ?_) λr z B E G=>fin r z B E ((GB _ _).trans G)
   grind
  ·refine bT @IC.eq_1 b o ?_;grind
theorem M5{c:Nat}(aA:c<fs.length)(G:∀f∈fs,f.length<=1000000000){L2:af->af->af->ae->O}{L3:af->af->af->af->ae->O}{Q:af->ae->Prop}{N:Nat}:∀(j k q:Nat) (H:ae) (met:List Bool) (t:Bool),k+j=fs[c].length->j<q->lO fs roots fv rv L met H->(t=I->dr met c=J->∀(i d:Nat),i<k->fs[c][i]? =A (d:Int)->d<fs.length->dr met d=J)->
  (∀(H':ae) (y:List Bool) (B:Bool),lO fs roots fv rv L y H'->mx t met B y->(B=I->uN fs y c)->k9 L H H'->W (rZ (aK P aD) N L2 L3 fv (.az L 0 fs.length 1 (A fs.length)) (.bool B) (.int .i64 (c:Nat)) H') Q)->
  W (ui (aK P aD) N L2 L3 q fv (.az L 0 fs.length 1 (A fs.length)) (.bool t) (.int .i64 (c:Nat)) (.int .i64 (k:Nat)) H) Q
 |_,_,0,_,_,_,_,aH,_,_,_=>aa
 |j,k,q+1,H,met,t,v,aH,s,aP,fin=>by
  obtain⟨p,w,l,n,r⟩:=s.aB.list (j:=(c:Int)) (a:=fs[c]) aa al;have aC:=G _ (List.getElem_mem aA);have ab:c<met.length:=by rw[s.m.len];omega
  have E:=e8 (show k<=1000000000 by omega);have am:=hN (H:=H) (by kernel_rfl:P.underlying 104=A (.slice 4)) L 0 fs.length 1 (A fs.length);have an:=hN (H:= .empty) (by kernel_rfl:P.underlying 104=A (.slice 4)) L 0 fs.length 1 (A fs.length);have U:fs[c]? =A fs[c]:=al
  match j,v,aH with
  |0,v,_=>
   have x:¬(k:Int)<(fs[c].length:Int):=aa;refine dd @ui.eq_2 @xx.eq_1 l n (r.bf bV) ?_;refine fin H met t s (.refl _ _) (λe hm f aB d b ar=> ?_) (.refl _ _);grind[List.mem_iff_getElem]
  |j+1,v,aH=>
   have x:(k:Int)<(fs[c].length:Int):=aa;have aj:k<fs[c].length:=aa;have V:fs[c][k]? =A fs[c][k]:=al;obtain⟨aE,z,u⟩:=r.int (j:=(k:Int)) (a:=fs[c][k]) aa al;have on:=M5 aA G (L2:=L2) (L3:=L3) (Q:=Q) (N:=N) j (k+1) q;have lm:=OA s.g ab;cases hm:dr met c with
   |false=>
    rw[hm]at lm;simp-implicitDefEqProofs(disch:=try exact aY)only[ui,xx,reduceAdd,reduceLeDiff,reduceIte,bB,l,n,r.len bV,x,decide_true,vp aA,lm];exact fin H met t s (.refl _ _) (λ_ h=>al) (.refl _ _)
   |true=>
    rw[hm]at lm;simp-implicitDefEqProofs(disch:=try exact aY)only[ui,xx,reduceAdd,reduceLeDiff,reduceIte,bB,l,n,r.len bV,x,decide_true,vp aA,lm,z,u,am,an];refine dK (zw _ _) ?_;by_cases b:0<=fs[c][k]/\fs[c][k]<(fs.length:Int)
    ·obtain⟨d,ad⟩:∃d:Nat,fs[c][k]=d:=⟨fs[c][k].toNat,aa⟩;have R:=List.getElem_mem aj;rw[ad]at u V b R ⊢;have o:d<fs.length:=aa;have K:d<met.length:=by rw[s.m.len];omega
     have ak:fC fs roots d:= .step (s.m.snd c hm) U R o;have fE:=OA s.g K;cases M:dr met d with
     |true=>
      rw[M]at fE;simp-implicitDefEqProofs(disch:=try exact aY)only[Cw,reduceAdd,reduceLeDiff,reduceIte,bB,b,decide_true,and_self,l,n,z,u,vp o,fE,Bool.not_true,E];refine on H met t aa aa s (λe _ i T ah ai ay=> ?_) fin;grind
     |false=>
      rw[M]at fE;have Y:met[d]? =A false:=by grind[qX]
      simp-implicitDefEqProofs(disch:=try exact aY)only[Cw,reduceAdd,reduceLeDiff,reduceIte,bB,b,decide_true,and_self,l,n,z,u,vp o,fE,Bool.not_false,Td s.g K,E];refine on _ _ J aa aa (s.set o ak) (λe=>by cases e) λS ao t2 ap au av ax=>fin S ao t2 ap ((mx.set Y).trans au) av ((GB _ _).trans ax)
    ·refine bT @Cw.eq_1 b E ?_;refine on H met t aa aa s (λe _ i T ah ai ay=> ?_) fin;grind
theorem M8(aL:fs.length<=100000)(m:∀f∈fs,f.length<=1000000000){L2:af->af->af->ae->O}{Q:af->ae->Prop}{N:Nat}(l:∀f∈fs,f.length<N):∀(j k q:Nat) (H:ae) (met:List Bool) (t:Bool),k+j=fs.length->j<q->lO fs roots fv rv L met H->(t=I->∀c,c<k->uN fs met c)->
  (∀(H':ae) (b:List Bool) (g:Bool),lO fs roots fv rv L b H'->mx t met g b->(g=I->∀c,c<fs.length->uN fs b c)->k9 L H H'->W (L2 fv (.az L 0 fs.length 1 (A fs.length)) (.bool g) H') Q)->
  W (xB (aK P aD) N L2 q fv (.az L 0 fs.length 1 (A fs.length)) (.bool t) (.int .i64 (k:Nat)) H) Q
 |_,_,0,_,_,_,_,aH,_,_,_=>aa
 |0,k,q+1,H,met,t,r,_,s,aP,fin=>by
  have E:¬(k:Int)<(fs.length:Int):=aa;have u:=hN (H:=H) (by kernel_rfl:P.underlying 104=A (.slice 4)) L 0 fs.length 1 (A fs.length);have a:=hN (H:= .empty) (by kernel_rfl:P.underlying 104=A (.slice 4)) L 0 fs.length 1 (A fs.length);refine bT @xB.eq_2 @Cu.eq_1 a ?_;exact fin H met t s (.refl _ _) (λe c aA=>aP e c aa) (.refl _ _)
 |j+1,k,q+1,H,met,t,r,aH,s,aP,fin=>by
  have n:k<fs.length:=aa;have u:=hN (H:=H) (by kernel_rfl:P.underlying 104=A (.slice 4)) L 0 fs.length 1 (A fs.length);have a:=hN (H:= .empty) (by kernel_rfl:P.underlying 104=A (.slice 4)) L 0 fs.length 1 (A fs.length);have on:=M8 aL m (L2:=L2) (Q:=Q) l j (k+1) q;refine bT @xB.eq_2 @Cu.eq_1 a ?_;refine M5 n m fs[k].length 0 N H met t aa (l _ (List.getElem_mem n)) s (λ_ _ i d h=>aa) ?_;intro H1 v t1 x o M y;refine bK @rZ.eq_1 ?_;refine on H1 v t1 aa aa x (λe c aA=> ?_) λp w t2 z B z3 z4=>fin p w t2 z (o.trans B) z3 (y.trans z4)
  rcases Nat.lt_or_eq_of_le (Nat.le_of_lt_succ aA)with h|rfl
  ·obtain⟨G,K⟩:=o.off e;grind
  grind
theorem M6(aL:fs.length<=100000)(d:∀f∈fs,f.length<=1000000000){Q:af->ae->Prop}{N:Nat}(b:∀f∈fs,f.length<N)(j:fs.length<N):∀(q:Nat) (H:ae) (met:List Bool) (t:Bool),(fs.length-ly met)+(if t then 1 else 0)<q->lO fs roots fv rv L met H->(∀n:Nat,(n:Int)∈roots->n<fs.length->dr met n=J)->(t=I->∀c,c<fs.length->uN fs met c)->
  (∀(H':ae) (g:List Bool),lO fs roots fv rv L g H'->iY g 0=aO (fa fs roots)->k9 L H H'->W (qp (aK P aD) N (.az L 0 fs.length 1 (A fs.length)) H') Q)->
  W (xA (aK P aD) N q fv (.az L 0 fs.length 1 (A fs.length)) (C t) H) Q
 |0,_,_,_,aH,_,_,_,_=>aa
 |q+1,H,met,t,aH,s,au,aP,fin=>by
  have on:=M6 aL d (Q:=Q) b j q;cases t with
  |false=>
   refine bF @xA.eq_2 @Ct.eq_1 ?_;exact fin H met s (s.m.list au (aP rfl)) (.refl _ _)
  |true=>
   refine bF @xA.eq_2 @Ct.eq_1 ?_;refine M8 aL d b fs.length 0 N H met I aa aa s aa ?_;intro H1 e t1 h a l o;have ah:=Az e;have ai:=Az met;have ay:=a.le;rw[h.m.len]at ah;rw[s.m.len]at ai;simp only[if_true]at aH;refine on H1 e t1 ?_ h (λn aL ar=>a.up n (au n aL ar)) l λi k p r z3=>fin i k p r (o.trans z3)
   cases t1 with
   |false=>grind
   |true=>
    have:=a.on rfl;grind
end
theorem QX{fs:List (List Int)}{roots:List Int}{fv rv:af}(aB:aI (bp aN) H ok fs fv)(au:aI aN H ok' roots rv)(aL:fs.length<=100000)(B:∀f∈fs,f.length<=1000000)(E:roots.length<=1000000):W (aK P aD 29 [fv,rv] H) λr H'=>aZ aN H.next ba H' (aO (fa fs roots)) r/\aw H H':=by
 refine agq 1000002 ?_;have mk:=tm H.next fs.length aa
 have a:=aw.push H (.row I 1 (da (List.replicate fs.length I)));have q:=ae.a1 H (.row I 1 (da (List.replicate fs.length I)));have M:(H.push (.row I 1 (da (List.replicate fs.length I)))).next=H.next+1:=rfl
 refine bT @Sg.eq_1 (aB.bf dJ) mk ?_;have w:lO fs roots fv rv H.next (List.replicate fs.length I) (H.push (.row I 1 (da (List.replicate fs.length I)))):=⟨aB.below.aC a,au.below.aC a,q,oj.start fs roots⟩
 generalize H.push (.row I 1 (da (List.replicate fs.length I)))=H1 at*;refine M7 aa roots.length 0 _ H1 _ aa aa w (λi n aP=>aa) ?_;intro o s s2 v t;rw[xz];refine M6 aL (λf h=>al) (λf h=>al) aa _ o s J al s2 v (λe=>by cases e) ?_;intro x K k p u;have j:=t.trans u;simp-implicitDefEqProofs(disch:=try exact aY)only[qp];refine cB (G0 (m:=fs.length) k.m.len aL k.g) ?_;rintro r y ⟨b,d⟩;refine⟨d.1,aE.2 ?_⟩;rw[p]at b;have z:=j.1;have G:=d.1;refine⟨⟨b.eS,λL n c e=>by have:=b.low L n c e;omega⟩,aa,λl ar=> ?_⟩;rw[d.2 l aa,j.2 l aa,a.2 l ar]
end
end
section
set_option maxRecDepth 100000
set_option maxHeartbeats 4000000
noncomputable section
def R9(G:ao):hr Tryz.f19 G:=⟨_,λN=>t1 an⟩
def afJ(N:Nat):=eo Tryz.func19 λG=>(R9 G).2 N
def Sc(G:ao):hr Tryz.f21 G:=⟨_,λN=>t1 an⟩
def afP(N:Nat):=eo Tryz.func21 λG=>(Sc G).2 N
def Sd(G:ao):eQ Tryz.f23 G:=⟨_,λN=>t2 an⟩
def af1(N:Nat):=c6 Tryz.func23 λG=>(Sd G).2 N
def CC(G:ao)(N:Nat)(L0:cF):fQ 1 2 3 4 7 9 Tryz.f37 G N (·.ad.ad.ad.ad.ad.aj.aj.aj.ad.ad.ad.ad) (b3 L0 1 2 3 4 7) [(1,(b3 L0 1 2 3 4 7)),(0,(a8 Tryz.f37))]:=⟨_,v6 an⟩
def Cz(G:ao)(N:Nat)(L0:cF)(L3:hG):oo 1 2 3 4 7 9 10 12 Tryz.f37 G N (·.ad.ad.ad.ad.ad.aj.aj.aj.ad.ad.ad.aj.ad.aj.aj) (gp L3 1 2 3 4 7 9 10 12) [(4,(cm (CC G N L0) 1 2 3 4 7 9)),(1,(b3 L0 1 2 3 4 7)),(0,(a8 Tryz.f37))]:=⟨_,nm an⟩
def xE(G:ao)(N:Nat)(L0:cF):Nat->hG
 |0=>uL
 |n+1=>Cz G N L0 (xE G N L0 n)
def CB(G:ao)(N:Nat)(L0:cF):gZ 1 2 3 4 7 9 10 Tryz.f37 G N (·.ad.ad.ad.ad.ad.aj.aj.aj.ad.ad.ad) (b3 L0 1 2 3 4 7) [(1,(b3 L0 1 2 3 4 7)),(0,(a8 Tryz.f37))]:=⟨_,hf (ak ((CC G N L0).2) (ak (bh (bH (λm=>(Cz G N L0 (xE G N L0 m)).2))) an))⟩
def CA(G:ao)(N:Nat)(L0:cF)(L4:hG):oo 1 2 3 4 7 9 10 11 Tryz.f37 G N (·.ad.ad.ad.ad.ad.aj.aj.aj.ad.ad.aj.ad.aj.aj) (gp L4 1 2 3 4 7 9 10 11) [(2,(dw (CB G N L0) 1 2 3 4 7 9 10)),(1,(b3 L0 1 2 3 4 7)),(0,(a8 Tryz.f37))]:=⟨_,nm an⟩
def xF(G:ao)(N:Nat)(L0:cF):Nat->hG
 |0=>uL
 |n+1=>CA G N L0 (xF G N L0 n)
def IG(G:ao)(N:Nat)(L0:cF):e6 1 2 3 4 7 Tryz.f37 G N (·.ad.ad.ad.ad.ad.aj.aj) (b3 L0 1 2 3 4 7) [(0,(a8 Tryz.f37))]:=⟨_,v5 (bh (ak (ak (ak ((CB G N L0).2) (ak (bh (bH (λm=>(CA G N L0 (xF G N L0 m)).2))) an)) an) an))⟩
def CE(G:ao)(N:Nat):Nat->cF
 |0=>hW
 |n+1=>IG G N (CE G N n)
def Si(G:ao)(N:Nat):f_ Tryz.f37 G N:=⟨_,t1 (ak (ak (ak (ak (ak (bh (bH (λm=>(IG G N (CE G N m)).2))) an) an) an) an) an)⟩
def agu(N:Nat):=eo Tryz.func37 λG=>(Si G N).2
def qq(G:ao)(N:Nat):eP 3 Tryz.f39 G N (·.ad.ad.ad.ad.ad.ad.ad.ad) (a8 Tryz.f39) []:=⟨_,v1 an⟩
def qt(G:ao)(N:Nat)(L3:b8):ew 1 3 9 Tryz.f39 G N (·.ad.ad.ad.ad.ad.ad.ad.aj.ad.aj.aj.ad.ad) (bo L3 1 3 9) [(6,(a6 (qq G N) 3))]:=⟨_,v3 an⟩
def CS(G:ao)(N:Nat)(L3:b8):dO 1 3 9 12 Tryz.f39 G N (·.ad.ad.ad.ad.ad.ad.ad.aj.ad.aj.aj.ad.aj.aj.ad.ad.ad.ad) (bo (qt G N L3) 1 3 9) [(7,(bo (qt G N L3) 1 3 9)),(6,(a6 (qq G N) 3))]:=⟨_,l6 an⟩
def CM(G:ao)(N:Nat)(L3:b8)(a:cF):e6 1 3 9 12 13 Tryz.f39 G N (·.ad.ad.ad.ad.ad.ad.ad.aj.ad.aj.aj.ad.aj.aj.ad.ad.ad.aj.ad.aj.aj) (b3 a 1 3 9 12 13) [(10,(bO (CS G N L3) 1 3 9 12)),(7,(bo (qt G N L3) 1 3 9)),(6,(a6 (qq G N) 3))]:=⟨_,v5 an⟩
def xM(G:ao)(N:Nat)(L3:b8):Nat->cF
 |0=>hW
 |n+1=>CM G N L3 (xM G N L3 n)
def CR(G:ao)(N:Nat)(L3:b8):dO 1 3 9 10 Tryz.f39 G N (·.ad.ad.ad.ad.ad.ad.ad.aj.ad.aj.aj.ad.aj.aj.ad.ad) (bo (qt G N L3) 1 3 9) [(7,(bo (qt G N L3) 1 3 9)),(6,(a6 (qq G N) 3))]:=⟨_,v4 (ak (ak ((CS G N L3).2) (ak (bh (bH (λm=>(CM G N L3 (xM G N L3 m)).2))) an)) an)⟩
def CN(G:ao)(N:Nat)(L3:b8)(L8:cF):e6 1 3 9 10 11 Tryz.f39 G N (·.ad.ad.ad.ad.ad.ad.ad.aj.ad.aj.aj.ad.aj.aj.ad.aj.ad.aj.aj) (b3 L8 1 3 9 10 11) [(8,(bO (CR G N L3) 1 3 9 10)),(7,(bo (qt G N L3) 1 3 9)),(6,(a6 (qq G N) 3))]:=⟨_,v5 an⟩
def xN(G:ao)(N:Nat)(L3:b8):Nat->cF
 |0=>hW
 |n+1=>CN G N L3 (xN G N L3 n)
def CL(G:ao)(N:Nat)(L3:b8):ew 1 3 9 Tryz.f39 G N (·.ad.ad.ad.ad.ad.ad.ad.aj.ad.aj.aj) (bo L3 1 3 9) [(6,(a6 (qq G N) 3))]:=⟨_,v3 (ak (ak ((qt G N L3).2) (bh (ak (ak ((CR G N L3).2) (ak (bh (bH (λm=>(CN G N L3 (xN G N L3 m)).2))) an)) an))) an)⟩
def xL(G:ao)(N:Nat):Nat->b8
 |0=>gQ
 |n+1=>CL G N (xL G N n)
def r0(G:ao)(N:Nat):gT 1 3 Tryz.f39 G N (·.ad.ad.ad.ad.ad.ad) (a8 Tryz.f39) []:=⟨_,v2 (ak (ak ((qq G N).2) (ak (bh (bH (λm=>(CL G N (xL G N m)).2))) an)) an)⟩
def xI(G:ao)(N:Nat)(L9:b8):ew 1 3 6 Tryz.f39 G N (·.ad.ad.ad.ad.ad.aj.ad.aj.aj.ad.ad) (bo L9 1 3 6) [(2,(bd (r0 G N) 1 3))]:=⟨_,v3 an⟩
def CQ(G:ao)(N:Nat)(L9:b8):dO 1 3 6 7 Tryz.f39 G N (·.ad.ad.ad.ad.ad.aj.ad.aj.aj.ad.aj.aj.ad.ad) (bo (xI G N L9) 1 3 6) [(3,(bo (xI G N L9) 1 3 6)),(2,(bd (r0 G N) 1 3))]:=⟨_,l6 an⟩
def CJ(G:ao)(N:Nat)(L9:b8)(a:cF):e6 1 3 6 7 8 Tryz.f39 G N (·.ad.ad.ad.ad.ad.aj.ad.aj.aj.ad.aj.aj.ad.aj.ad.aj.aj) (b3 a 1 3 6 7 8) [(4,(bO (CQ G N L9) 1 3 6 7)),(3,(bo (xI G N L9) 1 3 6)),(2,(bd (r0 G N) 1 3))]:=⟨_,v5 an⟩
def xJ(G:ao)(N:Nat)(L9:b8):Nat->cF
 |0=>hW
 |n+1=>CJ G N L9 (xJ G N L9 n)
def CO(G:ao)(N:Nat)(L9:b8):ew 1 3 6 Tryz.f39 G N (·.ad.ad.ad.ad.ad.aj.ad.aj.aj) (bo L9 1 3 6) [(2,(bd (r0 G N) 1 3))]:=⟨_,v3 (ak (ak ((xI G N L9).2) (bh (ak (ak ((CQ G N L9).2) (ak (bh (bH (λm=>(CJ G N L9 (xJ G N L9 m)).2))) an)) an))) an)⟩
def xO(G:ao)(N:Nat):Nat->b8
 |0=>gQ
 |n+1=>CO G N (xO G N n)
def CP(G:ao)(N:Nat):ew 1 3 4 Tryz.f39 G N (·.ad.ad.ad.ad) (a8 Tryz.f39) []:=⟨_,v3 (ak (ak ((r0 G N).2) (ak (bh (bH (λm=>(CO G N (xO G N m)).2))) an)) an)⟩
def CK(G:ao)(N:Nat)(L13:ck):dO 1 3 4 5 Tryz.f39 G N (·.ad.ad.ad.aj.ad.aj.aj) (bO L13 1 3 4 5) [(0,(bo (CP G N) 1 3 4))]:=⟨_,v4 an⟩
def xK(G:ao)(N:Nat):Nat->ck
 |0=>fB
 |n+1=>CK G N (xK G N n)
def Sj(G:ao)(N:Nat):f_ Tryz.f39 G N:=⟨_,q3 (ak (ak (ak (ak ((CP G N).2) (ak (bh (bH (λm=>(CK G N (xK G N m)).2))) an)) an) an) an)⟩
def agv(N:Nat):=eo Tryz.func39 λG=>(Sj G N).2
def Jd(G:ao)(N:Nat):gT 0 5 Tryz.f87 G N (·.ad.ad.ad) (a8 Tryz.f87) []:=⟨_,v2 an⟩
def DM(G:ao)(N:Nat)(L1:ck):dO 0 1 5 6 Tryz.f87 G N (·.ad.ad.aj.ad.aj.aj) (bO L1 0 1 5 6) [(0,(bd (Jd G N) 0 5))]:=⟨_,v4 an⟩
def yK(G:ao)(N:Nat):Nat->ck
 |0=>fB
 |n+1=>DM G N (yK G N n)
def Sw(G:ao)(N:Nat):gn Tryz.f87 G N:=⟨_,t2 (ak (ak (ak ((Jd G N).2) (ak (bh (bH (λm=>(DM G N (yK G N m)).2))) an)) an) an)⟩
def ag1(N:Nat):=c6 Tryz.func87 λG=>(Sw G N).2
def nc(G:ao)(N:Nat)(L0:T2)(L1:b8):ew 0 2 3 Tryz.f89 G N (·.ad.ad.aj.aj.ad.aj.ad.ad.aj.aj.ad.ad) (bo L1 0 2 3) [(2,(bd L0 0 2)),(1,(bd L0 0 2)),(0,(a8 Tryz.f89))]:=⟨_,v3 an⟩
def n2(G:ao)(N:Nat)(L0:T2)(L1:b8):dO 0 2 3 4 Tryz.f89 G N (·.ad.ad.aj.aj.ad.aj.ad.ad.aj.aj.ad.aj.aj.ad.ad.ad) (bo (nc G N L0 L1) 0 2 3) [(3,(bo (nc G N L0 L1) 0 2 3)),(2,(bd L0 0 2)),(1,(bd L0 0 2)),(0,(a8 Tryz.f89))]:=⟨_,v4 an⟩
def n3(G:ao)(N:Nat)(L0:T2)(L1:b8)(L4:cH):fQ 0 2 3 4 5 6 Tryz.f89 G N (·.ad.ad.aj.aj.ad.aj.ad.ad.aj.aj.ad.aj.aj.ad.ad.aj.ad.aj.aj.ad.ad) (cm L4 0 2 3 4 5 6) [(4,(bO (n2 G N L0 L1) 0 2 3 4)),(3,(bo (nc G N L0 L1) 0 2 3)),(2,(bd L0 0 2)),(1,(bd L0 0 2)),(0,(a8 Tryz.f89))]:=⟨_,v6 an⟩
def Je(G:ao)(N:Nat)(L0:T2)(L1:b8)(L4:cH)(a:hG):oo 0 2 3 4 5 6 7 8 Tryz.f89 G N (·.ad.ad.aj.aj.ad.aj.ad.ad.aj.aj.ad.aj.aj.ad.ad.aj.ad.aj.aj.ad.aj.aj.ad.ad.ad.aj.aj.ad.ad) (gp a 0 2 3 4 5 6 7 8) [(7,(cm (n3 G N L0 L1 L4) 0 2 3 4 5 6)),(5,(cm (n3 G N L0 L1 L4) 0 2 3 4 5 6)),(4,(bO (n2 G N L0 L1) 0 2 3 4)),(3,(bo (nc G N L0 L1) 0 2 3)),(2,(bd L0 0 2)),(1,(bd L0 0 2)),(0,(a8 Tryz.f89))]:=⟨_,nm an⟩
def DQ(G:ao)(N:Nat)(L0:T2)(L1:b8)(L4:cH)(a:hG):oo 0 2 3 4 5 6 7 8 Tryz.f89 G N (·.ad.ad.aj.aj.ad.aj.ad.ad.aj.aj.ad.aj.aj.ad.ad.aj.ad.aj.aj.ad.aj.aj.ad.ad.ad.aj.aj) (gp a 0 2 3 4 5 6 7 8) [(7,(cm (n3 G N L0 L1 L4) 0 2 3 4 5 6)),(5,(cm (n3 G N L0 L1 L4) 0 2 3 4 5 6)),(4,(bO (n2 G N L0 L1) 0 2 3 4)),(3,(bo (nc G N L0 L1) 0 2 3)),(2,(bd L0 0 2)),(1,(bd L0 0 2)),(0,(a8 Tryz.f89))]:=⟨_,nm (ak (ak ((Je G N L0 L1 L4 a).2) an) an)⟩
def yP(G:ao)(N:Nat)(L0:T2)(L1:b8)(L4:cH):Nat->hG
 |0=>uL
 |n+1=>DQ G N L0 L1 L4 (yP G N L0 L1 L4 n)
def yL(G:ao)(N:Nat)(L0:T2)(L1:b8)(L4:cH):gZ 0 2 3 4 5 6 7 Tryz.f89 G N (·.ad.ad.aj.aj.ad.aj.ad.ad.aj.aj.ad.aj.aj.ad.ad.aj.ad.aj.aj.ad.aj.aj.ad.ad) (cm (n3 G N L0 L1 L4) 0 2 3 4 5 6) [(5,(cm (n3 G N L0 L1 L4) 0 2 3 4 5 6)),(4,(bO (n2 G N L0 L1) 0 2 3 4)),(3,(bo (nc G N L0 L1) 0 2 3)),(2,(bd L0 0 2)),(1,(bd L0 0 2)),(0,(a8 Tryz.f89))]:=⟨_,hf (ak (bh (bH (λm=>(DQ G N L0 L1 L4 (yP G N L0 L1 L4 m)).2))) an)⟩
def yM(G:ao)(N:Nat)(L0:T2)(L1:b8)(L4:cH):qR 0 2 3 4 5 6 7 56 57 Tryz.f89 G N (·.ad.ad.aj.aj.ad.aj.ad.ad.aj.aj.ad.aj.aj.ad.ad.aj.ad.aj.aj.ad.aj.aj.ad.aj.ad.aj.ad) (dw (yL G N L0 L1 L4) 0 2 3 4 5 6 7) [(6,(dw (yL G N L0 L1 L4) 0 2 3 4 5 6 7)),(5,(cm (n3 G N L0 L1 L4) 0 2 3 4 5 6)),(4,(bO (n2 G N L0 L1) 0 2 3 4)),(3,(bo (nc G N L0 L1) 0 2 3)),(2,(bd L0 0 2)),(1,(bd L0 0 2)),(0,(a8 Tryz.f89))]:=⟨_,v9 an⟩
def DP(G:ao)(N:Nat)(L0:T2)(L1:b8)(L4:cH):fQ 0 2 3 4 5 6 Tryz.f89 G N (·.ad.ad.aj.aj.ad.aj.ad.ad.aj.aj.ad.aj.aj.ad.ad.aj.ad.aj.aj) (cm L4 0 2 3 4 5 6) [(4,(bO (n2 G N L0 L1) 0 2 3 4)),(3,(bo (nc G N L0 L1) 0 2 3)),(2,(bd L0 0 2)),(1,(bd L0 0 2)),(0,(a8 Tryz.f89))]:=⟨_,v6 (ak (ak ((n3 G N L0 L1 L4).2) (bh (ak (ak ((yL G N L0 L1 L4).2) (ak (bh (ak ((yM G N L0 L1 L4).2) an)) an)) an))) an)⟩
def r6(G:ao)(N:Nat)(L0:T2)(L1:b8):Nat->cH
 |0=>iK
 |n+1=>DP G N L0 L1 (r6 G N L0 L1 n)
def DO(G:ao)(N:Nat)(L0:T2)(L1:b8):ew 0 2 3 Tryz.f89 G N (·.ad.ad.aj.aj.ad.aj.ad.ad.aj.aj) (bo L1 0 2 3) [(2,(bd L0 0 2)),(1,(bd L0 0 2)),(0,(a8 Tryz.f89))]:=⟨_,v3 (ak (ak ((nc G N L0 L1).2) (bh (ak (ak (ak ((n2 G N L0 L1).2) (ak (bh (bH (λm=>(DP G N L0 L1 (r6 G N L0 L1 m)).2))) an)) an) an))) an)⟩
def yO(G:ao)(N:Nat)(L0:T2):Nat->b8
 |0=>gQ
 |n+1=>DO G N L0 (yO G N L0 n)
def DN(G:ao)(N:Nat)(L0:T2):gT 0 2 Tryz.f89 G N (·.ad.ad.aj.aj) (bd L0 0 2) [(0,(a8 Tryz.f89))]:=⟨_,v2 (ak (bh (ak (ak (bh (bH (λm=>(DO G N L0 (yO G N L0 m)).2))) an) an)) an)⟩
def yN(G:ao)(N:Nat):Nat->T2
 |0=>ns
 |n+1=>DN G N (yN G N n)
def Sy(G:ao)(N:Nat):f_ Tryz.f89 G N:=⟨_,t1 (ak (ak (bh (bH (λm=>(DN G N (yN G N m)).2))) an) an)⟩
def ag3(N:Nat):=eo Tryz.func89 λG=>(Sy G N).2
def DT(G:ao):W0 Tryz.f91 G (·.ad.ad) (a8 Tryz.f91) []:=⟨_,λN=>v0 an⟩
def yS(G:ao):oq 0 3 6 7 Tryz.f91 G (·.ad.aj.ad.aj.ad) (bu (DT G)) [(0,(bu (DT G)))]:=⟨_,λN=>l6 an⟩
def SA(G:ao):eQ Tryz.f91 G:=⟨_,λN=>t2 (ak (ak ((DT G).2 N) (ak (bh (ak ((yS G).2 N) an)) an)) an)⟩
def ag6(N:Nat):=c6 Tryz.func91 λG=>(SA G).2 N
def SB(G:ao):jS Tryz.f92 G:=⟨_,λN=>vc an⟩
def ag7(N:Nat):=hp Tryz.func92 λG=>(SB G).2 N
end
end
section
open Go.a2
set_option maxRecDepth 2000
section
variable {x:bq}{H:ae}{ok:Nat->Prop}{R:Nat->Nat->Prop}{m:Nat}
def pk(R:Nat->Nat->Prop)(m j:Nat)(a:List Int):Prop:=∀s,j<=s->s<m->∃t:Nat,a[dj R s]? =A (t:Int)/\j<=t/\R s t/\∀u,j<=u->u<m->R s u->t<=u
theorem pk.step(he:gx R){j:Nat}{a:List Int}(h:pk R m (j+1) a)(d:j<m)(c:dj R j<a.length):pk R m j (a.set (dj R j) (j:Int)):=by
 intro s e b;by_cases au:R s j
 ·grind[sU]
 ·have f:s≠j:=by rintro rfl;exact au (he.refl s)
  obtain⟨t,ah,ai,ay,aM⟩:=h s aa b;grind[sU]
theorem pk.end(he:gx R){a:List Int}(h:pk R m 0 a){s:Nat}(b:s<m):a[dj R s]? =A ((et R s:Nat):Int):=by
 obtain⟨t,ah,_,ay,aM⟩:=h s aa b;grind[kr]
theorem Lx(he:gx R){zC zA n:Nat}{ov b c:af}{x1 x2 x3 x4 x9:af}(hm:m<=1000000)(f:zC≠zA){ok:Nat->Prop}(s:∀k,ok k->k≠zA){L0:af->af->af->af->af->ae->O}{Q:af->ae->Prop}{N:Nat}:∀(j q:Nat) (H:ae) (d:List Int),j<=m->j<q->H.get zC=A (.row I 4 [bl n ov b c])->aI aN H ok (aO ((List.range m).map (dj R))) ov->H.get zA=A (.row I 1 (dP d))->d.length=(dB R m).length->pk R m j d->
  (∀(H':ae) (d:List Int),k9 zA H H'->H'.get zA=A (.row I 1 (dP d))->d.length=(dB R m).length->pk R m 0 d->W (CB (aK P aD) N L0 x1 x2 x3 x4 (.ptr zC 0 0) x9 (.az zA 0 (dB R m).length 1 (A (dB R m).length)) H') Q)->
  W (xF (aK P aD) N L0 q x1 x2 x3 x4 (.ptr zC 0 0) x9 (.az zA 0 (dB R m).length 1 (A (dB R m).length)) (D F ((j:Int)-1)) H) Q
 |_,0,_,_,_,aH,_,_,_,_,_,_=>aa
 |0,q+1,H,d,_,_,b5,aX,cp,h,aP,fin=>by
  have d1:¬(0:Int)<=((0:Nat):Int)-1:=aa;refine bF @xF.eq_2 @CA.eq_1 ?_;exact fin H d (.refl _ _) cp h aP
 |j+1,q+1,H,d,L,aH,b5,aX,cp,h,aP,fin=>by
  have v:((j+1:Nat):Int)-1=(j:Int):=aa;have o:j<m:=aa;have aA:=E_ he o;obtain⟨p,x,y⟩:=aX.int (j:=(j:Int)) (a:=((dj R j:Nat):Int)) aa (by simpa using lJ (l:=(List.range m).map (dj R)) (i:=j) al);have w:ct P 30 (.az zA 0 (dB R m).length 1 (A (dB R m).length)) (D F ((dj R j:Nat):Int))=A (.ptr zA (dj R j) 0):=mQ bV aA;have st:=ER cp (i:=dj R j) aa (j:Int);have z:IntKind.i64.wrap ((j:Int)-1)=(j:Int)-1:=(by grind[Go.IntWalk.i64_in]);have on:=Lx he (zC:=zC) (zA:=zA) (n:=n) (ov:=ov) (b:=b) (c:=c) (x1:=x1) (x2:=x2) (x3:=x3) (x4:=x4) (x9:=x9) hm f s (L0:=L0) (Q:=Q) (N:=N) j q;rw[v];refine bb @xF.eq_2 @CA.eq_1 (hb b5) x y (ag w (ag st z)) ?_
  have e:k9 zA H (H.set zA (.row I 1 (dP (d.set (dj R j) (j:Int))))):=GB _ _;refine on _ _ aa aa (by rw[e.2 zC f];omega) (aX.keep λk b r g=>⟨r,by rw[e.2 k (s k r)];exact g⟩) (ae.cO (ae.bm cp)) al (aP.step he o aa) λt u B E G K=>fin t u (e.trans B) E G K
theorem Lw(he:gx R){zC zA B n:Nat}{ov b c:af}{x1 x2 x3 x4:af}(hm:m<=1000000)(o:zC<B){ok:Nat->Prop}(u:∀k,ok k->k<B){i:List Int}(S:i.length=(dB R m).length)(aP:pk R m 0 i){f:List bt}(U:f.length<=100000000){L0:af->af->af->af->af->ae->O}{Q:af->ae->Prop}{N:Nat}:∀(j k q:Nat) (H:ae) (v:af),k+j=m->j<q->B<=H.next->H.get zC=A (.row I 4 [bl n ov b c])->aI aN H ok (aO ((List.range m).map (dj R))) ov->H.get zA=A (.row I 1 (dP i))->aZ cU B ba H (f++(List.range k).map λs=>bt.same s (et R s)) v->(∀L n E,v= .az L 0 n 4 E->zA≠L)->
  (∀(H':ae) (v:af),cg B H H'->aZ cU B ba H' (f++hZ R m) v->W (CC (aK P aD) N L0 x1 x2 x3 x4 (.ptr zC 0 0) v H') Q)->
  W (xE (aK P aD) N L0 q x1 x2 x3 x4 (.ptr zC 0 0) v (.az zA 0 (dB R m).length 1 (A (dB R m).length)) (D F (k:Nat)) H) Q
 |_,_,0,_,_,_,aH,_,_,_,_,_,_,_=>aa
 |0,k,q+1,H,v,T,_,l,b5,aX,cp,ar,t,fin=>by
  have an:¬(k:Int)<(m:Int):=aa;have h:∀H0,bD P H0 .len [30] [ov]=A (D F m):=λH0=>by rw[aX.len bV,fI];simp
  refine cu @xE.eq_2 @Cz.eq_1 (hb b5) h ?_;obtain rfl:k=m:=aa;exact fin H v (.refl _ _) ar
 |j+1,k,q+1,H,v,T,aH,l,b5,aX,cp,ar,t,fin=>by
  have r:k<m:=aa;have h:∀H0,bD P H0 .len [30] [ov]=A (D F m):=λH0=>by rw[aX.len bV,fI];simp
  obtain⟨p,ad,ah⟩:=aX.int (j:=(k:Int)) (a:=((dj R k:Nat):Int)) aa (by grind[lJ]);have V:ct P 30 (.az zA 0 (dB R m).length 1 (A (dB R m).length)) (D F ((dj R k:Nat):Int))=A (.ptr zA (dj R k) 0):=mQ bV (E_ he r);have ab:=EO cp (aP.end he r);have on:=Lw he (x1:=x1) (x2:=x2) (x3:=x3) (x4:=x4) (zC:=zC) (zA:=zA) (n:=n) (ov:=ov) (b:=b) (c:=c) hm o u S aP U (L0:=L0) (Q:=Q) (N:=N) j (k+1) q;have Y:=ae.bm cp;obtain⟨x,H',d,ak,e,G,M,am⟩:=aZ.qU (K:=cU) (ok:=ba) (ok':=ba) iG ar l (aw.refl H) (a:= .same k (et R k)) (cs:=[D F 5,D F (k:Nat),D F (et R k:Nat),D F 0]) rfl (λ_ _=>trivial) al
  replace d:ej P (H.push (.row I 4 [[D F 5,D F (k:Nat),D F (et R k:Nat),D F 0]])) [53,53] v (.az H.next 0 1 4 (A 1))=A (x,H'):=d;have hle:H.next+1<=H'.next:=G
  refine bb @xE.eq_2 @Cz.eq_1 (hb b5) h ad (ag ah (ag V (ag ab (ag @lH d)))) ?_;refine on H' x aa aa aa (by rw[e.2 zC o];omega) (aX.keep λz b w g=>⟨w,by rw[e.2 z (u z w)];exact g⟩) (by rw[M zA Y t];omega) ?_ ?_ λy v2 ai aj=>fin y v2 (e.trans ai) aj
  ·grind[List.range_succ]
  grind
