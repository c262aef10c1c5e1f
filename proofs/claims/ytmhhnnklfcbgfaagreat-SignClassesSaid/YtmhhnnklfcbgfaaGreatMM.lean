/-
  Texts of one proof, laid together: Ql Qm Qn SgG SgH ShF Ra Rb.
-/
import Derived.Test.YtmhhnnklfcbgfaaGreatML
set_option linter.unusedVariables false
set_option linter.unusedSimpArgs false
set_option linter.defProp false
open Option renaming some→A,none→Z
open Bool renaming true→J,false→I
namespace Go.Proofs.YtmhhnnklfcbgfaaGreat
open Go.cw
open Nat (reduceAdd reduceLeDiff)
section
open Go.a_
set_option maxRecDepth 2000
def Kc(l:Nat)(k:IntKind)(n:Int):fj l (.int k n)=A (.ptr l 0 0,.row I 1 [[.int k n]]):=rfl
def N3(l n:Nat)(aL:n<=1000000000):gS (hL P ⟨.leaf,l⟩ 243 (.int .i64 n) (.int .i64 n)) l=A (.az l 0 n 1 (A n),.row I 1 (g6 (List.replicate n 0))):=by
 rw[qX (e:=251) (b:=8) (z:= .int .u64 0) aF aF aF aF rfl rfl bZ bZ l n aL];simp[g6,af.cells]
def u0(l n:Nat)(aL:n<=1000000000):gS (hL P ⟨.leaf,l⟩ 31 (.int .i64 n) (.int .i64 n)) l=A (.az l 0 n 1 (A n),.row I 1 ((List.range n).map λ_=>[.ao])):=by
 rw[qX (e:=30) (b:=24) (z:= .ao) aF aF aF aF rfl rfl bZ bZ l n aL];simp[af.cells,List.map_const']
def N7(l n:Nat)(aL:n<=1000000000):gS (hL P ⟨.leaf,l⟩ 244 (.int .i64 n) (.int .i64 n)) l=A (.az l 0 n 1 (A n),.row I 1 ((List.range n).map λ_=>[.ao])):=by
 rw[qX (e:=284) (b:=24) (z:= .ao) aF aF aF aF rfl rfl bZ bZ l n aL];simp[af.cells,List.map_const']
def abH(l n:Nat)(aL:n<=1000000000):gS (hL P ⟨.leaf,l⟩ 152 (.int .i64 n) (.int .i64 n)) l=A (.az l 0 n 1 (A n),.row I 1 ((List.range n).map λ_=>[.ao])):=by
 rw[qX (e:=31) (b:=24) (z:= .ao) aF aF aF aF rfl rfl bZ bZ l n aL];simp[af.cells,List.map_const']
def Rz(n x y:Nat):∀(fs:List Nat) (S:bJ) (u:Nat),(mU n S x y fs).q u=S.q u
 |[],_,_=>rfl
 |f::fs,S,u=>by rw[mU,Rz n x y fs,sw,sw]
def JN(S:bJ)(v:Nat)(q:a_.Ask)(u:Nat):((lC S v q).q u).length<=(S.q u).length+1:=by
 unfold lC;by_cases a:v<S.asks.length
 ·grind[Pn]
 ·show(({S with asks:=S.asks.set v (S.q v++[q])}:bJ).q u).length<=_;rw[List.set_eq_of_length_le ad];grind
theorem UJ(n:Nat)(S:bJ)(c:bp)(u:Nat):((sh n S c).q u).length<=(S.q u).length+1:=by
 cases c with
 |base x y=>show((gx S x (1<<<y)).q u).length<=_;rw[MP];omega
 |copy x y=>show((ib S y x).q u).length<=_;rw[sw];omega
 |load x y f=>exact JN _ _ _ _
 |store x y f=>exact JN _ _ _ _
 |same x y=>show((mU n S x y (List.range 8)).q u).length<=_;rw[Rz];omega
def qT:List Nat->bJ->bJ
 |[],S=>S
 |v::ak,S=>qT ak (iY S v)
theorem ND:∀(ak:List Nat) (S:bJ) (u:Nat),(qT ak S).q u=S.q u
 |[],_,_=>rfl
 |v::ak,S,u=>by rw[qT,ND ak,Nz]
section
variable {n V a m:Nat}{l:List bp}{S:bJ}{aT:List Int}{dv:Nat->af}{es:List (Nat×Nat)}{H:ae}
theorem er.looks{n m:Nat}{l:List bp}:∀(ak:List Nat) (S:bJ),lu n m l S->(∀v∈ak,v<n+m*8)->(∀c∈l,oM n S c)->lu n m l (qT ak S)/\∀c∈l,oM n (qT ak S) c
 |[],S,h,_,aP=>⟨h,aP⟩
 |v::ak,S,h,a,aP=>by
  have ah:lu n m l (iY S v):=er.iY h (a v aX);exact er.looks ak _ ah al λc aA=>(aP c aA).uI (abh S v).b
theorem cF.start{n V a:Nat}{H:ae}(bX:H.get (a+6)=A (.row I 9 [im n V a λ_=> .ao]))(cj:H.get a=A (.row I 1 (g6 (List.replicate V 0))))(fO:H.get (a+1)=A (.row I 1 ((List.range V).map λ_=>[.ao])))(ic:H.get (a+2)=A (.row I 1 ((List.range V).map λ_=>[.ao])))
  (hk:H.get (a+3)=A (.row I 1 (g6 (List.replicate V 0)))) (dX:H.get (a+4)=A (.map [])) (cQ:H.get (a+5)=A (.row I 1 (c6 (List.replicate V I)))):cF n V a (gC V) [] (λ_=> .ao) [] H:=
 {
  bX:=bX,cj:=cj,fO:=fO,ic:=ic,hk:=hk,dX:=dX,cQ:=cQ,cq:=by simp[gC],aR:=by simp[gC],hn:=by simp[gC],ls:=by simp[gC],lw:=by simp[gC]
  g:=λv d=>by
   have:(gC V).g v=[]:=lK;rw[this];exact aY.nil _ _ _ _
  q:=λv d=>by
   have:(gC V).q v=[]:=lK;grind[aY.nil]
  w:=aY.nil _ _ _ _
  wn:=λL n c e=>by cases e
  hg:=λo gT L _ _ e _=>by cases e
  perm:= .refl _
  kc:=λx y=>by
   have:(gC V).g x=[]:=lK;grind
  ka:=λv=>by
   have:(gC V).g v=[]:=lK;grind
  jT:=λv b h=>by
   have:(gC V).g v=[]:=lK;grind
  j5:=List.nodup_nil
  j4:=λv h=>by simp[gC]at h
  wt:=λu _ _=>by simp[gC]
  fb:=λv=>by
   have:(gC V).a v=0:=lK;omega}
theorem J4{lv:af}(i:gg n m l)(hm:m<=60)(o:V=n+m*8)(s:V<=1000000)(aw:l.length<=800000000){x4 x5 x6 x8:af}{Q:af->ae->Prop}{N:Nat}:∀(j k r:Nat) (S:bJ) (aT:List Int) (dv:Nat->af) (es:List (Nat×Nat)) (H:ae),k+j=l.length->j<r->cF n V a S aT dv es H->gK n m l S->(∀v,(S.q v).length<=k)->aH cP H (· <a) l lv->
  (∀b wk' d es' H',cF n V a b wk' d es' H'->Fr V a dv d H H'->b=si n (l.drop k) S->(∀v,(b.q v).length<=l.length)->W (AG (aK P aG) N x4 x5 x6 x8 (.int .i64 V) (.ptr (a+6) 0 0) H') Q)->
  W (s8 (aK P aG) N r x4 x5 x6 x8 (.int .i64 V) (.ptr (a+6) 0 0) lv (.int .i64 l.length) (.int .i64 k) H) Q
 |_,_,0,_,_,_,_,_,_,G,_,_,_,_,_=>ad
 |0,k,r+1,S,aT,dv,es,H,E,_,h,x,aJ,g,fin=>by
  have O:¬(k:Int)<(l.length:Int):=ad;refine bG @s8.eq_2 @AF.eq_1 ?_;exact fin S aT dv es H h (.refl _ _ _ _) (by rw[List.drop_of_length_le ad];rfl) λv=>al
 |j+1,k,r+1,S,aT,dv,es,H,E,G,h,x,aJ,g,fin=>by
  have t:k<l.length:=ad;have on:=J4 (lv:=lv) i hm o s aw (x4:=x4) (x5:=x5) (x6:=x6) (x8:=x8) (Q:=Q) (N:=N) j (k+1) r;obtain⟨p,K,L⟩:=g.y1 (j:=(k:Int)) (c:=l[k]) ad al;have u:l[k]∈l:=List.getElem_mem t;rw[List.drop_eq_getElem_cons t,si]at fin;generalize l[k]=c at*;have w:=au.push H (.row I 4 [cU c]);have st:cr P (H.push (.row I 4 [[.int .i64 0,.int .i64 0,.int .i64 0,.int .i64 0]])) 56 (.ptr H.next 0 0) (.agg (cU c))=A (H.push (.row I 4 [cU c])):=by
   rw[e4 (n:=4) aF (ae.a2 H _) rfl (by cases c<;>rfl) (by cases c<;>rfl) bZ];have:fU [af.int .i64 0,.int .i64 0,.int .i64 0,.int .i64 0] 0 (af.agg (cU c)).cells=cU c:=by cases c<;>rfl
   grind[ae.lb]
  have ah:=h.aB w;refine bh @s8.eq_2 @AF.eq_1 K (L _ (au.refl _)) st (No (ae.a2 H (.row I 4 [cU c]))) ?_;refine cK (UK ah o s hm (i _ u) λv=>al) ?_;rintro _ H1 ⟨rfl,wk',d,es',ai,_,f2⟩;refine⟨f2.1,?_⟩;have f:Fr V a dv d H H1:=(Fr.aB w).trans f2;refine bN ?_;exact on _ wk' d es' H1 ad ad ai (x.begin hm i u).1 (λv=>by grind[UJ]) (g.e3 (h.e3 f)) λb M hh B y ax f3 e z=>fin b M hh B y ax (f.trans f3) e z
theorem NF(i:V=n+m*8)(d:V<=1000000){x4 x5 x6 x8:af}{Q:af->ae->Prop}{N:Nat}:∀(j k r:Nat) (S:bJ) (aT:List Int) (dv:Nat->af) (es:List (Nat×Nat)) (H:ae),k+j=V->j<r->cF n V a S aT dv es H->
  (∀b wk' c es' H',cF n V a b wk' c es' H'->Fr V a dv c H H'->b=qT ((List.range V).drop k) S->W (AH (aK P aG) N x4 x5 x6 x8 (.ptr (a+6) 0 0) H') Q)->
  W (vz (aK P aG) N r x4 x5 x6 x8 (.ptr (a+6) 0 0) (.int .i64 V) (.int .i64 k) H) Q
 |_,_,0,_,_,_,_,_,_,o,_,_=>ad
 |0,k,r+1,S,aT,dv,es,H,l,_,h,fin=>by
  have q:¬(k:Int)<(V:Int):=ad;refine bG @vz.eq_2 @AE.eq_1 ?_;exact fin S aT dv es H h (.refl _ _ _ _) (by rw[List.drop_of_length_le al];rfl)
 |j+1,k,r+1,S,aT,dv,es,H,l,o,h,fin=>by
  have on:=NF i d (x4:=x4) (x5:=x5) (x6:=x6) (x8:=x8) (Q:=Q) (N:=N) j (k+1) r;have e:(List.range V).drop k=k::(List.range V).drop (k+1):=by
   grind[List.drop_eq_getElem_cons]
  rw[e,qT]at fin;refine bG @vz.eq_2 @AE.eq_1 ?_;refine cK (NC h d (show k<V by omega)) ?_;rintro _ H1 ⟨rfl,wk',c,es',ai,_,f2⟩;refine⟨f2.1,?_⟩;refine bN ?_;exact on _ wk' c es' H1 ad ad ai λb p hh g f ax f3 e=>fin b p hh g f ax (f2.trans f3) e
end
end
section
open Go.a_
set_option maxRecDepth 2000
theorem nr:fa 152 31 1:=⟨aF,aF,⟨24,aF,bZ⟩,⟨.ao,aF,rfl,rfl⟩,bZ⟩
def Je(H:ae)(ok:Nat->Prop)(p:c8)(v:af):Prop:=∃nv fv,v= .agg [nv,fv]/\aH (bu aN) H ok (p.nodes.map aQ) nv/\aH (bu (bu aN)) H ok (p.fields.map (·.map aQ)) fv
def nL(R:Nat)(H:ae):Nat->Prop:=λL=>R<L/\L<H.next
def aY.Jo{B R:Nat}{H:ae}{l:List Int}{v:af}(h:aY aN B bb H l v)(f:R<B):aH aN H (nL R H) l v:=by
 rcases h.eL with ah|⟨L,els,cap,a,g,b,i,k,d⟩
 ·exact .inl ah
 ·exact .inr (.inl ⟨L,0,cap,I,els,a,⟨by have:=h.low _ _ _ a;omega,ae.bq b⟩,b,ad,λj x c=>by
   obtain⟨cs,m,e⟩:=d j x c;exact⟨cs,al,e⟩⟩)
theorem uk{R:Nat}{H H':ae}(aL:H.next<=H'.next)(aS:∀k,R<k->k<H.next->H'.get k=H.get k):dm H (nL R H) H' (nL R H'):=λk b a g=>⟨⟨a.1,by have:=a.2;omega⟩,by rw[aS k a.1 a.2];exact g⟩
section
variable {n V a m:Nat}{l:List bp}{S:bJ}{aT:List Int}{dv:Nat->af}{es:List (Nat×Nat)}{H:ae}
theorem cF.out(h:cF n V a S aT dv es H){k:Nat}(e:a+7<=k)(aw:∀o,o<=2*V->dr (dv o)≠A k)(b:bz):cF n V a S aT dv es (H.set k b):=by
 have c:∀j,j≠k->(H.set k b).get j=H.get j:=(by grind[ae.b8]);exact {h with
  bX:=by rw[c _ ad];exact h.bX,cj:=by rw[c _ ad];exact h.cj,fO:=by rw[c _ ad];exact h.fO,ic:=by rw[c _ ad];exact h.ic,hk:=by rw[c _ ad];exact h.hk,dX:=by rw[c _ ad];exact h.dX,cQ:=by rw[c _ ad];exact h.cQ
  g:=λv d=>(h.g v d).frame fx al
  q:=λv d=>(h.q v d).frame pC al
  w:=h.w.frame fx al}
def ud(V a:Nat)(dv:Nat->af)(k:Nat):Prop:=a+7<=k/\∀o,o<=2*V->dr (dv o)≠A k
def cF.nl(h:cF n V a S aT dv es H){k:Nat}(b:H.next<=k):ud V a dv k:=⟨by have:=h.lt;omega,λo aZ e=>by have:=(h.jW aZ e).2;omega⟩
theorem Db{H:ae}{t zD x K:Nat}{nv:Nat->af}{v:af}(ba:cE P t=A 1)(g:H.get zD=A (.row I 1 ((List.range K).map λk=>[nv k])))(aE:x<K)(b:v.one=J):cr P H t (.ptr zD x 0) v=A (H.set zD (.row I 1 ((List.range K).map λk=>[dj nv x v k]))):=by
 have a:=dq b;rw[e4 (n:=1) ba g (e:=[nv x]) al al al bZ,a,<-FW aE];rfl
theorem Ot(K:V=n+m*8)(L:V<=1000000){zD R zF:Nat}(E:zD<R){x6 x8:af}{Q:af->ae->Prop}{N:Nat}:∀(j k r:Nat) (nv:Nat->af) (H:ae),k+j=n->j<r->cF n V a S aT dv es H->ud V a dv zD->R<H.next->H.get zD=A (.row I 1 ((List.range n).map λi=>[nv i]))->H.get R=A (.row I 2 [[.az zD 0 n 1 (A n),.az zF 0 m 1 (A m)]])->(∀i,i<k->aH aN H (nL R H) (aQ (Go.a_.bits (S.a i))) (nv i))->
  (∀(H':ae) (f:Nat->af),cF n V a S aT dv es H'->H.next<=H'.next->(∀q,q<H.next->q≠zD->H'.get q=H.get q)->H'.get zD=A (.row I 1 ((List.range n).map λi=>[f i]))->(∀i,i<n->aH aN H' (nL R H') (aQ (Go.a_.bits (S.a i))) (f i))->W (AI (aK P aG) N x6 x8 (.ptr (a+6) 0 0) (.ptr R 0 0) H') Q)->
  W (vy (aK P aG) N r x6 x8 (.ptr (a+6) 0 0) (.ptr R 0 0) (.int .i64 n) (.int .i64 k) H) Q
 |_,_,0,_,_,_,T,_,_,_,_,_,_,_=>ad
 |0,k,r+1,nv,H,M,_,h,_,_,o,_,aw,fin=>by
  have ai:¬(k:Int)<(n:Int):=ad;refine bG @vy.eq_2 @AD.eq_1 ?_;exact fin H nv h ad (λ_ _ _=>rfl) o λi aP=>aw i ad
 |j+1,k,r+1,nv,H,M,T,h,d,G,o,s,aw,fin=>by
  have u:k<n:=ad;have on:=Ot K L E (zF:=zF) (x6:=x6) (x8:=x8) (Q:=Q) (N:=N) j (k+1) r;have w:∀{H1:ae},H1.get R=A (.row I 2 [[.az zD 0 n 1 (A n),.az zF 0 m 1 (A m)]])->aI P H1 31 (.ptr R 0 0)=A (.az zD 0 n 1 (A n)):=λg=>by rw[e0 aF g rfl];rfl
  refine c_ @vy.eq_2 @AD.eq_1 (gy h.bX) (h5 qU (show k<V by omega)) (h.qQ (show k<V by omega)) ?_;refine e2 (Fa (h.fb k)) λx H1 v b=> ?_
  have ah:=h.aB b;have p:=b.get o;have B:=b.get s;have U:=ae.bq p;have st:=Db (t:=30) aF p u v.az.one;have Y:∀l i n e c,bF (A (.az l i n e c)) (.az l i n e c)=true:=(by grind[bF,af.beq]);refine c_ (w B) (w s) (h5 dP u) st Y ?_;have ak:H.next<=(H1.set zD (.row I 1 ((List.range n).map λi=>[dj nv k x i]))).next:=b.1
  have y:∀q,q<H1.next->q≠zD->(H1.set zD (.row I 1 ((List.range n).map λi=>[dj nv k x i]))).get q=H1.get q:=(by grind[ae.b8])
  have aa:∀q,q<H.next->q≠zD->(H1.set zD (.row I 1 ((List.range n).map λi=>[dj nv k x i]))).get q=H.get q:=λq aJ d=>(y q (by have:=b.1;omega) d).trans (b.2 q aJ)
  refine on (dj nv k x) _ ad ad (ah.out d.1 d.2 _) d ad (ae.cH U) al ?_ λH' f cu aj ab z O=>fin H' f cu ad al z O
  intro i aP;by_cases e:i=k
  ·subst e;rw[hj];exact(v.Jo G).keep (uk (H:=H1) aX al)
  ·rw[fk _ _ e];exact(aw i ad).keep (by grind[uk])
theorem Lr(T:V=n+m*8)(U:V<=1000000){zD R zF E t W6:Nat}(L:zF<R)(M:R<E)(ba:t<m){x8 x104:af}{fv:Nat->af}{L4:af->af->af->af->af->af->ae->O}{Q:af->ae->Prop}{N:Nat}:∀(j k r:Nat) (iv:Nat->af) (H:ae),k+j=8->j<r->cF n V a S aT dv es H->ud V a dv E->E<H.next->H.get E=A (.row I 1 ((List.range 8).map λi=>[iv i]))->H.get R=A (.row I 2 [[.az zD 0 n 1 (A n),.az zF 0 m 1 (A m)]])->H.get zF=A (.row I 1 ((List.range m).map λi=>[fv i]))->fv t= .az E 0 8 1 (A 8)->(∀i,i<k->aH aN H (nL E H) (aQ (Go.a_.bits (S.a (dd n t i)))) (iv i))->
  (∀(H':ae) (d:Nat->af),cF n V a S aT dv es H'->H.next<=H'.next->(∀q,q<H.next->q≠E->H'.get q=H.get q)->H'.get E=A (.row I 1 ((List.range 8).map λi=>[d i]))->(∀i,i<8->aH aN H' (nL E H') (aQ (Go.a_.bits (S.a (dd n t i)))) (d i))->W (vu (aK P aG) N L4 (.ptr W6 0 0) x8 (.ptr (a+6) 0 0) (.ptr R 0 0) x104 (.int .i64 t) H') Q)->
  W (vx (aK P aG) N L4 r (.ptr W6 0 0) x8 (.ptr (a+6) 0 0) (.ptr R 0 0) (.int .i64 t) x104 (.int .i64 t) (.int .i64 8) (.int .i64 k) H) Q
 |_,_,0,_,_,_,ai,_,_,_,_,_,_,_,_,_=>ad
 |0,k,r+1,iv,H,aa,_,h,_,_,hk,_,_,_,aw,fin=>by
  have ap:¬(k:Int)<8:=ad;refine bG @vx.eq_2 @AA.eq_1 ?_;exact fin H iv h ad (λ_ _ _=>rfl) hk λi aP=>aw i ad
 |j+1,k,r+1,iv,H,aa,ai,h,f,K,hk,s,p,Y,aw,fin=>by
  have u:k<8:=ad;have on:=Lr T U (zD:=zD) (W6:=W6) L M ba (x8:=x8) (x104:=x104) (fv:=fv) (L4:=L4) (Q:=Q) (N:=N) j (k+1) r;have aC:dd n t k<V:=by unfold dd;omega
  have y:∀{H1:ae},H1.get R=A (.row I 2 [[.az zD 0 n 1 (A n),.az zF 0 m 1 (A m)]])->aI P H1 152 (.ptr R 0 1)=A (.az zF 0 m 1 (A m)):=λg=>by rw[e0 aF g rfl];rfl
  have w:∀{H1:ae},H1.get zF=A (.row I 1 ((List.range m).map λi=>[fv i]))->aI P H1 31 (.ptr zF t 0)=A (.az E 0 8 1 (A 8)):=λg=>by rw[e0 aF g (e:=[fv t]) al];grind
  refine bG @vx.eq_2 @AA.eq_1 ?_;refine dK (qH h.bX ad) ?_;refine b3 (gy h.bX) (h5 qU aC) (h.qQ aC) ?_;refine e2 (Fa (h.fb _)) λx H1 v b=> ?_
  have ah:=h.aB b;have o:=b.get hk;have aj:=ae.bq o;have st:=Db (t:=30) aF o u v.az.one;have ak:∀l i n e c,bF (A (.az l i n e c)) (.az l i n e c)=true:=(by grind[bF,af.beq]);refine bh (gy h.bX) (y (b.get s)) (y s) (h5 nr ba) (w p) (ag (w (b.get p)) (ag (h5 (V:=8) dP u) (ag st ak))) ?_;have ar:H.next<=(H1.set E (.row I 1 ((List.range 8).map λi=>[dj iv k x i]))).next:=b.1
  have z:∀q,q<H1.next->q≠E->(H1.set E (.row I 1 ((List.range 8).map λi=>[dj iv k x i]))).get q=H1.get q:=(by grind[ae.b8])
  have am:∀q,q<H.next->q≠E->(H1.set E (.row I 1 ((List.range 8).map λi=>[dj iv k x i]))).get q=H.get q:=λq aJ G=>(z q (by have:=b.1;omega) G).trans (b.2 q aJ)
  refine on (dj iv k x) _ ad ad (ah.out f.1 f.2 _) f ad (ae.cH aj) al al Y ?_ λH' d cu aq an B ab=>fin H' d cu ad al B ab
  intro i aP;by_cases e:i=k
  ·subst e;rw[hj];exact(v.Jo K).keep (uk (H:=H1) aX al)
  ·rw[fk _ _ e];exact(aw i ad).keep (by grind[uk])
theorem C_{α:Type}{K:eS α}{H:ae}{ok:Nat->Prop}{zD c:Nat}{nv:Nat->af}{f:Nat->List α}(d:ok zD)(g:H.get zD=A (.row I 1 ((List.range c).map λi=>[nv i])))(aw:∀i,i<c->aH K H ok (f i) (nv i)):aH (bu K) H ok ((List.range c).map f) (.az zD 0 c 1 (A c)):=by
 refine .inr (.inl ⟨zD,0,A c,I,_,by simp[bu],d,g,aX,λj x a=> ?_⟩);have b:j<c:=al;simp[b]at a;subst a;exact⟨[nv j],al,nv j,rfl,aw j b⟩
theorem RO(T:V=n+m*8)(U:V<=1000000){zD R zF W6:Nat}(G:zF<R){x8:af}{Q:af->ae->Prop}{N:Nat}(M:8<N):∀(j k r:Nat) (fv:Nat->af) (H:ae),k+j=m->j<r->cF n V a S aT dv es H->ud V a dv zF->R<H.next->W6<zF->H.get W6=A (.row I 1 [[.int .i64 8]])->H.get R=A (.row I 2 [[.az zD 0 n 1 (A n),.az zF 0 m 1 (A m)]])->H.get zF=A (.row I 1 ((List.range m).map λi=>[fv i]))->(∀i,i<k->aH (bu aN) H (nL R H) ((List.range 8).map λf=>aQ (Go.a_.bits (S.a (dd n i f)))) (fv i))->
  (∀(H':ae) (p:Nat->af),H.next<=H'.next->(∀q,q<H.next->q≠zF->H'.get q=H.get q)->H'.get zF=A (.row I 1 ((List.range m).map λi=>[p i]))->(∀i,i<m->aH (bu aN) H' (nL R H') ((List.range 8).map λf=>aQ (Go.a_.bits (S.a (dd n i f)))) (p i))->W (s7 (aK P aG) N x8 (.ptr R 0 0) H') Q)->
  W (vv (aK P aG) N r (.ptr W6 0 0) x8 (.ptr (a+6) 0 0) (.ptr R 0 0) (.int .i64 m) (.int .i64 k) H) Q
 |_,_,0,_,_,_,aA,_,_,_,_,_,_,_,_,_=>ad
 |0,k,r+1,fv,H,ar,_,h,_,_,_,_,_,s,aw,fin=>by
  have aL:¬(k:Int)<(m:Int):=ad;refine bG @vv.eq_2 @Az.eq_1 ?_;exact fin H fv (du _) (λ_ _ _=>rfl) s λi aP=>aw i ad
 |j+1,k,r+1,fv,H,ar,aA,h,z,O,ap,d,u,s,aw,fin=>by
  have B:k<m:=ad;have on:=RO T U (zD:=zD) G (W6:=W6) (x8:=x8) (Q:=Q) M j (k+1) r;have ab:∀{H1:ae},H1.get R=A (.row I 2 [[.az zD 0 n 1 (A n),.az zF 0 m 1 (A m)]])->aI P H1 152 (.ptr R 0 1)=A (.az zF 0 m 1 (A m)):=λg=>by rw[e0 aF g rfl];rfl
  have x:=au.push H (.row I 1 ((List.range 8).map λ_=>[af.ao]));have ah:=h.aB x;have E:=x.get s;have aa:=ae.bq E;have st:=Db (t:=31) (v:= .az H.next 0 8 1 (A 8)) aF E B rfl;have aE:∀l i n e c,bF (A (.az l i n e c)) (.az l i n e c)=true:=λl i n e c=>by simp[bF,af.beq]
  have mk:=u0 H.next 8 ad
  have aR:=ae.bq s;have aj:((H.push (.row I 1 ((List.range 8).map λ_=>[af.ao]))).set zF (.row I 1 ((List.range m).map λi=>[dj fv k (.az H.next 0 8 1 (A 8)) i]))).get H.next=A (.row I 1 ((List.range 8).map λ_=>[af.ao])):=by rw[ae.b8 ad];exact ae.a2 _ _
  have y:∀q,q<H.next->q≠zF->((H.push (.row I 1 ((List.range 8).map λ_=>[af.ao]))).set zF (.row I 1 ((List.range m).map λi=>[dj fv k (.az H.next 0 8 1 (A 8)) i]))).get q=H.get q:=λq aJ b=>by rw[ae.b8 (Ne.symm b)];exact x.2 q aJ
  have an:=(y W6 (ae.bq d) ad).trans d;have mk':gS (hL P ⟨.leaf,H.next⟩ 31 (.int .i64 8) (.int .i64 8)) H.next=A (.az H.next 0 8 1 (A 8),.row I 1 ((List.range 8).map λ_=>[.ao])):=mk
  refine bh @vv.eq_2 @Az.eq_1 (ab u) (ab (x.get u)) (iD d) (ag mk' (ag (h5 nr B) (ag st (ag aE (iD an))))) ?_;refine Lr T U (zD:=zD) (zF:=zF) G O B 8 0 N (λ_=> .ao) _ ad M (ah.out z.1 z.2 _) (h.nl (du _)) aX aj ((y R ad ad).trans u) (ae.cH aa) (hj _ _ _) (λi aP=>ad) ?_;intro o iv ax aD Y ak ay;refine bP @vu.eq_1 ?_;have aO:H.next+1<=o.next:=fA aD
  have w:∀q,q<H.next->q≠zF->o.get q=H.get q:=λq aJ b=>(Y q (by simp;omega) ad).trans (y q aJ b)
  have am:o.get zF=A (.row I 1 ((List.range m).map λi=>[dj fv k (.az H.next 0 8 1 (A 8)) i])):=by rw[Y zF (by simp;omega) ad];exact ae.cH aa
  refine on (dj fv k (.az H.next 0 8 1 (A 8))) o ad ad ax z ad ap ((w W6 (ae.bq d) ad).trans d) ((w R ad ad).trans u) am ?_ λH' p aM aq al av=>fin H' p ad (λq aJ b=>(aq q ad b).trans (w q aJ b)) al av
  intro i aP;by_cases e:i=k
  ·subst e;rw[hj];exact C_ ⟨O,ad⟩ ak λf aC=>(ay f aC).keep (.le λL K=>⟨by have:=K.1;omega,K.2⟩)
  ·rw[fk _ _ e];exact(aw i ad).keep (uk ad λq ah ai=>w q ai ad)
end
end
section
open Go.a_
set_option maxRecDepth 2000
set_option maxHeartbeats 4000000
def yg{H:ae}{L:Nat}{x y u v:af}(h:H.get L=A (.row I 2 [[u,v]]))(aE:x.one=J)(a:y.one=J):cr P H 154 (.ptr L 0 0) (.agg [x,y])=A (H.set L (.row I 2 [[x,y]])):=by
 rw[e4 (n:=2) aF h rfl rfl (by grind[af.cells]) bZ];simp[af.cells,fU]
def mE{H:ae}{L:Nat}{u v:af}(h:H.get L=A (.row I 2 [[u,v]])):aI P H 154 (.ptr L 0 0)=A (.agg [u,v]):=hz (n:=2) (i:=0) (c:=0) aF aF h rfl bZ
def fw{H:ae}{L:Nat}{u v:af}(h:H.get L=A (.row I 2 [[u,v]])):aI P H 31 (.ptr L 0 0)=A u/\aI P H 152 (.ptr L 0 1)=A v:=by
 refine⟨?_,?_⟩
 ·rw[e0 aF h rfl];rfl
 ·rw[e0 aF h rfl];rfl
section
variable {H:ae}{ok:Nat->Prop}
theorem acG{n m:Nat}{l:List bp}{lv:af}(N:gg n m l)(aL:n<=70000)(cD:0<n)(hm:m<=60)(aw:l.length<=800000000)(a1:aH cP H ok l lv):
  W (aK P aG 130 [.int .i64 n,.int .i64 m,.int .i64 8,lv] H) λr H'=>∃pv,r= .tuple [pv,.int .i64 0]/\Je H' (λL=>H.next<=L/\L<H'.next) (hb n m l) pv/\au H H':=by
 obtain⟨V,M⟩:∃V,V=n+m*8:=⟨_,rfl⟩;refine adR (l.length+V+100) ?_;have bs:au H ((((H.push (.row I 1 [[.int .i64 (n:Nat)]])).push (.row I 1 [[.int .i64 (m:Nat)]])).push (.row I 1 [[.int .i64 8]])).push (.row I 2 [[.ao,.ao]])):=(((au.push _ _).trans (au.push _ _)).trans (au.push _ _)).trans (au.push _ _);have s:nO ((((H.push (.row I 1 [[.int .i64 (n:Nat)]])).push (.row I 1 [[.int .i64 (m:Nat)]])).push (.row I 1 [[.int .i64 8]])).push (.row I 2 [[.ao,.ao]])) H.next (H.next+1) (H.next+1+1) n m 8:=by
  refine⟨?_,?_,?_⟩<;>simp-implicitDefEqProofs(disch:=try exact aW)only[qI]<;>rfl
 have Y:((((H.push (.row I 1 [[.int .i64 (n:Nat)]])).push (.row I 1 [[.int .i64 (m:Nat)]])).push (.row I 1 [[.int .i64 8]])).push (.row I 2 [[.ao,.ao]])).get (H.next+1+1+1)=A (.row I 2 [[.ao,.ao]]):=by simp-implicitDefEqProofs(disch:=try exact aW)only[qI]
 have d1:decide ((0:Int)<=(n:Int)/\(n:Int)<70001)=true:=al;have d2:decide ((0:Int)<=(m:Int)/\(m:Int)<61)=true:=al;have d3:decide ((0:Int)<=(8:Int)/\(8:Int)<9)=true:=bZ;have fY:nO ((((H.push (.row I 1 [[.int .i64 (n:Nat)]])).push (.row I 1 [[.int .i64 (m:Nat)]])).push (.row I 1 [[.int .i64 8]])).push (.row I 2 [[.ao,.ao]])) H.next (H.next+1) (H.next+1+1) n m 8:=s
 have an:aI P ((((H.push (.row I 1 [[.int .i64 (n:Nat)]])).push (.row I 1 [[.int .i64 (m:Nat)]])).push (.row I 1 [[.int .i64 8]])).push (.row I 2 [[.ao,.ao]])) 3 (.ptr (H.next+1+1) 0 0)=A (.int .i64 8):=iD s.c;refine bG @Gn.eq_1 @Kc ?_;generalize b7:((((H.push (.row I 1 [[.int .i64 (n:Nat)]])).push (.row I 1 [[.int .i64 (m:Nat)]])).push (.row I 1 [[.int .i64 8]])).push (.row I 2 [[.ao,.ao]]))=H0 at*;have cC:H0.next=H.next+4:=by rw[<-b7];simp
 obtain⟨zA,b2⟩:∃zA,zA=H.next:=⟨_,rfl⟩
 rw[<-b2]at s Y an fY ⊢;obtain⟨B,b4⟩:∃B,B=zA+1:=⟨_,rfl⟩;rw[<-b4]at s Y an fY ⊢;obtain⟨zC,b5⟩:∃zC,zC=B+1:=⟨_,rfl⟩;rw[<-b5]at s Y an fY ⊢;obtain⟨d,b_⟩:∃d,d=zC+1:=⟨_,rfl⟩;rw[<-b_]at Y ⊢;refine bP (iD s.a) ?_;refine dK (Dg _ _) ?_;refine bG d1 (iD s.b) ?_;refine ht (Dg _ _) ?_;refine b3 d1 d2 an ?_;refine ht (Dg _ _) ?_;refine b3 d1 d2 d3 ?_;refine cT (VS N ad (a1.aB bs) s) λK a8=> ?_
 have e:=s.aB a8;have bf:=a8.get Y;have a9:=bs.trans a8;have ci:aI P K 3 (.ptr zC 0 0)=A (.int .i64 8):=iD e.c;have bE:bx P .mul 3 I (.int .i64 (m:Int)) (.int .i64 8)=A (.int .i64 ((m*8:Nat):Int)):=by
  show A (af.int .i64 (IntKind.i64.wrap ((m:Int)*8)))=_;grind[wrap_i64]
 have cq:IntKind.i64.wrap ((n:Int)+((m*8:Nat):Int))=((V:Nat):Int):=by grind[wrap_i64]
 have u:V<=1000000000:=ad;refine bh d1 d2 d3 (iD e.a) (iD e.b) (ag ci (ag bE cq)) ?_;obtain⟨a,ak⟩:∃a,a=K.next:=⟨_,rfl⟩
 have bV:=au.push K (.row I 1 (g6 (List.replicate V 0)));generalize aS:K.push (.row I 1 (g6 (List.replicate V 0)))=av at*;have cL:av.next=a+1:=by rw[<-aS,ak];simp
 have b9:=au.push av (.row I 1 ((List.range V).map λ_=>[.ao]));generalize aT:av.push (.row I 1 ((List.range V).map λ_=>[.ao]))=ax at*;have a5:ax.next=a+2:=by rw[<-aT];simp[cL]
 have a3:=au.push ax (.row I 1 ((List.range V).map λ_=>[.ao]));generalize aU:ax.push (.row I 1 ((List.range V).map λ_=>[.ao]))=ay at*;have a6:ay.next=a+3:=by rw[<-aU];simp[a5]
 have am:=au.push ay (.row I 1 (g6 (List.replicate V 0)));generalize aV:ay.push (.row I 1 (g6 (List.replicate V 0)))=aC at*;have a7:aC.next=a+4:=by rw[<-aV];simp[a6]
 have ah:=au.push aC (.map []);generalize aY:aC.push (.map [])=aE at*;have n5:aE.next=a+5:=by rw[<-aY];simp[a7]
 have Q:=au.push aE (.row I 1 (c6 (List.replicate V I)));generalize aZ:aE.push (.row I 1 (c6 (List.replicate V I)))=aF at*;have n6:aF.next=a+6:=by rw[<-aZ];simp[n5]
 have E:=au.push aF (.row I 9 [im n V a λ_=> .ao]);generalize a0:aF.push (.row I 9 [im n V a λ_=> .ao])=o at*;have n7:o.next=a+7:=by rw[<-a0];simp[n6]
 have t2:=bV.trans b9;have t3:=t2.trans a3;have t4:=t3.trans am;have t5:=t4.trans ah;have t6:=t5.trans Q;have t7:=t6.trans E;have bW:o.get a=A (.row I 1 (g6 (List.replicate V 0))):=(((((b9.trans a3).trans am).trans ah).trans Q).trans E).get (by grind[ae.a2]);have bX:o.get (a+1)=A (.row I 1 ((List.range V).map λ_=>[.ao])):=((((a3.trans am).trans ah).trans Q).trans E).get (by grind[ae.a2]);have b1:o.get (a+2)=A (.row I 1 ((List.range V).map λ_=>[.ao])):=(((am.trans ah).trans Q).trans E).get (by grind[ae.a2]);have ge:o.get (a+3)=A (.row I 1 (g6 (List.replicate V 0))):=((ah.trans Q).trans E).get (by grind[ae.a2])
 have bY:o.get (a+4)=A (.map []):=(Q.trans E).get (by grind[ae.a2]);have gw:o.get (a+5)=A (.row I 1 (c6 (List.replicate V I))):=E.get (by grind[ae.a2]);have b0:o.get (a+6)=A (.row I 9 [im n V a λ_=> .ao]):=by grind[ae.a2]
 have sv:=cF.start b0 bW bX b1 ge bY gw;have bc:ei P 248 [(0,.int .i64 (n:Nat)),(1,.int .i64 8),(2,.az a 0 V 1 (A V)),(3,.az (a+1) 0 V 1 (A V)),(4,.az (a+2) 0 V 1 (A V)),(5,.az (a+3) 0 V 1 (A V)),(6,.map (a+4)),(8,.az (a+5) 0 V 1 (A V))]=A (.agg (im n V a λ_=> .ao)):=JT rfl rfl rfl rfl rfl rfl rfl rfl;have bd:fj (a+6) (.agg (im n V a λ_=> .ao))=A (.ptr (a+6) 0 0,.row I 9 [im n V a λ_=> .ao]):=rfl;have z:∀{H1:ae},au K H1->aI P H1 3 (.ptr zA 0 0)=A (.int .i64 (n:Nat))/\aI P H1 3 (.ptr zC 0 0)=A (.int .i64 8):=λp=>⟨iD (e.aB p).a,iD (e.aB p).c⟩
 simp only[kD,<-ak,aS,cL,aT,a5,aU,a6,aV,a7,aY,n5,aZ,n6,a0,N3 _ V u,u0 _ V u,N7 _ V u,sP _ V u,kM,bc,bd,lZ];simp-implicitDefEqProofs(disch:=try exact aW)only[reduceAdd,reduceLeDiff,reduceIte,bB,<-ak,aS,cL,aT,a5,aU,a6,aV,a7,aY,n5,aZ,n6,a0,N3 _ V u,u0 _ V u,N7 _ V u,sP _ V u,bc,bd,z (au.refl K),z bV,z t2,z t3,z t4,z t5,z t6,fp,Bool.and_self,Bool.and_true,(a1.aB a9).len ik];have ab:V<=1000000:=ad;have cc:aH cP o (· <a) l lv:=by
  have:=(a1.aB a9).below;rw[<-ak]at this;exact this.aB t7
 refine J4 N hm M ab aw l.length 0 _ (gC V) [] (λ_=> .ao) [] o ad ad sv (by grind[gK.start]) (λv=>by
  have:(gC V).q v=[]:=lK;grind) cc ?_
 intro bb cu qA bF bw ck f1 bH cI;obtain⟨kI,-,bm⟩:=gK.J3 hm N (cs:=l) (gK.start n m l) λ_ h=>h
 rw[<-M,<-List.drop_zero (l:=l),<-bH,List.drop_zero]at kI bm;refine bP @AG.eq_1 ?_;refine NF M ab V 0 _ bb cu qA bF bw ad ad ck ?_;intro bA cN hh cA cy cl f2 bI;obtain⟨i2,bn⟩:=er.looks ((List.range V).drop 0) bb kI.i (λv cJ=>al) bm;rw[<-bI]at i2 bn;have cf:∀v,(bA.q v).length<=1000000000:=λv=>by grind[ND]
 refine bP @AH.eq_1 ?_;refine cK (Y5 cl N M ad ab hm i2 cf) ?_;rintro _ G ⟨rfl,aM,cO,n2,cB,a4,i3,bJ,ct,f3⟩;refine⟨f3.1,?_⟩;have bl:∀v,Go.a_.bits (aM.a v)=c7 m (dH n l v):=λv=>er.list N hm (er.final N i3 (λc aA=>(bn c aA).uI bJ.b) ct) v
 have pu:=sv.e3 ((f1.trans f2).trans f3);have cg:zA<a:=by have:=ae.bq e.a;omega
 have ch:B<a:=by have:=ae.bq e.b;omega
 have iB:zC<a:=by have:=ae.bq e.c;omega
 have jm:d<a:=by have:=ae.bq bf;omega
 have aj:nO G zA B zC n m 8:=⟨(pu.2 zA cg).trans (t7.get e.a),(pu.2 B ch).trans (t7.get e.b),(pu.2 zC iB).trans (t7.get e.c)⟩;have bT:G.get d=A (.row I 2 [[.ao,.ao]]):=(pu.2 d jm).trans (t7.get bf);have cz:=a4.lt;obtain⟨zD,bi⟩:∃zD,zD=G.next:=⟨_,rfl⟩
 have bt:=au.push G (.row I 1 ((List.range n).map λ_=>[.ao]));generalize bj:G.push (.row I 1 ((List.range n).map λ_=>[.ao]))=ar at*;have br:ar.next=zD+1:=by rw[<-bj,bi];simp
 have bv:=au.push ar (.row I 1 ((List.range m).map λ_=>[.ao]));generalize bk:ar.push (.row I 1 ((List.range m).map λ_=>[.ao]))=t at*;have ap:t.next=zD+2:=by rw[<-bk];simp[br]
 have ba:=au.push t (.row I 2 [[.az zD 0 n 1 (A n),.az (zD+1) 0 m 1 (A m)]]);have co:cr P (t.push (.row I 2 [[.ao,.ao]])) 154 (.ptr (zD+2) 0 0) (.agg [.az zD 0 n 1 (A n),.az (zD+1) 0 m 1 (A m)])=A (t.push (.row I 2 [[.az zD 0 n 1 (A n),.az (zD+1) 0 m 1 (A m)]])):=by
  have g:=ae.a2 t (.row I 2 [[.ao,.ao]]);rw[ap]at g;rw[yg g rfl rfl,<-ap,ae.lb]
 generalize b6:t.push (.row I 2 [[.az zD 0 n 1 (A n),.az (zD+1) 0 m 1 (A m)]])=S at*;have cM:S.next=zD+3:=by rw[<-b6];simp[ap]
 have aO:S.get (zD+2)=A (.row I 2 [[.az zD 0 n 1 (A n),.az (zD+1) 0 m 1 (A m)]]):=by grind[ae.a2]
 have bO:S.get (zD+1)=A (.row I 1 ((List.range m).map λ_=>[.ao])):=ba.get (by grind[ae.a2]);have bL:S.get zD=A (.row I 1 ((List.range n).map λ_=>[.ao])):=(bv.trans ba).get (by grind[ae.a2]);have aq:=(bt.trans bv).trans ba;have cm:=a4.aB aq;have bC:ei P 154 [(0,.az zD 0 n 1 (A n)),(1,.az (zD+1) 0 m 1 (A m))]=A (.agg [.az zD 0 n 1 (A n),.az (zD+1) 0 m 1 (A m)]):=JR rfl rfl;have bD:=aj.aB bt;have ce:n<=1000000000:=ad;have cd:m<=1000000000:=ad;have cx:∀(k:af->ae->O),e5 t [.ao,.ao] k=k (.ptr (zD+2) 0 0) (t.push (.row I 2 [[.ao,.ao]])):=λk=>by grind[iL,iN]
 simp only[iD aj.a,lZ,<-bi,u0 _ n ce,kM,tW,bj,br,iD bD.b,abH _ m cd,bk,ap,bC,cx,co,m1,iD aj.b];refine cv @Bool.and_self @Bool.and_true (fw aO) @fp ?_;have bo:∀k,G.next<=k->ud V a n2 k:=λk j=>a4.nl j
 refine Ot M ab (R:=zD+2) (zF:=zD+1) ad n 0 _ (λ_=> .ao) S ad ad cm (bo zD ad) ad bL aO (λi aP=>ad) ?_;intro bz nv cn cE T bM ca;have aR:=(T (zD+2) ad ad).trans aO;have bQ:=(T (zD+1) ad ad).trans bO;have be:=aj.aB aq;have bK:=(T zC (ae.bq be.c) ad).trans be.c;refine bG @AI.eq_1 (fw aR) ?_;refine RO M ab (zD:=zD) (R:=zD+2) (zF:=zD+1) (W6:=zC) ad ad m 0 _ (λ_=> .ao) bz ad ad cn (bo (zD+1) ad) ad ad bK aR bQ (λi aP=>ad) ?_;intro w fv cG U bR cb;have bS:=(U (zD+2) ad ad).trans aR;have bN:=(U zD ad ad).trans bM;have bg:w.get d=A (.row I 2 [[.ao,.ao]]):=((U d ad ad).trans (T d ad ad)).trans (aq.get bT)
 have cj:=ae.bq bg;have cp:=yg (x:= .az zD 0 n 1 (A n)) (y:= .az (zD+1) 0 m 1 (A m)) bg rfl rfl;have bU:(w.set d (.row I 2 [[.az zD 0 n 1 (A n),.az (zD+1) 0 m 1 (A m)]])).get d=A (.row I 2 [[.az zD 0 n 1 (A n),.az (zD+1) 0 m 1 (A m)]]):=ae.cH cj;refine cv @s7.eq_1 (mE bS) cp (mE bU) ?_;have aa:∀q,q≠d->(w.set d (.row I 2 [[.az zD 0 n 1 (A n),.az (zD+1) 0 m 1 (A m)]])).get q=w.get q:=λq aJ=>ae.b8 (Ne.symm aJ)
 have n9:(w.set d (.row I 2 [[.az zD 0 n 1 (A n),.az (zD+1) 0 m 1 (A m)]])).next=w.next:=aX
 generalize w.set d (.row I 2 [[.az zD 0 n 1 (A n),.az (zD+1) 0 m 1 (A m)]])=ai at*;refine aD.2 ⟨_,rfl,⟨_,_,rfl,?_,?_⟩,?_,?_⟩
 ·have:=C_ (K:=aN) (H:=ai) (ok:=λL=>zA<=L/\L<ai.next) (zD:=zD) (c:=n) (nv:=nv) (f:=λi=>aQ (Go.a_.bits (aM.a i))) ⟨ad,ad⟩ ((aa zD ad).trans bN) λi aP=>(ca i aP).keep λk b j g=>⟨⟨by have:=j.1;omega,by have:=j.2;omega⟩,by rw[aa k (by have:=j.1;omega),U k j.2 (by have:=j.1;omega)];exact g⟩
  simpa [hb,il,bl,Function.comp_def]using this
 ·have:=C_ (K:=bu aN) (H:=ai) (ok:=λL=>zA<=L/\L<ai.next) (zD:=zD+1) (c:=m) (nv:=fv) (f:=λi=>(List.range 8).map λf=>aQ (Go.a_.bits (aM.a (dd n i f)))) ⟨ad,ad⟩ ((aa (zD+1) ad).trans bR) λi aP=>(cb i aP).keep λk b j g=>⟨⟨by have:=j.1;omega,by have:=j.2;omega⟩,by rw[aa k (by have:=j.1;omega)];exact g⟩
  simpa [hb,il,bl,Function.comp_def,dd]using this
 ·omega
 ·intro q aJ;rw[aa q ad,U q ad ad,T q ad ad,aq.2 q ad,pu.2 q ad,t7.2 q ad,a9.2 q ad]
end
end
end Go.Proofs.YtmhhnnklfcbgfaaGreat
namespace Go.a_
open Go.cw
section
open Classical
def aR(L:List Nat)(i:Nat):Nat:=L.getD i i
structure Good(L:List Nat):Prop where
 le:∀i,aR L i<=i
 id:∀i,aR L (aR L i)=aR L i
theorem pf{L:List Nat}{i:Nat}(h:i<L.length):L[i]? =A (aR L i):=by
 grind[aR]
theorem E_{L:List Nat}{i:Nat}(h:L.length<=i):aR L i=i:=by
 grind[aR]
def zH{L:List Nat}{i v:Nat}(h:L[i]? =A v):aR L i=v:=by
 grind[aR]
def ed(L:List Nat)(a b:Nat):Prop:=aR L a=aR L b
theorem mN(L:List Nat):gd (ed L):=⟨λ_=>rfl,λh=>h.symm,λh k=>h.trans k⟩
theorem sM(n i:Nat):aR (List.range n) i=i:=by
 by_cases h:i<n
 ·exact zH (by grind)
 grind[E_]
def Mf(n:Nat):Good (List.range n):=⟨(by grind[sM]),(by grind[sM])⟩
def Good.lt{L:List Nat}(g:Good L){i:Nat}(h:i<L.length):aR L i<L.length:=by have:=g.le i;omega
def Good.least{L:List Nat}(g:Good L)(a:Nat):eg (ed L) a=aR L a:=by
 have h:=kd (mN L) a;have ah:ed L a (aR L a):=(g.id a).symm;have ai:=h.2.2 _ ah;have ax:aR L a=aR L (eg (ed L) a):=h.1;have aM:=g.le (eg (ed L) a);omega
def fP(L:List Nat)(a b:Nat):List Nat:=L.map λx=>if x=aR L a\/x=aR L b then min (aR L a) (aR L b)else x
theorem ob(L:List Nat)(a b:Nat):(fP L a b).length=L.length:=by simp[fP]
theorem lO{L:List Nat}(g:Good L){a b:Nat}(c:a<L.length)(d:b<L.length)(i:Nat):aR (fP L a b) i=if aR L i=aR L a\/aR L i=aR L b then min (aR L a) (aR L b)else aR L i:=by
 by_cases h:i<L.length
 ·refine zH ?_;grind[fP,pf]
 ·have cu:L.length<=i:=by omega
  rw[E_ (by grind[ob]),E_ cu,if_neg];have:=g.lt c;have:=g.lt d;omega
theorem sH{L:List Nat}{a b:Nat}(h:aR L a=aR L b):fP L a b=L:=by
 unfold fP;rw[h,Nat.min_self];have:∀x∈L,(if x=aR L b\/x=aR L b then aR L b else x)=x:=by
  intro x _;split
  ·omega
  ·rfl
 exact(List.map_congr_left this).trans (List.map_id' L)
def Good.join{L:List Nat}(g:Good L){a b:Nat}(c:a<L.length)(d:b<L.length):Good (fP L a b):=by
 have hm:aR (fP L a b) (min (aR L a) (aR L b))=min (aR L a) (aR L b):=by
  rw[lO g c d];rcases Nat.le_total (aR L a) (aR L b)with h|h
  ·rw[Nat.min_eq_left h,g.id,if_pos (.inl rfl)]
  ·rw[Nat.min_eq_right h,g.id,if_pos (.inr rfl)]
 refine⟨λi=> ?_,λi=> ?_⟩
 ·rw[lO g c d];have:=g.le i;grind
 ·by_cases h:aR L i=aR L a\/aR L i=aR L b
  ·grind[lO]
  ·have e:aR (fP L a b) i=aR L i:=by grind[lO]
   rw[e,lO g c d,g.id,if_neg h]
theorem Ag{L:List Nat}(g:Good L){a b:Nat}(e:a<L.length)(f:b<L.length){c d:Nat}:ed (fP L a b) c d↔ed L c d\/((ed L c a\/ed L c b)/\(ed L d a\/ed L d b)):=by
 unfold ed;rw[lO g e f,lO g e f];by_cases aA:aR L c=aR L a\/aR L c=aR L b<;>by_cases h:aR L d=aR L a\/aR L d=aR L b
 ·grind
 ·grind
 ·grind
 grind
noncomputable def hA(L:List Nat):Nat:=(c7 L.length λi=>aR L i=i).length
def FB{L:List Nat}(g:Good L){a b:Nat}(c:a<L.length)(d:b<L.length)(h:aR L a≠aR L b):hA (fP L a b)<hA L:=by
 unfold hA;rw[ob];have e:∀i,aR (fP L a b) i=i->aR L i=i:=by
  intro i aP;rw[lO g c d]at aP;split at aP
  ·rename_i ah;rcases Nat.le_total (aR L a) (aR L b)with ai|ai
   ·rw[Nat.min_eq_left ai]at aP;rw[<-aP,g.id]
   ·rw[Nat.min_eq_right ai]at aP;rw[<-aP,g.id]
  omega
 rcases Nat.lt_or_ge (c7 L.length λi=>aR (fP L a b) i=i).length (c7 L.length λi=>aR L i=i).length with ah|ah
 ·omega
 ·have key:=O3 e ah;have f:=key (aR L a) (g.lt c) (g.id a);have j:=key (aR L b) (g.lt d) (g.id b);grind[lO]
def Ox(L:List Nat):hA L<=L.length:=by
 grind[hA,c7]
def k4(L:List Nat)(a:Nat):List Nat->List Nat
 |[]=>L
 |b::bs=>k4 (fP L a b) a bs
structure iP(L L':List Nat):Prop where
 len:L'.length=L.length
 hM:Good L'
 le:∀c d,ed L c d->ed L' c d
 num:L'=L\/hA L'<hA L
theorem iP.refl{L:List Nat}(g:Good L):iP L L:=⟨rfl,g,λ_ _ h=>h,.inl rfl⟩
theorem iP.trans{L L1 L2:List Nat}(h:iP L L1)(k:iP L1 L2):iP L L2:=
 ⟨k.len.trans h.len,k.hM,λc d r=>k.le c d (h.le c d r),by
  rcases h.num with rfl|ah
  ·exact k.num
  ·rcases k.num with rfl|ai
   ·omega
   omega⟩
def iP.qY{L L':List Nat}(h:iP L L'):hA L'<=hA L:=by
 rcases h.num with rfl|ah
 ·omega
 omega
def uP{L:List Nat}(g:Good L){a b:Nat}(c:a<L.length)(d:b<L.length):iP L (fP L a b):=by
 refine⟨ob _ _ _,g.join c d,(by grind[Ag]),?_⟩;by_cases h:aR L a=aR L b
 ·grind[sH]
 ·exact .inr (FB g c d h)
def zo:∀{bs:List Nat} {L:List Nat} {a:Nat},Good L->a<L.length->(∀b∈bs,b<L.length)->iP L (k4 L a bs)
 |[],L,a,g,_,_=> .refl g
 |b::bs,L,a,g,d,e=>by
  have ah:=uP g d (e b (by simp));exact ah.trans (zo ah.hM (by rw[ah.len];omega) λc aA=>by rw[ah.len];grind)
theorem MM:∀{bs:List Nat} {L:List Nat} {a:Nat},Good L->a<L.length->(∀b∈bs,b<L.length)->∀b∈bs,ed (k4 L a bs) a b
 |[],_,_,_,_,_,b,h=>by grind
 |c::bs,L,a,g,e,i,b,h=>by
  have ah:=uP g e (i c (by simp));have f:a<(fP L a c).length:=by rw[ah.len];omega
  have j:∀d∈bs,d<(fP L a c).length:=λd k=>by rw[ah.len];grind
  rcases List.mem_cons.1 h with rfl|h
  ·exact(zo ah.hM f j).le _ _ ((Ag g e (i b (by simp))).2 (.inr ⟨.inl rfl,.inr rfl⟩))
  ·exact MM ah.hM f j b h
def MQ{L:List Nat}(g:Good L){a b:Nat}(k:a<L.length)(l:b<L.length){R:Nat->Nat->Prop}(e:gd R)(h:∀c d,ed L c d->R c d)(f:R a b):∀c d,ed (fP L a b) c d->R c d:=by
 intro c d m;rcases(Ag g k l).1 m with ah|⟨ah,ai⟩
 ·grind
 ·have i:R c a:=ah.elim (h _ _) λq=>e.trans (h _ _ q) (e.symm f)
  have j:R d a:=ai.elim (h _ _) λq=>e.trans (h _ _ q) (e.symm f)
  exact e.trans i (e.symm j)
def MO:∀{bs:List Nat} {L:List Nat} {a:Nat},Good L->a<L.length->(∀b∈bs,b<L.length)->∀{R:Nat->Nat->Prop},gd R->(∀c d,ed L c d->R c d)->(∀b∈bs,R a b)->∀c d,ed (k4 L a bs) c d->R c d
 |[],_,_,_,_,_,_,_,h,_=>h
 |b::bs,L,a,g,f,j,R,e,h,i=>by
  have ah:=uP g f (j b (by simp));exact MO ah.hM (by rw[ah.len];omega) (λd k=>by rw[ah.len];grind) e (MQ g f (j b (by simp)) e h (i b (by simp))) λd k=>i d (by grind)
def Z9{L:List Nat}{a:Nat}{bs:List Nat}:k4 L a (a::bs)=k4 L a bs:=by
 grind[k4,sH]
def Good.Wm{L:List Nat}(g:Good L){R:Nat->Nat->Prop}(c:gd R)(h:∀a b,a<L.length->b<L.length->(ed L a b↔R a b)):L=(List.range L.length).map (eg R):=by
 apply List.ext_getElem?;intro i;by_cases aP:i<L.length
 ·rw[pf aP,List.getElem?_map,List.getElem?_range aP,<-g.least i];grind[VP,mN]
 grind
end
section
open Classical
def qc(L:List Nat):List Nat->List Nat
 |[]=>L
 |a::bs=>k4 L a bs
section
variable {L:List Nat}{l:List Nat}
theorem II(g:Good L)(h:∀b∈l,b<L.length):iP L (qc L l):=by
 cases l with
 |nil=>exact .refl g
 |cons a bs=>exact zo g (h a (by simp)) λb c=>h b (by grind)
theorem Sx(g:Good L)(h:∀b∈l,b<L.length):∀b∈l,∀c∈l,ed (qc L l) b c:=by
 cases l with
 |nil=>grind
 |cons a bs=>
  have ah:∀b∈a::bs,ed (k4 L a bs) a b:=by
   intro b d;rcases List.mem_cons.1 d with rfl|d
   ·rfl
   grind[MM]
  intro b d c aA;exact(mN _).trans ((mN _).symm (ah b d)) (ah c aA)
theorem aiP(g:Good L)(h:∀b∈l,b<L.length){R:Nat->Nat->Prop}(f:gd R)(e:∀c d,ed L c d->R c d)(aw:∀b∈l,∀c∈l,R b c):∀c d,ed (qc L l) c d->R c d:=by
 cases l with
 |nil=>exact e
 |cons a bs=>exact MO g (h a (by simp)) (by grind) f e (by grind)
end
structure May(m:Nat)(p:c8):Prop where
 nodes:∀N∈p.nodes,∀a∈N,a<m
 len:p.fields.length=m
 wid:∀fs∈p.fields,fs.length=8
 ee:∀fs∈p.fields,∀l∈fs,∀a∈l,a<m
def May.dD{m:Nat}{p:c8}(h:May m p){s k a:Nat}(b:a∈p.ee s k):a<m/\s<m/\k<8:=by
 unfold c8.ee at b;cases d:p.fields[s]? with
 |none=>grind
 |some fs=>
  rw[d]at b;simp only[Option.bind_some]at b;have ah:=List.mem_of_getElem? d;cases c:fs[k]? with
  |none=>grind
  |some l=>
   rw[c]at b;have ai:=(List.getElem?_eq_some_iff.1 c).1;have ax:=(List.getElem?_eq_some_iff.1 d).1;rw[h.wid fs ah]at ai;rw[h.len]at ax;exact⟨h.ee fs ah l (List.mem_of_getElem? c) a b,ax,ai⟩
def abn(n m:Nat)(R:Nat->Nat->Prop):May m (il n m R):=by
 refine⟨?_,by simp[il],?_,?_⟩
 ·grind[il,g_]
 ·grind[il]
 grind[il,g_]
structure dN(m:Nat)(p:c8)(L:List Nat):Prop where
 len:L.length=m
 hM:Good L
 sub:∀c d,ed L c d->bR p c d
structure hZ(p:c8)(L:List Nat):Prop where
 h:∀N∈p.nodes,∀a∈N,∀b∈N,ed L a b
structure j7(p:c8)(L:List Nat):Prop where
 h:∀s t k a b,ed L s t->a∈p.ee s k->b∈p.ee t k->ed L a b
theorem dN.start(m:Nat)(p:c8):dN m p (List.range m):=⟨by simp,Mf m,λc d h=>by
 unfold ed at h;rw[sM,sM]at h;rw[h];exact .refl d⟩
def dN.Su{m:Nat}{p:c8}{L l:List Nat}(h:dN m p L)(aw:∀b∈l,b<m)(ba:∀b∈l,∀c∈l,bR p b c):dN m p (qc L l):=by
 have ah:∀b∈l,b<L.length:=λb a=>by rw[h.len];grind
 have j:=II h.hM ah;exact⟨j.len.trans h.len,j.hM,aiP h.hM ah (bR.jO p).eqv h.sub ba⟩
def hZ.zn{p:c8}{L L':List Nat}(h:hZ p L)(j:iP L L'):hZ p L':=⟨λN c a d b e=>j.le _ _ (h.h N c a d b e)⟩
theorem Yh{m:Nat}{p:c8}{L:List Nat}(h:dN m p L)(aL:hZ p L)(aA:j7 p L):∀a b,ed L a b↔bR p a b:=by
 intro a b;refine⟨h.sub a b,bR.least (R:=ed L) ⟨(mN L).refl,(mN L).symm,(mN L).trans,?_,?_⟩⟩
 ·intro N a b e c d;exact aL.h N e a c b d
 ·intro s t k a b f c d;exact aA.h s t k a b f c d
def Yg{m:Nat}{p:c8}{L:List Nat}(h:dN m p L)(aL:hZ p L)(aA:j7 p L):L=(List.range m).map (eg (bR p)):=by
 have:=h.hM.Wm (bR.jO p).eqv (by grind[Yh]);rwa[h.len]at this
def VM{R:Nat->Nat->Prop}(d:gd R){l:List Nat}{a:Nat}(h:a∈l)(aw:∀b∈l,∀c∈l,R b c):h4 R l=db R a:=by
 cases l with
 |nil=>grind
 |cons b bs=>
  grind[h4,sq]
theorem uX{p:c8}{R:Nat->Nat->Prop}{m r k a:Nat}:a∈ku p R m r k↔∃t,t<m/\R r t/\a∈p.ee t k:=by
 grind[ku,g_]
def YX{p:c8}{m r k:Nat}:∀b∈ku p (bR p) m r k,∀c∈ku p (bR p) m r k,bR p b c:=by
 intro b a c aA;obtain⟨s,_,ah,ai⟩:=uX.1 a;obtain⟨t,_,ax,aM⟩:=uX.1 aA;exact .field (.trans (.symm ah) ax) ai aM
end
end Go.a_
namespace Go.Proofs.YtmhhnnklfcbgfaaGreat
open Go.cw
open Nat (reduceAdd reduceLeDiff)
section
set_option maxRecDepth 100000
set_option maxHeartbeats 4000000
noncomputable section
def q6(G:aq)(N:Nat):gG 2 8 Tryz.f132 G N (·.aa.aa.aa.aa.aa.aa.aa.aa.aa.aa) (a8 Tryz.f132) []:=⟨_,v2 an⟩
def vB(G:aq)(N:Nat)(L5:cy):fD 1 2 8 87 88 89 Tryz.f132 G N (·.aa.aa.aa.aa.aa.aa.aa.aa.aa.aj.aa.aj.aj.aa.aa.aa) (ch L5 1 2 8 87 88 89) [(10,(bd (q6 G N) 2 8))]:=⟨_,v6 an⟩
def AS(G:aq)(N:Nat)(L5:cy):gM 1 2 8 17 87 88 89 Tryz.f132 G N (·.aa.aa.aa.aa.aa.aa.aa.aa.aa.aj.aa.aj.aj.aa.aa.aj.aj.aa.aa.aa) (ch (vB G N L5) 1 2 8 87 88 89) [(11,(ch (vB G N L5) 1 2 8 87 88 89)),(10,(bd (q6 G N) 2 8))]:=⟨_,g2 an⟩
def AN(G:aq)(N:Nat)(L5:cy)(L8:jf):r2 1 2 8 16 17 87 88 89 100 101 Tryz.f132 G N (·.aa.aa.aa.aa.aa.aa.aa.aa.aa.aj.aa.aj.aj.aa.aa.aj.aj.aa.aa.aj.aa.aj.aj) (qt L8 1 2 8 16 17 87 88 89 100 101) [(12,(dp (AS G N L5) 1 2 8 17 87 88 89)),(11,(ch (vB G N L5) 1 2 8 87 88 89)),(10,(bd (q6 G N) 2 8))]:=⟨_,Wd an⟩
def vG(G:aq)(N:Nat)(L5:cy):Nat->jf
 |0=>yr
 |n+1=>AN G N L5 (vG G N L5 n)
def AM(G:aq)(N:Nat)(L5:cy):fD 1 2 8 87 88 89 Tryz.f132 G N (·.aa.aa.aa.aa.aa.aa.aa.aa.aa.aj.aa.aj.aj) (ch L5 1 2 8 87 88 89) [(10,(bd (q6 G N) 2 8))]:=⟨_,v6 (ak (ak (ak ((vB G N L5).2) (bj (ak (ak (ak ((AS G N L5).2) (ak (bj (bH (λm=>(AN G N L5 (vG G N L5 m)).2))) an)) an) an))) an) an)⟩
def vF(G:aq)(N:Nat):Nat->cy
 |0=>ir
 |n+1=>AM G N (vF G N n)
def AR(G:aq)(N:Nat):dI 1 2 7 8 Tryz.f132 G N (·.aa.aa.aa.aa.aa.aa.aa.aa.aa) (a8 Tryz.f132) []:=⟨_,v4 (ak ((q6 G N).2) (ak (bj (bH (λm=>(AM G N (vF G N m)).2))) an))⟩
def AO(G:aq)(N:Nat)(L9:ec):gM 1 2 7 8 71 72 73 Tryz.f132 G N (·.aa.aa.aa.aa.aa.aa.aa.aa.aj.aa.aj.aj) (dp L9 1 2 7 8 71 72 73) [(8,(bI (AR G N) 1 2 7 8))]:=⟨_,o3 an⟩
def vH(G:aq)(N:Nat):Nat->ec
 |0=>kN
 |n+1=>AO G N (vH G N n)
def s9(G:aq)(N:Nat):dI 1 2 7 8 Tryz.f132 G N (·.aa.aa.aa.aa.aa.aa.aa.aa) (a8 Tryz.f132) []:=⟨_,v4 (ak ((AR G N).2) (ak (bj (bH (λm=>(AO G N (vH G N m)).2))) an))⟩
def vA(G:aq)(N:Nat)(L10:ec):gM 1 2 7 8 50 51 52 Tryz.f132 G N (·.aa.aa.aa.aa.aa.aa.aa.aj.aa.aj.aj.aa.aa.aa) (dp L10 1 2 7 8 50 51 52) [(4,(bI (s9 G N) 1 2 7 8))]:=⟨_,g2 an⟩
def AK(G:aq)(N:Nat)(L10:ec)(a:oQ):Tl 1 2 7 8 9 50 51 52 57 58 59 Tryz.f132 G N (·.aa.aa.aa.aa.aa.aa.aa.aj.aa.aj.aj.aa.aa.aj.aj.aa.aa.aj.aj) (Ke a 1 2 7 8 9 50 51 52 57 58 59) [(6,(dp (vA G N L10) 1 2 7 8 50 51 52)),(5,(dp (vA G N L10) 1 2 7 8 50 51 52)),(4,(bI (s9 G N) 1 2 7 8))]:=⟨_,v11 an⟩
def vD(G:aq)(N:Nat)(L10:ec):Nat->oQ
 |0=>akk
 |n+1=>AK G N L10 (vD G N L10 n)
def AJ(G:aq)(N:Nat)(L10:ec):gM 1 2 7 8 50 51 52 Tryz.f132 G N (·.aa.aa.aa.aa.aa.aa.aa.aj.aa.aj.aj) (dp L10 1 2 7 8 50 51 52) [(4,(bI (s9 G N) 1 2 7 8))]:=⟨_,g2 (ak (ak (ak ((vA G N L10).2) (bj (ak (ak (bj (bH (λm=>(AK G N L10 (vD G N L10 m)).2))) an) an))) an) an)⟩
def vC(G:aq)(N:Nat):Nat->ec
 |0=>kN
 |n+1=>AJ G N (vC G N n)
def AQ(G:aq)(N:Nat):eh 1 2 4 Tryz.f132 G N (·.aa.aa.aa.aa.aa) (a8 Tryz.f132) []:=⟨_,v3 (ak (ak (ak ((s9 G N).2) (ak (bj (bH (λm=>(AJ G N (vC G N m)).2))) an)) an) an)⟩
def Gr(G:aq)(N:Nat)(L13:b6):eh 1 2 4 Tryz.f132 G N (·.aa.aa.aa.aa.aj.aj.aj) (bn L13 1 2 4) [(2,(bn (AQ G N) 1 2 4))]:=⟨_,v3 an⟩
def AT(G:aq)(N:Nat):Nat->b6
 |0=>gD
 |n+1=>Gr G N (AT G N n)
def AP(G:aq)(N:Nat):eh 1 2 4 Tryz.f132 G N (·.aa.aa.aa.aa) (a8 Tryz.f132) []:=⟨_,v3 (ak ((AQ G N).2) (bj (bH (λm=>(Gr G N (AT G N m)).2))))⟩
def AL(G:aq)(N:Nat)(a:cy):fD 1 2 4 28 29 30 Tryz.f132 G N (·.aa.aa.aa.aj.aa.aj.aj) (ch a 1 2 4 28 29 30) [(0,(bn (AP G N) 1 2 4))]:=⟨_,v6 an⟩
def vE(G:aq)(N:Nat):Nat->cy
 |0=>ir
 |n+1=>AL G N (vE G N n)
def Gq(G:aq)(N:Nat):fM Tryz.f132 G N:=⟨_,t1 (ak (ak (ak (ak ((AP G N).2) (ak (bj (bH (λm=>(AL G N (vE G N m)).2))) an)) an) an) an)⟩
def adT(N:Nat):=en Tryz.func132 λG=>(Gq G N).2
def GY(G:aq)(N:Nat):hJ Tryz.f185 G N (·.aa.aa.aa.aa) (a8 Tryz.f185) []:=⟨_,v0 an⟩
def Bk(G:aq)(N:Nat)(L1:cx):eY 1 3 19 20 21 Tryz.f185 G N (·.aa.aa.aa.aj.aa.aj.aj) (bY L1 1 3 19 20 21) [(0,(br (GY G N)))]:=⟨_,v5 an⟩
def wb(G:aq)(N:Nat):Nat->cx
 |0=>hH
 |n+1=>Bk G N (wb G N n)
def GX(G:aq)(N:Nat):fM Tryz.f185 G N:=⟨_,t1 (ak (ak (ak (ak ((GY G N).2) (ak (bj (bH (λm=>(Bk G N (wb G N m)).2))) an)) an) an) an)⟩
def aeq(N:Nat):=en Tryz.func185 λG=>(GX G N).2
def G0(G:aq)(N:Nat):eJ 3 Tryz.f186 G N (·.aa.aa.aa) (a8 Tryz.f186) []:=⟨_,v1 an⟩
def Bl(G:aq)(N:Nat)(L1:b6):eh 3 15 16 Tryz.f186 G N (·.aa.aa.aj.aa.aj.aj) (bn L1 3 15 16) [(0,(a1 (G0 G N) 3))]:=⟨_,v3 an⟩
def wc(G:aq)(N:Nat):Nat->b6
 |0=>gD
 |n+1=>Bl G N (wc G N n)
def GZ(G:aq)(N:Nat):fM Tryz.f186 G N:=⟨_,t1 (ak (ak (ak ((G0 G N).2) (ak (bj (bH (λm=>(Bl G N (wc G N m)).2))) an)) an) an)⟩
def aer(N:Nat):=en Tryz.func186 λG=>(GZ G N).2
def wg(G:aq)(N:Nat):eJ 5 Tryz.f187 G N (·.aa.aa.aa) (a8 Tryz.f187) []:=⟨_,v1 an⟩
def G2(G:aq)(N:Nat)(L1:cy):fD 0 1 5 8 9 10 Tryz.f187 G N (·.aa.aa.aj.aa.aj.aj.aa.aa.aa) (ch L1 0 1 5 8 9 10) [(0,(a1 (wg G N) 5))]:=⟨_,v6 an⟩
def we(G:aq)(N:Nat)(L1:cy):fD 0 1 5 8 9 10 Tryz.f187 G N (·.aa.aa.aj.aa.aj.aj) (ch L1 0 1 5 8 9 10) [(0,(a1 (wg G N) 5))]:=⟨_,v6 (ak (ak (ak ((G2 G N L1).2) an) an) an)⟩
def tk(G:aq)(N:Nat):Nat->cy
 |0=>ir
 |n+1=>we G N (tk G N n)
def G1(G:aq)(N:Nat):fW Tryz.f187 G N:=⟨_,t2 (ak (ak (ak ((wg G N).2) (ak (bj (bH (λm=>(we G N (tk G N m)).2))) an)) an) an)⟩
def aes(N:Nat):=c1 Tryz.func187 λG=>(G1 G N).2
def tm(G:aq)(N:Nat):eJ 5 Tryz.f188 G N (·.aa.aa.aa) (a8 Tryz.f188) []:=⟨_,v1 an⟩
def ra(G:aq)(N:Nat)(L1:cy):fD 0 3 5 10 11 12 Tryz.f188 G N (·.aa.aa.aj.aa.aj.aj.aa.aa.aa) (ch L1 0 3 5 10 11 12) [(0,(a1 (tm G N) 5))]:=⟨_,v6 an⟩
def G4(G:aq)(N:Nat)(L1:cy)(L3:jE):ql 0 3 5 7 10 11 12 23 24 Tryz.f188 G N (·.aa.aa.aj.aa.aj.aj.aa.aa.aj.aj.aa.aa.aj.aj.aa.aa.aa) (oX L3 0 3 5 7 10 11 12 23 24) [(2,(ch (ra G N L1) 0 3 5 10 11 12)),(1,(ch (ra G N L1) 0 3 5 10 11 12)),(0,(a1 (tm G N) 5))]:=⟨_,v9 an⟩
def Bn(G:aq)(N:Nat)(L1:cy)(L3:jE):ql 0 3 5 7 10 11 12 23 24 Tryz.f188 G N (·.aa.aa.aj.aa.aj.aj.aa.aa.aj.aj.aa.aa.aj.aj) (oX L3 0 3 5 7 10 11 12 23 24) [(2,(ch (ra G N L1) 0 3 5 10 11 12)),(1,(ch (ra G N L1) 0 3 5 10 11 12)),(0,(a1 (tm G N) 5))]:=⟨_,v9 (ak (ak (ak ((G4 G N L1 L3).2) an) an) an)⟩
def wj(G:aq)(N:Nat)(L1:cy):Nat->jE
 |0=>ys
 |n+1=>Bn G N L1 (wj G N L1 n)
def Bm(G:aq)(N:Nat)(L1:cy):fD 0 3 5 10 11 12 Tryz.f188 G N (·.aa.aa.aj.aa.aj.aj) (ch L1 0 3 5 10 11 12) [(0,(a1 (tm G N) 5))]:=⟨_,v6 (ak (ak (ak ((ra G N L1).2) (bj (ak (ak (bj (bH (λm=>(Bn G N L1 (wj G N L1 m)).2))) an) an))) an) an)⟩
def wh(G:aq)(N:Nat):Nat->cy
 |0=>ir
 |n+1=>Bm G N (wh G N n)
def G3(G:aq)(N:Nat):fW Tryz.f188 G N:=⟨_,t2 (ak (ak (ak ((tm G N).2) (ak (bj (bH (λm=>(Bm G N (wh G N m)).2))) an)) an) an)⟩
def aet(N:Nat):=c1 Tryz.func188 λG=>(G3 G N).2
def tn(G:aq)(N:Nat):eJ 3 Tryz.f189 G N (·.aa.aa.aa.aa.aa) (a8 Tryz.f189) []:=⟨_,v1 an⟩
def Bp(G:aq)(N:Nat)(L1:cx):eY 0 3 4 14 15 Tryz.f189 G N (·.aa.aa.aa.aa.aj.aa.aj.aj.aa.aa.aa) (bY L1 0 3 4 14 15) [(0,(a1 (tn G N) 3))]:=⟨_,v5 an⟩
def wk(G:aq)(N:Nat)(L1:cx):gM 0 3 4 5 6 14 15 Tryz.f189 G N (·.aa.aa.aa.aa.aj.aa.aj.aj.aa.aa.aj.aj.aa.aa.aa) (bY (Bp G N L1) 0 3 4 14 15) [(1,(bY (Bp G N L1) 0 3 4 14 15)),(0,(a1 (tn G N) 3))]:=⟨_,o3 an⟩
def Bo(G:aq)(N:Nat)(L1:cx):eY 0 3 4 14 15 Tryz.f189 G N (·.aa.aa.aa.aa.aj.aa.aj.aj) (bY L1 0 3 4 14 15) [(0,(a1 (tn G N) 3))]:=⟨λc x3 x4 d a H=>aU (bx P .lss 3 I a d) λe=>ep (A e) (ea H (G 228 [c,a] H) λb ah=>aU (bx P .eql 3 I b a) λf=>ep (A f) (eM P .len [31] [x3] ah λg=>gp ah (jI P ah 293 x4 b g) λai=>fe ai (A (.az (ai).next 0 1 1 (A 1),.row I 1 [[af.ao]])) λh ax=>ea ax (eA P ax [31,31] x3 h) λi aM=>wk G N L1 c i x4 a b d a aM) (wk G N L1 c x3 x4 a b d a ah)) (tn G N x3 H),cO (ak (ak (ak ((Bp G N L1).2) (bj (ak (ak (ak ((wk G N L1).2) an) an) an))) an) an)⟩
def rb(G:aq)(N:Nat):Nat->cx
 |0=>hH
 |n+1=>Bo G N (rb G N n)
def G5(G:aq)(N:Nat):fM Tryz.f189 G N:=⟨λa H=>aU (bx P .eql 253 J a af.ho) λx8=>ep (A x8) (A (af.ao,H)) (fe H (A (.map (H).next,.map [])) λx9 ah=>aU (eB a) λx11=>aU (bO P 292 x11 0) λx12=>aU (aI P ah 30 x12) λb=>eM P .len [30] [b] ah λc=>rb G N N a af.ao x9 c (.int .i64 0) ah),zr (ak (ak (ak (ak (ak ((tn G N).2) (ak (bj (bH (λm=>(Bo G N (rb G N m)).2))) an)) an) an) an) an)⟩
def aeu(N:Nat):=en Tryz.func189 λG=>(G5 G N).2
def Br(G:aq):eO Tryz.f190 G:=⟨_,λN=>t2 an⟩
def aev(N:Nat):=c1 Tryz.func190 λG=>(Br G).2 N
def G7(G:aq)(N:Nat):eJ 7 Tryz.f191 G N (·.aa.aa.aa) (a8 Tryz.f191) []:=⟨_,v1 an⟩
def Bs(G:aq)(N:Nat)(L1:cy):fD 2 3 7 10 11 12 Tryz.f191 G N (·.aa.aa.aj.aa.aj.aj) (ch L1 2 3 7 10 11 12) [(0,(a1 (G7 G N) 7))]:=⟨_,v6 an⟩
def wm(G:aq)(N:Nat):Nat->cy
 |0=>ir
 |n+1=>Bs G N (wm G N n)
def G6(G:aq)(N:Nat):m_ Tryz.f191 G N:=⟨_,t3 (ak (ak (ak ((G7 G N).2) (ak (bj (bH (λm=>(Bs G N (wm G N m)).2))) an)) an) an)⟩
def aew(N:Nat):=hC Tryz.func191 λG=>(G6 G N).2
def Hg(G:aq)(N:Nat):hJ Tryz.f226 G N (·.aa.aa) (a8 Tryz.f226) []:=⟨_,v0 an⟩
def By(G:aq)(N:Nat)(L1:cg):dI 3 7 8 9 Tryz.f226 G N (·.aa.aj.aa.aj.aj) (bI L1 3 7 8 9) [(0,(br (Hg G N)))]:=⟨_,v4 an⟩
def wB(G:aq)(N:Nat):Nat->cg
 |0=>fq
 |n+1=>By G N (wB G N n)
def Hf(G:aq)(N:Nat):fW Tryz.f226 G N:=⟨_,t2 (ak (ak ((Hg G N).2) (ak (bj (bH (λm=>(By G N (wB G N m)).2))) an)) an)⟩
def aeI(N:Nat):=c1 Tryz.func226 λG=>(Hf G N).2
def Hh(G:aq):jH Tryz.f227 G:=⟨_,λN=>t3 an⟩
def aeJ(N:Nat):=hC Tryz.func227 λG=>(Hh G).2 N
def Hj(G:aq)(N:Nat):eJ 1 Tryz.f228 G N (·.aa.aa.aa) (a8 Tryz.f228) []:=⟨_,v1 an⟩
def Bz(G:aq)(N:Nat)(L1:T2):gG 0 1 Tryz.f228 G N (·.aa.aa.aj.aj.aj) (bd L1 0 1) [(0,(a1 (Hj G N) 1))]:=⟨_,v2 an⟩
def wC(G:aq)(N:Nat):Nat->T2
 |0=>m2
 |n+1=>Bz G N (wC G N n)
def Hi(G:aq)(N:Nat):fW Tryz.f228 G N:=⟨_,t2 (ak (ak (ak ((Hj G N).2) (bj (bH (λm=>(Bz G N (wC G N m)).2)))) an) an)⟩
def aeK(N:Nat):=c1 Tryz.func228 λG=>(Hi G N).2
def Hv(G:aq):eO Tryz.f253 G:=⟨_,λN=>t2 an⟩
def aeZ(N:Nat):=c1 Tryz.func253 λG=>(Hv G).2 N
end
end
section
open Go.a_
set_option maxRecDepth 2000
def et(l:List Nat):List (List af):=l.map λn=>[.int .i64 (n:Nat)]
def Uj(l:List Nat)(i n:Nat):(et l).set i [.int .i64 (n:Nat)]=et (l.set i n):=by simp[et,List.map_set]
def E6{H:ae}{l:List Nat}{zD i:Nat}(g:H.get zD=A (.row I 1 (et l)))(aP:i<l.length):aI P H 3 (.ptr zD i 0)=A (.int .i64 (aR l i:Nat)):=by
 rw[e0 aF g (e:=[.int .i64 (aR l i:Nat)]) (by simp[et,pf aP])];rfl
def Da{H:ae}{l:List Nat}{zD i:Nat}(g:H.get zD=A (.row I 1 (et l)))(aP:i<l.length)(n:Nat):cr P H 3 (.ptr zD i 0) (.int .i64 n)=A (H.set zD (.row I 1 (et (l.set i n)))):=by
 rw[e4 (n:=1) aF g (e:=[.int .i64 (aR l i:Nat)]) (by simp[et,pf aP]) rfl rfl bZ,<-Uj];rfl
theorem uT{l:List Nat}{i n:Nat}(aP:i<l.length)(k:Nat):aR (l.set i n) k=if k=i then n else aR l k:=by
 grind[aR]
structure l5(L U:List Nat):Prop where
 len:U.length=L.length
 le:∀i,aR U i<=i
 same:∀i,aR L (aR U i)=aR L i
 root:∀i,aR U i=i->aR L i=i
theorem l5.start(n:Nat):l5 (List.range n) (List.range n):=⟨rfl,(by grind[sM]),(by grind[sM]),ad⟩
def l5.Y8{L U:List Nat}(u:l5 L U){a:Nat}(b:a<U.length)(h:aR U a≠a):l5 L (U.set a (aR U (aR U a))):=by
 have ah:=u.le a;have ai:=u.le (aR U a);refine⟨by rw[List.length_set];exact u.len,λi=> ?_,λi=> ?_,λi=> ?_⟩<;>rw[uT b]<;>split
 ·omega
 ·exact u.le i
 ·next e=>rw[e,u.same,u.same]
 ·exact u.same i
 ·omega
 ·exact u.root i
def l5.join{L U:List Nat}(u:l5 L U)(g:a_.Good L){a b:Nat}(c:a<L.length)(d:b<L.length)(l:aR L a≠aR L b):l5 (fP L a b) (U.set (max (aR L a) (aR L b)) (min (aR L a) (aR L b))):=by
 have h:=g.lt c;have j:=g.lt d;have m:=g.id a;have n:=g.id b;have aw:=u.len;have hm:max (aR L a) (aR L b)<U.length:=ad;refine⟨by grind[ob],λi=> ?_,λi=> ?_,λi=> ?_⟩<;>rw[uT hm]
 ·split
  ·omega
  ·exact u.le i
 ·rw[lO g c d,lO g c d];split
  ·grind
  ·rw[u.same]
 ·rw[lO g c d];split
  ·omega
  ·next e=>
   intro f;have k:=u.root i f;grind
structure fi(zD:Nat)(L:List Nat)(H:ae):Prop where
 g:a_.Good L
 f:H.get (zD+1)=some (.row false 1 [[.az zD 0 L.length 1 (some L.length)]])
 u:∃U,l5 L U/\H.get zD=some (.row false 1 (et U))
section
variable {zD:Nat}{L:List Nat}{H:ae}
def fi.lt(h:fi zD L H):zD+1<H.next:=ae.bq h.f
theorem fi.aB{H':ae}(h:fi zD L H)(m:au H H'):fi zD L H':=by
 obtain⟨U,u,g⟩:=h.u;exact⟨h.g,m.get h.f,U,u,m.get g⟩
def fi.nq(h:fi zD L H):aI P H 30 (.ptr (zD+1) 0 0)=A (.az zD 0 L.length 1 (A L.length)):=by
 rw[e0 aF h.f rfl];rfl
theorem fi.set(h:fi zD L H){U:List Nat}(u:l5 L U):fi zD L (H.set zD (.row I 1 (et U))):=
 ⟨h.g,by rw[ae.b8 ad];exact h.f,U,u,ae.cH (by have:=h.lt;omega)⟩
theorem Nt{a:Nat}(n:a<L.length){N:Nat}:∀(m b:Nat) (H:ae),b<m->fi zD L H->b<L.length->aR L b=aR L a->
  W (wC (aK P aG) N m (.ptr (zD+1) 0 0) (.int .i64 b) H) λr H'=>r= .int .i64 (aR L a:Nat)/\fi zD L H'/\fK (· =zD) H H'
 |0,_,_,hm,_,_,_=>ad
 |m+1,b,H,hm,h,f,o=>by
  obtain⟨U,u,g⟩:=h.u;have c:b<U.length:=by rw[u.len];omega
  have fu:=E6 g c;by_cases e:aR U b=b
  ·have d:((aR U b:Nat):Int)=((b:Nat):Int):=ad;have t:=u.root b e;refine bh @wC.eq_2 @Bz.eq_1 h.nq (h5 b0 f) fu (ag d (ag @bne_self_eq_false.{0} @Hj.eq_1)) ?_;exact aD.2 ⟨al,h,.refl _ _⟩
  ·have d:(((aR U b:Nat):Int)==((b:Nat):Int))=false:=al;have k:(((aR U b:Nat):Int) != ((b:Nat):Int))=true:=al;have v:=u.le b;have p:aR U b<U.length:=ad;have aA:aR U b<L.length:=ad;have w:=u.le (aR U b);have s:=u.Y8 c e;have ah:=h.set s;have iC:zD<H.next:=by have:=h.lt;omega
   have j:=E6 (ae.cH (b:= .row I 1 (et (U.set b (aR U (aR U b))))) iC) (i:=b) al;rw[uT c,if_pos rfl]at j;refine bh @wC.eq_2 @Bz.eq_1 h.nq (h5 b0 f) (h5 b0 aA) (ag fu (ag k (ag (E6 g p) (ag (Da g c) (ag ah.nq j))))) ?_;have l:aR L (aR U (aR U b))=aR L a:=by rw[u.same,u.same,o]
   exact(Nt n (N:=N) m (aR U (aR U b)) (H.set zD (.row I 1 (et (U.set b (aR U (aR U b)))))) ad ah ad l).mono λr H' q=>⟨q.1,q.2.1,((fK.refl (· =zD) H).oF (.inl rfl) _).trans q.2.2⟩
theorem E8(h:fi zD L H){a:Nat}(c:a<L.length):W (aK P aG 228 [.ptr (zD+1) 0 0,.int .i64 a] H) λr H'=>r= .int .i64 (aR L a:Nat)/\fi zD L H'/\fK (· =zD) H H':=by
 refine aeK (a+1) ?_;have b:bx P .eql 253 J (.ptr (zD+1) 0 0) .ho=A (.bool I):=aF;refine b3 @Hi.eq_1 b h.nq ?_;grind[Nt]
theorem Yk(h:fi zD L H){a b:Nat}(c:a<L.length)(d:b<L.length)(v:L.length<=1000000):W (aK P aG 227 [.ptr (zD+1) 0 0,.int .i64 a,.int .i64 b] H) λr H'=>r= .bool (decide (aR L a≠aR L b))/\fi zD (fP L a b) H'/\fK (· =zD) H H':=by
 refine aeJ 0 ?_;refine bP @Hh.eq_1 ?_;refine cK (E8 h c) ?_;rintro _ H1 ⟨rfl,ah,k⟩;refine⟨k.1,?_⟩;refine bN ?_;refine cK (E8 ah d) ?_;rintro _ q ⟨rfl,ai,l⟩;refine⟨l.1,?_⟩;have m:=k.trans l;by_cases e:aR L a=aR L b
 ·have j:(((aR L a:Nat):Int)==((aR L b:Nat):Int))=true:=al;refine bP j ?_;grind[aD,sH]
 ·have j:(((aR L a:Nat):Int)==((aR L b:Nat):Int))=false:=al;obtain⟨U,u,g⟩:=ai.u;have s:=h.g.lt c;have t:=h.g.lt d;have aw:=u.len;have p:=u.join h.g c d e;have n:max (aR L a) (aR L b)<L.length:=ad;have o:∀(H0:ae),bE P H0 .max [3,3] [.int .i64 (aR L a:Nat),.int .i64 (aR L b:Nat)]=A (.int .i64 ((max (aR L a) (aR L b):Nat):Int)):=λH0=>by
   show A (af.int .i64 (if((aR L a:Nat):Int)<((aR L b:Nat):Int)then _ else _))=_;grind
  have ha:∀(H0:ae),bE P H0 .min [3,3] [.int .i64 (aR L a:Nat),.int .i64 (aR L b:Nat)]=A (.int .i64 ((min (aR L a) (aR L b):Nat):Int)):=λH0=>by
   show A (af.int .i64 (if((aR L b:Nat):Int)<((aR L a:Nat):Int)then _ else _))=_;grind
  have st:=Da g (i:=max (aR L a) (aR L b)) ad (min (aR L a) (aR L b));refine bh j ai.nq (h5 b0 n) st o ha ?_;exact aD.2 ⟨al,⟨h.g.join c d,by rw[ae.b8 ad,ob];exact ai.f,_,p,ae.cH (by have:=ai.lt;omega)⟩,m.oF (.inl rfl) _⟩
def N2(l n:Nat)(aL:n<=1000000000):gS (hL P ⟨.leaf,l⟩ 30 (.int .i64 n) (.int .i64 n)) l=A (.az l 0 n 1 (A n),.row I 1 (et (List.replicate n 0))):=by
 rw[qX (t:=30) (e:=3) (esz:=1) (z:= .int .i64 0) (b:=8) aF aF aF aF rfl rfl bZ bZ l n aL];simp[et,af.cells]
theorem Om{n:Nat}(aL:n<=10000){N:Nat}:∀(j k m:Nat) (U:List Nat) (H:ae),k+j=n->j<m->U.length=n->(∀i,i<k->aR U i=i)->H.get (zD+1)=A (.row I 1 [[.az zD 0 n 1 (A n)]])->H.get zD=A (.row I 1 (et U))->
  W (wc (aK P aG) N m (.ptr (zD+1) 0 0) (.int .i64 n) (.int .i64 k) H) λr H'=>r= .ptr (zD+1) 0 0/\fi zD (List.range n) H'/\fK (· =zD) H H'
 |_,_,0,_,_,_,hm,_,_,_,_=>ad
 |0,k,m+1,U,H,c,_,b,aw,a,g=>by
  have f:¬(k:Int)<(n:Int):=ad;have e:U=List.range n:=by
   apply List.ext_getElem?;grind[pf]
  subst e;refine b3 @wc.eq_2 @Bl.eq_1 @G0.eq_1 ?_;exact aD.2 ⟨rfl,⟨Mf n,al,_,l5.start n,g⟩,.refl _ _⟩
 |j+1,k,m+1,U,H,c,hm,b,aw,a,g=>by
  have d:k<n:=ad;have nq:aI P H 30 (.ptr (zD+1) 0 0)=A (.az zD 0 n 1 (A n)):=by rw[e0 aF a rfl];rfl
  have iC:=ae.bq g;refine c_ @wc.eq_2 @Bl.eq_1 nq (h5 b0 d) (Da g (show k<U.length by omega) k) ?_;exact(Om aL j (k+1) m _ _ ad ad al (by grind[uT]) (by grind[ae.b8]) (ae.cH iC)).mono λr H' q=>⟨q.1,q.2.1,((fK.refl (· =zD) H).oF (.inl rfl) _).trans q.2.2⟩
def abW{n:Nat}(aL:n<=10000):W (aK P aG 186 [.int .i64 n] H) λr H'=>r= .ptr (H.next+1) 0 0/\fi H.next (List.range n) H'/\au H H':=by
 refine aer (n+1) ?_;have h:∀(H0:ae),bE P H0 .max [3,3] [.int .i64 (n:Nat),.int .i64 0]=A (.int .i64 (n:Nat)):=λH0=>by
  show A (af.int .i64 (if(n:Int)<0 then _ else _))=_;rw[if_neg ad]
 have ha:∀(H0:ae),bE P H0 .min [3,3] [.int .i64 (n:Nat),.int .i64 10000]=A (.int .i64 (n:Nat)):=λH0=>by
  show A (af.int .i64 (if(10000:Int)<(n:Int)then _ else _))=_
  congr 2;split<;>omega
 obtain⟨zD,b⟩:∃zD,zD=H.next:=⟨_,rfl⟩
 have d:=au.push H (.row I 1 (et (List.replicate n 0)));have c:=au.push (H.push (.row I 1 (et (List.replicate n 0)))) (.row I 1 [[.az zD 0 n 1 (A n)]]);have a:=ae.a2 (H.push (.row I 1 (et (List.replicate n 0)))) (.row I 1 [[.az zD 0 n 1 (A n)]]);have g:=c.get (ae.a2 H (.row I 1 (et (List.replicate n 0))));have e:fj (zD+1) (.agg [.az zD 0 n 1 (A n)])=A (.ptr (zD+1) 0 0,.row I 1 [[.az zD 0 n 1 (A n)]]):=rfl;have nq:aI P ((H.push (.row I 1 (et (List.replicate n 0)))).push (.row I 1 [[.az zD 0 n 1 (A n)]])) 30 (.ptr (zD+1) 0 0)=A (.az zD 0 n 1 (A n)):=by
  simp only[ae.fR,<-b]at a;rw[e0 aF a rfl];rfl
 simp only[ae.fR,<-b]at a g;refine qb @GZ.eq_1 h ha (λz=>N2 z n (show n<=1000000000 by omega)) b.symm (ag e nq) ?_;exact(Om aL n 0 _ _ _ ad ad aX (λi aP=>ad) a g).mono λr H' q=>⟨q.1,q.2.1,by
  have:=q.2.2.1;have ah:=d.1;have ai:=c.1;omega,λk f=>by
  rw[q.2.2.2 k (by simp;omega) (by simp;omega),c.2 k (by simp;omega),d.2 k f]⟩
theorem Sy{ok:Nat->Prop}(w:∀k,ok k->k≠zD){l:List Nat}{a:Nat}(o:l[0]? =A a)(aw:l.length<=1000000000){lv:af}{N:Nat}:∀(j k m:Nat) (L:List Nat) (H:ae) (b:Bool),k+j=l.length->j<m->fi zD L H->L.length<=1000000->(∀x∈l,x<L.length)->aH aN H ok (aQ l) lv->
  W (tk (aK P aG) N m (.ptr (zD+1) 0 0) lv (.bool b) lv (.int .i64 l.length) (.int .i64 k) H) λr H'=>∃b',r= .bool b'/\fi zD (k4 L a (l.drop k)) H'/\fK (· =zD) H H'/\(b'=J->b=J\/hA (k4 L a (l.drop k))<hA L)/\(b'=I->b=I/\k4 L a (l.drop k)=L)
 |_,_,0,_,_,_,_,hm,_,_,_,_=>ad
 |0,k,m+1,L,H,b,q,_,h,d,aE,i=>by
  have O:¬(k:Int)<(l.length:Int):=ad;refine b3 @tk.eq_2 @we.eq_1 @wg.eq_1 ?_;rw[List.drop_of_length_le ad];exact aD.2 ⟨b,rfl,h,.refl _ _,λe=> .inl e,λe=>⟨e,rfl⟩⟩
 |j+1,k,m+1,L,H,b,q,hm,h,d,aE,i=>by
  have s:k<l.length:=ad;have on:=Sy w o aw (lv:=lv) (N:=N) j (k+1) m;obtain⟨p,i1,i2⟩:=i.int (j:=(k:Int)) (a:=((l[k]:Nat):Int)) ad (by simp[aQ,s]);obtain⟨R,i3,i4⟩:=i.int (j:=0) (a:=((a:Nat):Int)) ad (by simp[aQ,o]);have f:a<L.length:=aE a (List.mem_of_getElem? o);have aA:l[k]<L.length:=aE _ (List.getElem_mem s);rw[List.drop_eq_getElem_cons s,k4];generalize l[k]=c at*;have Q:=uP h.g f aA;refine bh @tk.eq_2 @we.eq_1 i1 i2 i3 i4 ?_;refine cK (Yk h f aA d) ?_;rintro _ H1 ⟨rfl,ah,n⟩;refine⟨n.1,?_⟩;have z:∀x∈l,x<(fP L a c).length:=λx aJ=>by grind[ob]
  have y:aH aN H1 ok (aQ l) lv:=i.keep (.mut n λk q e=>w k q e);have B:=zo (bs:=l.drop (k+1)) ah.g (by rw[ob];exact f) λx aJ=>z x (List.mem_of_mem_drop aJ)
  by_cases e:aR L a=aR L c
  ·have K:=sH e;rw[K]at ah B ⊢;refine cv e @ne_eq.{1} not_true @G2.eq_1 ?_;exact(on L H1 b ad ad ah d aE y).mono λr H' ⟨b',t,u,v,E,G⟩=>⟨b',t,u,n.trans v,E,G⟩
  ·refine cv e @ne_eq.{1} @not_false_eq_true @G2.eq_1 ?_;have M:=FB h.g f aA e;have hle:=B.qY;exact(on _ H1 J ad ad ah (by rw[ob];exact d) z y).mono λr H' ⟨b',t,u,v,E,G⟩=>⟨b',t,u,n.trans v,λ_=> .inr ad,al⟩
theorem Sz{ok:Nat->Prop}(g:∀k,ok k->k≠zD){l:List Nat}(aw:l.length<=1000000000){lv:af}{L:List Nat}(h:fi zD L H)(f:L.length<=1000000)(aE:∀x∈l,x<L.length)(d:aH aN H ok (aQ l) lv):
  W (aK P aG 187 [.ptr (zD+1) 0 0,lv] H) λr H'=>∃b,r= .bool b/\fi zD (qc L l) H'/\fK (· =zD) H H'/\(b=J->hA (qc L l)<hA L)/\(b=I->qc L l=L):=by
 refine aes (l.length+1) ?_;have hlen:(aQ l).length=l.length:=by simp[aQ]
 have i:=d.len b0 (H0:=H);rw[hlen]at i;refine b3 @G1.eq_1 (d.bg b0) hlen ?_;cases c:l with
 |nil=>
  subst c;refine bh @tk.eq_2 @we.eq_1 @List.length_nil.{0} ad ad @wg.eq_1 ?_;exact aD.2 ⟨I,rfl,h,.refl _ _,(λe=>by cases e),λ_=>rfl⟩
 |cons a bs=>
  rw[<-c];refine(Sy g (l:=l) (a:=a) al aw l.length 0 _ L H I ad ad h f aE d).mono λr H' ⟨b',j,m,n,o,p⟩=>⟨b',j,?_,n,?_,?_⟩
  all_goals rw[List.drop_zero,c,Z9]at*
  ·exact m
  ·exactλe=>(o e).resolve_left bZ
  ·exactλe=>(p e).2
end
end
section
open Go.a_
set_option maxRecDepth 2000
noncomputable def fS(L:List Nat)(i:Nat):List Nat:=c7 i λs=>aR L s=s
noncomputable def gO(L:List Nat)(r:Nat):Nat:=(fS L r).length
noncomputable def cX(L:List Nat):List (List Nat):=(fS L L.length).map λr=>c7 L.length λs=>aR L s=r
def qi:eS af:=⟨1,λ_ _ v cs=>cs=[v]/\v.one=J,al,λ_ h=>h⟩
def O4:Plain qi:=λh=>h
def jP(f:Nat->Nat)(R:List Nat):List (af×af):=R.map λr=>(.int .i64 (r:Nat),.int .i64 (f r:Nat))
theorem aab(a b:Nat):pd (TypeDesc.int .i64) (.int .i64 (a:Nat)) (.int .i64 (b:Nat))=A (decide (a=b)):=by
 grind[pd,decide_eq_false]
theorem DL(f:Nat->Nat)(r:Nat):∀(R:List Nat) (i:Nat),(r∉R->nV (TypeDesc.int .i64) (.int .i64 (r:Nat)) (jP f R) i=A Z)/\(r∈R->∃j,nV (TypeDesc.int .i64) (.int .i64 (r:Nat)) (jP f R) i=A (A (j,.int .i64 (f r:Nat))))
 |[],i=>⟨λ_=>rfl,λh=>al⟩
 |e::es,i=>by
  obtain⟨ah,ai⟩:=DL f r es (i+1);grind[jP,nV,aab]
theorem SG:P.underlying 293=A (.map 3 3):=aF
theorem SH:P.underlying 3=A (.int .i64):=aF
theorem z3:fX P 3=A (.int .i64 0):=aF
def Fc{H:ae}{M:Nat}{f:Nat->Nat}{R:List Nat}(g:H.get M=A (.map (jP f R))){r:Nat}(ar:r∈R):l9 P H 293 (.map M) (.int .i64 (r:Nat)) I=A (.int .i64 (f r:Nat)):=by
 grind[DL,l9,SG,SH,z3,plainKey]
def ajp{H:ae}{M:Nat}{f:Nat->Nat}{R:List Nat}(g:H.get M=A (.map (jP f R))){r:Nat}(ar:r∉R):jI P H 293 (.map M) (.int .i64 (r:Nat)) (.int .i64 (f r:Nat))=A (H.set M (.map (jP f (R++[r])))):=by
 have e:jP f (R++[r])=jP f R++[(.int .i64 (r:Nat),.int .i64 (f r:Nat))]:=by simp[jP]
 simp[jI,SG,SH,plainKey,g,(DL f r R 0).1 ar,e]
section
variable {zD M:Nat}{L R:List Nat}{i:Nat}{H:ae}{ov:af}{dv:Nat->af}
structure iQ(zD M:Nat)(L R:List Nat)(i:Nat)(H:ae)(ov:af)(dv:Nat->af):Prop where
 fd:fi zD L H
 mp:H.get M=some (.map (jP (gO L) R))
 out:aY qi (M+1) bb H ((List.range R.length).map dv) ov
 ni:∀j r,R[j]? =some r->aY aN (M+1) bb H (aQ (c7 i λs=>aR L s=r)) (dv j)
 hg:∀j a K,j<R.length->a<R.length->dr (dv j)=some K->dr (dv a)=some K->j=a
 zR:∀j K,j<R.length->dr (dv j)=some K->dr ov≠some K
 gl:zD+1<M
def iQ.mlt(h:iQ zD M L R i H ov dv):M<H.next:=ae.bq h.mp
def iQ.frame{H':ae}(h:iQ zD M L R i H ov dv)(fd:fi zD L H')(aS:∀k,M<=k->k<H.next->H'.get k=H.get k):iQ zD M L R i H' ov dv:=
 ⟨fd,(aS M (du _) h.mlt).trans h.mp,h.out.frame O4 λK e=>aS K (by have:=(h.out.jn e).1;omega) (h.out.jn e).2,λj r a=>(h.ni j r a).frame fx λK e=>aS K (by have:=((h.ni j r a).jn e).1;omega) ((h.ni j r a).jn e).2,h.hg,h.zR,h.gl⟩
theorem iQ.h7(h:iQ zD M L R i H ov dv){j K:Nat}(a:j<R.length)(e:dr (dv j)=A K):M+1<=K/\K<H.next:=(h.ni j R[j] al).jn e
theorem P7(L:List Nat)(i:Nat):fS L (i+1)=fS L i++(if aR L i=i then[i]else[]):=by
 grind[fS,mJ]
open Classical in
theorem ns(m:Nat)(p:Nat->Prop):(c7 m p).length<=m:=by
 have:=List.length_filter_le (λs=>decide (p s)) (List.range m);rw[List.length_range]at this;exact this
theorem O2{m:Nat}{p:Nat->Prop}{j d r:Nat}(h:(c7 m p)[j]? =A r)(cu:(c7 m p)[d]? =A r):j=d:=by
 obtain⟨a,b⟩:=List.getElem?_eq_some_iff.1 h;obtain⟨b1,b'⟩:=List.getElem?_eq_some_iff.1 cu;have s:=List.pairwise_iff_getElem.1 (va m p);rcases Nat.lt_trichotomy j d with c|c|c
 ·grind
 ·exact c
 grind
theorem iQ.root(h:iQ zD M L R i H ov dv)(aP:i∉R)(Q:R.length=gO L i)(E:c7 i (λs=>aR L s=i)=[])(S:R.length<=1000000):
  ∃d H',eA P ((H.set M (.map (jP (gO L) (R++[i])))).push (.row I 1 [[af.ao]])) [31,31] ov (.az H.next 0 1 1 (A 1))=A (d,H')/\H.next+1<=H'.next/\iQ zD M L (R++[i]) i H' d (dj dv R.length .ao)/\(∀k,k<M->H'.get k=H.get k):=by
 have hm:=h.mlt;have t:∀k,k≠M->(H.set M (.map (jP (gO L) (R++[i])))).get k=H.get k:=λk v=>ae.b8 (Ne.symm v)
 have N:aY qi (M+1) bb (H.set M (.map (jP (gO L) (R++[i])))) ((List.range R.length).map dv) ov:=h.out.frame O4 λK e=>t K (by have:=(h.out.jn e).1;omega)
 obtain⟨d,H',a1,bd,bn,bI,bY,ch⟩:=aY.qo (K:=qi) (ok:=bb) (ok':=bb) dP N (by simp;omega) (au.refl _) (a:=af.ao) (cs:=[.ao]) ⟨rfl,rfl⟩ (λ_ _=>trivial) al;have x:(H.set M (.map (jP (gO L) (R++[i])))).next=H.next:=aX
 have low:∀k,k<M->H'.get k=H.get k:=λk v=>(bn.2 k ad).trans (t k ad)
 have O:∀k,M<k->k<H.next->dr ov≠A k->H'.get k=H.get k:=λk v T aw=>(bY k ad λL n c e=>by rintro rfl;exact aw (by rw[e];rfl)).trans (t k ad)
 have G:dr d=dr ov\/dr d=A (H.next+1):=by
  rcases ch with e|⟨n,e⟩
  ·grind
  ·exact .inr (by rw[e,x];rfl)
 have nn:H.next+1<=H'.next:=ad
 rw[x]at a1;refine⟨d,H',a1,nn,⟨?_,?_,?_,?_,?_,?_,h.gl⟩,low⟩
 ·obtain⟨U,u,g⟩:=h.fd.u;have:=h.gl;exact⟨h.fd.g,(low _ ad).trans h.fd.f,U,u,(low _ ad).trans g⟩
 ·rw[bn.2 M ad];exact ae.cH hm
 ·grind[dj,List.map_congr_left,List.length_singleton,List.range_succ]
 ·intro j r b;by_cases e:j=R.length
  ·subst e;simp at b;subst b;rw[hj,E];exact aY.nil aN _ _ _
  ·have m:j<R.length:=al;rw[List.getElem?_append_left m]at b;rw[fk _ _ e];exact(h.ni j r b).frame fx λK p=>O K (by have:=(h.h7 m p).1;omega) (h.h7 m p).2 (h.zR j K m p)
 ·intro j w K b B e l;simp at b B;by_cases q:j=R.length
  ·subst q;rw[hj]at e;cases e
  ·by_cases y:w=R.length
   ·subst y;rw[hj]at l;cases l
   ·rw[fk _ _ q]at e;rw[fk _ _ y]at l;exact h.hg j w K ad ad e l
 ·intro j K b e;simp at b;by_cases q:j=R.length
  ·subst q;rw[hj]at e;cases e
  ·rw[fk _ _ q]at e;rcases G with o|o
   ·rw[o];exact h.zR j K ad e
   ·rw[o];intro z;cases z;have:=(h.h7 (by omega:j<R.length) e).2;omega
theorem iQ.put(h:iQ zD M L R i H ov dv){c:Nat}(aA:R[c]? =A (aR L i))(av:∀(j y r:Nat),R[j]? =A r->R[y]? =A r->j=y)(aq:i<=1000000):
  ∃O cap l H',ov= .az O 0 R.length 1 cap/\c<R.length/\(∀H1,(∀k,M<=k->k<H.next->(∀q,dr (dv c)=A q->k≠q)->H1.get k=H.get k)->aI P H1 30 (.ptr O c 0)=A (dv c))/\
   eA P (H.push (.row I 1 [[.int .i64 (i:Nat)]])) [30,30] (dv c) (.az H.next 0 1 1 (A 1))=A (l,H')/\H.next+1<=H'.next/\(∀k,k<H.next->(∀q,dr (dv c)=A q->k≠q)->H'.get k=H.get k)/\
   ∃b,cr P H' 30 (.ptr O c 0) l=A (H'.set O b)/\iQ zD M L R (i+1) (H'.set O b) ov (dj dv c l)/\M<O:=by
 have t:c<R.length:=(List.getElem?_eq_some_iff.1 aA).1;have hm:=h.mlt;have ak:=h.ni c _ aA;obtain⟨l,H',a1,bd,bn,bI,bY,ch⟩:=aY.qo (K:=aN) (ok:=bb) (ok':=bb) b0 ak ad (au.refl _) (a:=(i:Int)) (cs:=[.int .i64 (i:Nat)]) rfl (λ_ _=>trivial) (by
  grind[ns,aQ])
 have Q:∀k,k<H.next->(∀q,dr (dv c)=A q->k≠q)->H'.get k=H.get k:=λk w aw=>bY k w λL n q e=>by rintro rfl;exact aw _ (by rw[e];rfl) rfl
 rcases h.out.eL with⟨_,e⟩|⟨O,els,cap,G,_,g,am,cc,ab⟩
 ·grind[List.length_nil]
 simp only[List.length_map,List.length_range]at G am cc;have aj:dr ov=A O:=by rw[G];rfl
 have W:=h.out.jn aj;have V:∀j,j<R.length->els[j]? =A [dv j]:=λj d=>by
  obtain⟨cs,ay,rfl,_⟩:=ab j (dv j) al;omega
 have S:∀j,j<R.length->∀q,dr (dv j)=A q->O≠q:=λj d q aJ e=>h.zR j q d aJ al
 have af:=(Q O W.2 λq aJ=>S c t q aJ).trans g;have v1:=bd.az.one;have Y:=dq v1;have low:∀k,k<M+1->H'.get k=H.get k:=λk w=>bn.2 k w
 have E:∀k,k≠O->(H'.set O (.row I 1 (els.set c [l]))).get k=H'.get k:=λk w=>ae.b8 (Ne.symm w)
 have aa:dr l=dr (dv c)\/dr l=A (H.next+1):=by
  rcases ch with e|⟨n,e⟩
  ·grind
  ·exact .inr (by rw[e];rfl)
 refine⟨O,cap,l,H',G,t,λH1 ah=> ?_,a1,bI,Q,.row I 1 (els.set c [l]),?_,⟨?_,?_,?_,?_,?_,?_,h.gl⟩,ad⟩
 ·rw[e0 aF ((ah O ad W.2 (S c t)).trans g) (V c t)];rfl
 ·rw[e4 (n:=1) aF af (e:=[dv c]) (V c t) (by rw[Y];rfl) al bZ,Y];rfl
 ·obtain⟨U,u,ap⟩:=h.fd.u;have:=h.gl;exact⟨h.fd.g,by rw[E _ ad];exact(low _ ad).trans h.fd.f,U,u,al⟩
 ·rw[E _ ad,low _ ad];exact h.mp
 ·refine⟨.inr ⟨O,els.set c [l],cap,al,trivial,ae.cH ad,al,al,λj x d=> ?_⟩,λan n q e=>al⟩;have v:j<R.length:=al;simp[v]at d;subst d;by_cases q:j=c
  ·subst q;rw[hj];exact⟨[l],al,rfl,v1⟩
  ·rw[fk _ _ q];exact⟨[dv j],al,rfl,(h.ni j R[j] al).az.one⟩
 ·intro j r d;have v:j<R.length:=(List.getElem?_eq_some_iff.1 d).1;by_cases q:j=c
  ·subst q;rw[aA]at d;cases d;rw[hj];have N:aQ (c7 (i+1) λs=>aR L s=aR L i)=aQ (c7 i λs=>aR L s=aR L i)++[(i:Int)]:=by grind[mJ,aQ]
   rw[N];exact bd.frame fx λK z=>E K (by
    grind)
  ·rw[fk _ _ q];have ar:aR L i≠r:=by
    grind
   have N:(c7 (i+1) λs=>aR L s=r)=c7 i λs=>aR L s=r:=by grind[mJ]
   rw[N];exact(h.ni j r d).frame fx λK z=>by
    have ai:=h.h7 v z;rw[E K λe=>S j v K z e.symm];exact Q K ai.2 λp ax e=>q (h.hg j c K v t z al)
 ·intro j y K d B e m;by_cases q:j=c<;>by_cases T:y=c
  ·omega
  ·subst q;rw[hj]at e;rw[fk _ _ T]at m;rcases aa with o|o
   ·rw[o]at e;exact h.hg _ _ K d B e m
   ·rw[o]at e;cases e;have:=(h.h7 B m).2;omega
  ·subst T;rw[fk _ _ q]at e;rw[hj]at m;rcases aa with o|o
   ·rw[o]at m;exact h.hg _ _ K d B e m
   ·rw[o]at m;cases m;have:=(h.h7 d e).2;omega
  ·rw[fk _ _ q]at e;rw[fk _ _ T]at m;exact h.hg j y K d B e m
 grind[hj,fk]
def Aj(g:a_.Good L){r m:Nat}(ar:aR L r=r)(hm:r<m):(fS L m)[gO L r]? =A r:=O1 hm ar
theorem uY{m r:Nat}:r∈fS L m↔r<m/\aR L r=r:=g_
theorem sW(m:Nat):(fS L m).length<=m:=ns m _
theorem RK{N:Nat}(Q:L.length<=1000000){H0:ae}(R:M=H0.next):∀(j k m:Nat) (H:ae) (ov:af) (dv:Nat->af),k+j=L.length->j<m->iQ zD M L (fS L k) k H ov dv->fK (· =zD) H0 H->
  W (rb (aK P aG) N m (.ptr (zD+1) 0 0) ov (.map M) (.int .i64 L.length) (.int .i64 k) H) λr H'=>∃d,iQ zD M L (fS L L.length) L.length H' r d/\fK (· =zD) H0 H'
 |_,_,0,_,_,_,_,hm,_,_=>ad
 |0,k,m+1,H,ov,dv,T,_,h,x=>by
  have aM:¬(k:Int)<(L.length:Int):=ad;have e:k=L.length:=ad;subst e;refine b3 @rb.eq_2 @Bo.eq_1 @tn.eq_1 ?_;grind[aD]
 |j+1,k,m+1,H,ov,dv,T,hm,h,x=>by
  have U:k<L.length:=ad;have on:=RK (N:=N) Q R j (k+1) m;refine bG @rb.eq_2 @Bo.eq_1 ?_;refine cK (E8 h.fd U) ?_;rintro _ H1 ⟨rfl,f1,o⟩;refine⟨o.1,?_⟩;have aN:=h.gl;have ah:=h.frame f1 λq aJ aa=>o.2 q aa ad
  have y:=x.trans o;have L7:=h.fd.g.le k;have w:∀(a:ae) (c:af) (hh:Nat->af),iQ zD M L (fS L (k+1)) k a c hh->fK (· =zD) H0 a->
    W (wk (aK P aG) N (rb (aK P aG) N m) (.ptr (zD+1) 0 0) c (.map M) (.int .i64 k) (.int .i64 (aR L k:Nat)) (.int .i64 L.length) (.int .i64 k) a) λr H'=>∃d,iQ zD M L (fS L L.length) L.length H' r d/\fK (· =zD) H0 H':=by
   intro a c hh ai z;have ar:aR L (aR L k)=aR L k:=h.fd.g.id k;have aA:=Aj (m:=k+1) h.fd.g ar ad;obtain⟨O,cap,B,aE,i,u,fu,ap,nn,t,b,st,ax,aI⟩:=ai.put aA (λj aO r=>O2) ad;have pp:=au.push a (.row I 1 [[.int .i64 (k:Nat)]]);have l:aR L k∈fS L (k+1):=List.mem_of_getElem? aA;have aq:=Fc ai.mp l;have av:=Fc (pp.get ai.mp) l;have S:=ai.mlt;have ak:∀q,dr (hh (gO L (aR L k)))=A q->M≠q:=λq aJ e=>by have:=(ai.h7 u aJ).1;omega
   have aw:=Fc ((t M S ak).trans ai.mp) l;have am:=fu a λ_ _ _ _=>rfl
   have an:=fu (a.push (.row I 1 [[.int .i64 (k:Nat)]])) λq _ aJ _=>pp.2 q aJ
   have aL:cap=cap:=rfl;have aj:ct P 31 c (.int .i64 ((gO L (aR L k):Nat):Int))=A (.ptr O (gO L (aR L k)) 0):=by
    grind[pc,dP]
   have aB:af.beq (hh (gO L (aR L k))) (hh (gO L (aR L k)))=true:=((ai.ni _ _ aA).az).rd;have aC:bF (A (hh (gO L (aR L k)))) (hh (gO L (aR L k)))=true:=by simp[bF,aB]
   refine bh @wk.eq_1 @Bp.eq_1 aq av aw (ag aj (ag am (ag an (ag @c2 (ag ap (ag st aC)))))) ?_;refine on _ c _ ad ad ax ?_;have aH:H0.next<=a.next:=z.1
   refine⟨by simp;omega,λq aJ n=> ?_⟩;rw[ae.b8 ad,t q ad λp Y e=>by have:=(ai.h7 u Y).1;omega];exact z.2 q aJ n
  by_cases e:aR L k=k
  ·have i:(((aR L k:Nat):Int)==((k:Nat):Int))=true:=al;have hlen:=ah.out.az.len (K:=qi) dP (H0:=H1);rw[List.length_map,List.length_range]at hlen;have v:∀H0,bE P H0 .len [31] [ov]=A (.int .i64 ((gO L (aR L k):Nat):Int)):=λH0=>by
    have:=ah.out.az.len (K:=qi) dP (H0:=H0);rw[List.length_map,List.length_range]at this;rw[this,e];rfl
   have V:aR L k∉fS L k:=λhm=>by grind[uY]
   have up:=ajp (f:=gO L) ah.mp V;have es:fS L (k+1)=fS L k++[k]:=by grind[P7]
   obtain⟨B,a,E,aF,a3,a4⟩:=ah.root (λhm=>al) rfl (by
    have:∀s,s∉c7 k λs=>aR L s=k:=λs ab=>by
     have:=g_.1 ab;have:=h.fd.g.le s;omega
    exact List.eq_nil_iff_forall_not_mem.2 this) (by grind[sW])
   rw[e]at up;rw[e]at v;rw[e]at w;have ay:(H1.set M (.map (jP (gO L) (fS L k++[k])))).next=H1.next:=aX
   rw[e];simp only[lZ,Lq,beq_self_eq_true,Ta,g8,eM,v,Tf];have G:((H1.set M (.map (jP (gO L) (fS L k++[k])))).push (.row I 1 [[af.ao]])).next<=a.next:=by grind[ae.fR]
   rw[up,m1 aX];simp only[kM,ay,E];rw[Dt G];refine w a B _ (by rw[es];omega) ⟨by have:=y.1;omega,λq aJ n=> ?_⟩;rw[a4 q ad];exact y.2 q aJ n
  ·have i:(((aR L k:Nat):Int)==((k:Nat):Int))=false:=beq_eq_false_iff_ne.2 λh=>e ad
   have es:fS L (k+1)=fS L k:=by grind[P7]
   refine bP i ?_;grind
theorem RL(h:fi zD L H)(w:L.length<=1000000):W (aK P aG 189 [.ptr (zD+1) 0 0] H) λr H'=>fi zD L H'/\aH (bu aN) H' (λk=>H.next<=k) ((cX L).map aQ) r/\fK (· =zD) H H':=by
 refine aeu (L.length+1) ?_;have t:bx P .eql 253 J (.ptr (zD+1) 0 0) .ho=A (.bool I):=aF;have v:=h.lt;have l:=au.push H (.map []);have hlen:∀H0,bE P H0 .len [30] [.az zD 0 L.length 1 (A L.length)]=A (.int .i64 L.length):=λH0=>iF (e:=3) aF _ _ _ _ _
 refine cv @G5.eq_1 t ((h.aB l).nq) hlen ?_;have ah:iQ zD H.next L (fS L 0) 0 (H.push (.map [])) .ao λ_=> .ao:=by
  have e:fS L 0=[]:=rfl;rw[e];exact⟨h.aB l,ae.a2 _ _,aY.nil qi _ _ _,λj r c=>al,λj M K c=>al,λj K c=>al,v⟩
 refine(RK w rfl L.length 0 _ _ _ _ ad ad ah (l.mut _)).mono ?_;rintro r H' ⟨d,ai,B⟩;refine⟨ai.fd,?_,B⟩;have e:(cX L).map aQ=(fS L L.length).map λr=>aQ (c7 L.length λs=>aR L s=r):=by simp[cX,Function.comp_def]
 rw[e];rcases ai.out.eL with⟨b,f⟩|⟨O,els,cap,b,_,g,y,cc,f⟩
 ·have:=congrArg List.length f;rw[List.length_map,List.length_range,List.length_nil]at this;rw[List.length_eq_zero_iff.1 this,b];exact .nil
 ·have G:=ai.out.jn (by rw[b];rfl:dr r=A O);simp only[List.length_map,List.length_range]at b y;refine .inr (.inl ⟨O,0,cap,I,els,by rw[b];simp[bu];rfl,ad,g,al,λj x c=> ?_⟩);have n:j<(fS L L.length).length:=al;obtain⟨cs,N,rfl,_⟩:=f j (d j) al;rw[List.getElem?_map,List.getElem?_eq_getElem n]at c;cases c;refine⟨[d j],al,d j,rfl,?_⟩;have m:=ai.ni j _ (List.getElem?_eq_getElem n);rcases m.eL with z|⟨p,u,q,o,Q,z3,z4,z5,E⟩
  ·exact .inl z
  ·refine .inr (.inl ⟨p,0,q,I,u,o,?_,z3,al,λi a aP=>by rw[Nat.zero_add];exact E i a aP⟩);have:=m.low _ _ _ o;omega
