/-
  Texts of one proof, laid together: Ql Qm Qn SgG SgH ShF Ra Rb.
-/
import Derived.Test.YtmhhnnklfcbgfaaGreatML
set_option linter.unusedVariables false
set_option linter.unusedSimpArgs false
set_option linter.defProp false
open Option renaming some→A,none→Z
open Bool renaming true→J,false→I
namespace Go.Proofs.YtmhhnnklfcbgfaaGreat
open Go.cv
open Nat (reduceAdd reduceLeDiff)
section
open Go.a2
set_option maxRecDepth 2000
def Lb(l:Nat)(k:IntKind)(n:Int):fl l (.int k n)=A (.ptr l 0 0,.row I 1 [[.int k n]]):=rfl
def Pd(l n:Nat)(aL:n<=1000000000):g5 (h0 P ⟨.leaf,l⟩ 243 (.int .i64 n) (.int .i64 n)) l=A (.az l 0 n 1 (A n),.row I 1 (hh (List.replicate n 0))):=by
 rw[rz (e:=251) (b:=8) (z:= .int .u64 0) aG aG aG aG rfl rfl b0 b0 l n aL];simp[hh,af.cells]
def tn(l n:Nat)(aL:n<=1000000000):g5 (h0 P ⟨.leaf,l⟩ 31 (.int .i64 n) (.int .i64 n)) l=A (.az l 0 n 1 (A n),.row I 1 ((List.range n).map λ_=>[.aq])):=by
 rw[rz (e:=30) (b:=24) (z:= .aq) aG aG aG aG rfl rfl b0 b0 l n aL];simp[af.cells,List.map_const']
def Ph(l n:Nat)(aL:n<=1000000000):g5 (h0 P ⟨.leaf,l⟩ 244 (.int .i64 n) (.int .i64 n)) l=A (.az l 0 n 1 (A n),.row I 1 ((List.range n).map λ_=>[.aq])):=by
 rw[rz (e:=284) (b:=24) (z:= .aq) aG aG aG aG rfl rfl b0 b0 l n aL];simp[af.cells,List.map_const']
def acS(l n:Nat)(aL:n<=1000000000):g5 (h0 P ⟨.leaf,l⟩ 152 (.int .i64 n) (.int .i64 n)) l=A (.az l 0 n 1 (A n),.row I 1 ((List.range n).map λ_=>[.aq])):=by
 rw[rz (e:=31) (b:=24) (z:= .aq) aG aG aG aG rfl rfl b0 b0 l n aL];simp[af.cells,List.map_const']
def SE(n x y:Nat):∀(fs:List Nat) (S:bI) (u:Nat),(nd n S x y fs).q u=S.q u
 |[],_,_=>rfl
 |f::fs,S,u=>by rw[nd,SE n x y fs,sY,sY]
def KM(S:bI)(v:Nat)(q:a2.Ask)(u:Nat):((l0 S v q).q u).length<=(S.q u).length+1:=by
 unfold l0;by_cases a:v<S.asks.length
 ·grind[QG]
 ·show(({S with asks:=S.asks.set v (S.q v++[q])}:bI).q u).length<=_;rw[List.set_eq_of_length_le aa];grind
theorem VX(n:Nat)(S:bI)(c:bt)(u:Nat):((sM n S c).q u).length<=(S.q u).length+1:=by
 cases c with
 |base x y=>show((gJ S x (1<<<y)).q u).length<=_;rw[NW];omega
 |copy x y=>show((iA S y x).q u).length<=_;rw[sY];omega
 |load x y f=>exact KM _ _ _ _
 |store x y f=>exact KM _ _ _ _
 |same x y=>show((nd n S x y (List.range 8)).q u).length<=_;rw[SE];omega
def rq:List Nat->bI->bI
 |[],S=>S
 |v::ak,S=>rq ak (ji S v)
theorem ON:∀(ak:List Nat) (S:bI) (u:Nat),(rq ak S).q u=S.q u
 |[],_,_=>rfl
 |v::ak,S,u=>by rw[rq,ON ak,OJ]
section
variable {n V a m:Nat}{l:List bt}{S:bI}{aT:List Int}{dv:Nat->af}{es:List (Nat×Nat)}{H:ae}
theorem eC.looks{n m:Nat}{l:List bt}:∀(ak:List Nat) (S:bI),lR n m l S->(∀v∈ak,v<n+m*8)->(∀c∈l,pj n S c)->lR n m l (rq ak S)/\∀c∈l,pj n (rq ak S) c
 |[],S,h,_,aP=>⟨h,aP⟩
 |v::ak,S,h,a,aP=>by
  have ah:lR n m l (ji S v):=eC.ji h (a v aW);exact eC.looks ak _ ah al λc aA=>(aP c aA).ra (acv S v).b
theorem cN.start{n V a:Nat}{H:ae}(bR:H.get (a+6)=A (.row I 9 [iI n V a λ_=> .aq]))(cp:H.get a=A (.row I 1 (hh (List.replicate V 0))))(gd:H.get (a+1)=A (.row I 1 ((List.range V).map λ_=>[.aq])))(iB:H.get (a+2)=A (.row I 1 ((List.range V).map λ_=>[.aq])))
  (hy:H.get (a+3)=A (.row I 1 (hh (List.replicate V 0)))) (ed:H.get (a+4)=A (.map [])) (cC:H.get (a+5)=A (.row I 1 (da (List.replicate V I)))):cN n V a (gO V) [] (λ_=> .aq) [] H:=
 {
  bR:=bR,cp:=cp,gd:=gd,iB:=iB,hy:=hy,ed:=ed,cC:=cC,cy:=by simp[gO],aS:=by simp[gO],hB:=by simp[gO],ls:=by simp[gO],lw:=by simp[gO]
  g:=λv d=>by
   have:(gO V).g v=[]:=l8;rw[this];exact aZ.nil _ _ _ _
  q:=λv d=>by
   have:(gO V).q v=[]:=l8;grind[aZ.nil]
  w:=aZ.nil _ _ _ _
  wn:=λL n c e=>by cases e
  ht:=λo g6 L _ _ e _=>by cases e
  perm:= .refl _
  kp:=λx y=>by
   have:(gO V).g x=[]:=l8;grind
  ko:=λv=>by
   have:(gO V).g v=[]:=l8;grind
  j3:=λv b h=>by
   have:(gO V).g v=[]:=l8;grind
  ke:=List.nodup_nil
  kd:=λv h=>by simp[gO]at h
  wt:=λu _ _=>by simp[gO]
  fk:=λv=>by
   have:(gO V).a v=0:=l8;omega}
theorem K3{lv:af}(i:gy n m l)(hm:m<=60)(o:V=n+m*8)(s:V<=1000000)(ar:l.length<=800000000){x4 x5 x6 x8:af}{Q:af->ae->Prop}{N:Nat}:∀(j k r:Nat) (S:bI) (aT:List Int) (dv:Nat->af) (es:List (Nat×Nat)) (H:ae),k+j=l.length->j<r->cN n V a S aT dv es H->gX n m l S->(∀v,(S.q v).length<=k)->aI cU H (· <a) l lv->
  (∀b wk' d es' H',cN n V a b wk' d es' H'->Fr V a dv d H H'->b=sN n (l.drop k) S->(∀v,(b.q v).length<=l.length)->W (Bj (aK P aD) N x4 x5 x6 x8 (.int .i64 V) (.ptr (a+6) 0 0) H') Q)->
  W (tJ (aK P aD) N r x4 x5 x6 x8 (.int .i64 V) (.ptr (a+6) 0 0) lv (.int .i64 l.length) (.int .i64 k) H) Q
 |_,_,0,_,_,_,_,_,_,G,_,_,_,_,_=>aa
 |0,k,r+1,S,aT,dv,es,H,E,_,h,x,aH,g,fin=>by
  have O:¬(k:Int)<(l.length:Int):=aa;refine bF @tJ.eq_2 @Bi.eq_1 ?_;exact fin S aT dv es H h (.refl _ _ _ _) (by rw[List.drop_of_length_le aa];rfl) λv=>al
 |j+1,k,r+1,S,aT,dv,es,H,E,G,h,x,aH,g,fin=>by
  have t:k<l.length:=aa;have on:=K3 (lv:=lv) i hm o s ar (x4:=x4) (x5:=x5) (x6:=x6) (x8:=x8) (Q:=Q) (N:=N) j (k+1) r;obtain⟨p,K,L⟩:=g.zM (j:=(k:Int)) (c:=l[k]) aa al;have u:l[k]∈l:=List.getElem_mem t;rw[List.drop_eq_getElem_cons t,sN]at fin;generalize l[k]=c at*;have w:=aw.push H (.row I 4 [cZ c]);have st:cz P (H.push (.row I 4 [[.int .i64 0,.int .i64 0,.int .i64 0,.int .i64 0]])) 56 (.ptr H.next 0 0) (.agg (cZ c))=A (H.push (.row I 4 [cZ c])):=by
   rw[fb (n:=4) aG (ae.a1 H _) rfl (by cases c<;>rfl) (by cases c<;>rfl) b0];have:gl [af.int .i64 0,.int .i64 0,.int .i64 0,.int .i64 0] 0 (af.agg (cZ c)).cells=cZ c:=by cases c<;>rfl
   grind[ae.lD]
  have ah:=h.aC w;refine bb @tJ.eq_2 @Bi.eq_1 K (L _ (aw.refl _)) st (Ox (ae.a1 H (.row I 4 [cZ c]))) ?_;refine cB (VY ah o s hm (i _ u) λv=>al) ?_;rintro _ H1 ⟨rfl,wk',d,es',ai,_,f2⟩;refine⟨f2.1,?_⟩;have f:Fr V a dv d H H1:=(Fr.aC w).trans f2;refine bM ?_;exact on _ wk' d es' H1 aa aa ai (x.begin hm i u).1 (λv=>by grind[VX]) (g.eu (h.eu f)) λb M hv B y ay f3 e z=>fin b M hv B y ay (f.trans f3) e z
theorem OO(i:V=n+m*8)(d:V<=1000000){x4 x5 x6 x8:af}{Q:af->ae->Prop}{N:Nat}:∀(j k r:Nat) (S:bI) (aT:List Int) (dv:Nat->af) (es:List (Nat×Nat)) (H:ae),k+j=V->j<r->cN n V a S aT dv es H->
  (∀b wk' c es' H',cN n V a b wk' c es' H'->Fr V a dv c H H'->b=rq ((List.range V).drop k) S->W (Bk (aK P aD) N x4 x5 x6 x8 (.ptr (a+6) 0 0) H') Q)->
  W (wm (aK P aD) N r x4 x5 x6 x8 (.ptr (a+6) 0 0) (.int .i64 V) (.int .i64 k) H) Q
 |_,_,0,_,_,_,_,_,_,o,_,_=>aa
 |0,k,r+1,S,aT,dv,es,H,l,_,h,fin=>by
  have q:¬(k:Int)<(V:Int):=aa;refine bF @wm.eq_2 @Bh.eq_1 ?_;exact fin S aT dv es H h (.refl _ _ _ _) (by rw[List.drop_of_length_le al];rfl)
 |j+1,k,r+1,S,aT,dv,es,H,l,o,h,fin=>by
  have on:=OO i d (x4:=x4) (x5:=x5) (x6:=x6) (x8:=x8) (Q:=Q) (N:=N) j (k+1) r;have e:(List.range V).drop k=k::(List.range V).drop (k+1):=by
   grind[List.drop_eq_getElem_cons]
  rw[e,rq]at fin;refine bF @wm.eq_2 @Bh.eq_1 ?_;refine cB (OM h d (show k<V by omega)) ?_;rintro _ H1 ⟨rfl,wk',c,es',ai,_,f2⟩;refine⟨f2.1,?_⟩;refine bM ?_;exact on _ wk' c es' H1 aa aa ai λb p hv g f ay f3 e=>fin b p hv g f ay (f2.trans f3) e
end
end
section
open Go.a2
set_option maxRecDepth 2000
theorem nO:fj 152 31 1:=⟨aG,aG,⟨24,aG,b0⟩,⟨.aq,aG,rfl,rfl⟩,b0⟩
def Kd(H:ae)(ok:Nat->Prop)(p:df)(v:af):Prop:=∃nv fv,v= .agg [nv,fv]/\aI (bp aN) H ok (p.nodes.map aO) nv/\aI (bp (bp aN)) H ok (p.fields.map (·.map aO)) fv
def od(R:Nat)(H:ae):Nat->Prop:=λL=>R<L/\L<H.next
def aZ.Kn{B R:Nat}{H:ae}{l:List Int}{v:af}(h:aZ aN B ba H l v)(f:R<B):aI aN H (od R H) l v:=by
 rcases h.eS with ah|⟨L,els,cap,a,g,b,i,k,d⟩
 ·exact .inl ah
 ·exact .inr (.inl ⟨L,0,cap,I,els,a,⟨by have:=h.low _ _ _ a;omega,ae.bm b⟩,b,aa,λj x c=>by
   obtain⟨cs,m,e⟩:=d j x c;exact⟨cs,al,e⟩⟩)
theorem uY{R:Nat}{H H':ae}(aL:H.next<=H'.next)(aR:∀k,R<k->k<H.next->H'.get k=H.get k):du H (od R H) H' (od R H'):=λk b a g=>⟨⟨a.1,by have:=a.2;omega⟩,by rw[aR k a.1 a.2];exact g⟩
section
variable {n V a m:Nat}{l:List bt}{S:bI}{aT:List Int}{dv:Nat->af}{es:List (Nat×Nat)}{H:ae}
theorem cN.out(h:cN n V a S aT dv es H){k:Nat}(e:a+7<=k)(ar:∀o,o<=2*V->dx (dv o)≠A k)(b:bA):cN n V a S aT dv es (H.set k b):=by
 have c:∀j,j≠k->(H.set k b).get j=H.get j:=(by grind[ae.b_]);exact {h with
  bR:=by rw[c _ aa];exact h.bR,cp:=by rw[c _ aa];exact h.cp,gd:=by rw[c _ aa];exact h.gd,iB:=by rw[c _ aa];exact h.iB,hy:=by rw[c _ aa];exact h.hy,ed:=by rw[c _ aa];exact h.ed,cC:=by rw[c _ aa];exact h.cC
  g:=λv d=>(h.g v d).frame fy al
  q:=λv d=>(h.q v d).frame p6 al
  w:=h.w.frame fy al}
def uR(V a:Nat)(dv:Nat->af)(k:Nat):Prop:=a+7<=k/\∀o,o<=2*V->dx (dv o)≠A k
def cN.nl(h:cN n V a S aT dv es H){k:Nat}(b:H.next<=k):uR V a dv k:=⟨by have:=h.lt;omega,λo aX e=>by have:=(h.j6 aX e).2;omega⟩
theorem y0{H:ae}{t zD x K:Nat}{nv:Nat->af}{v:af}(a_:cM P t=A 1)(g:H.get zD=A (.row I 1 ((List.range K).map λk=>[nv k])))(aF:x<K)(b:v.one=J):cz P H t (.ptr zD x 0) v=A (H.set zD (.row I 1 ((List.range K).map λk=>[dp nv x v k]))):=by
 have a:=dn b;rw[fb (n:=1) a_ g (e:=[nv x]) al al al b0,a,<-GQ aF];rfl
theorem PG(K:V=n+m*8)(L:V<=1000000){zD R zF:Nat}(E:zD<R){x6 x8:af}{Q:af->ae->Prop}{N:Nat}:∀(j k r:Nat) (nv:Nat->af) (H:ae),k+j=n->j<r->cN n V a S aT dv es H->uR V a dv zD->R<H.next->H.get zD=A (.row I 1 ((List.range n).map λi=>[nv i]))->H.get R=A (.row I 2 [[.az zD 0 n 1 (A n),.az zF 0 m 1 (A m)]])->(∀i,i<k->aI aN H (od R H) (aO (Go.a2.bits (S.a i))) (nv i))->
  (∀(H':ae) (f:Nat->af),cN n V a S aT dv es H'->H.next<=H'.next->(∀q,q<H.next->q≠zD->H'.get q=H.get q)->H'.get zD=A (.row I 1 ((List.range n).map λi=>[f i]))->(∀i,i<n->aI aN H' (od R H') (aO (Go.a2.bits (S.a i))) (f i))->W (Bl (aK P aD) N x6 x8 (.ptr (a+6) 0 0) (.ptr R 0 0) H') Q)->
  W (wk (aK P aD) N r x6 x8 (.ptr (a+6) 0 0) (.ptr R 0 0) (.int .i64 n) (.int .i64 k) H) Q
 |_,_,0,_,_,_,T,_,_,_,_,_,_,_=>aa
 |0,k,r+1,nv,H,M,_,h,_,_,o,_,ar,fin=>by
  have ai:¬(k:Int)<(n:Int):=aa;refine bF @wk.eq_2 @Bg.eq_1 ?_;exact fin H nv h aa (λ_ _ _=>rfl) o λi aP=>ar i aa
 |j+1,k,r+1,nv,H,M,T,h,d,G,o,s,ar,fin=>by
  have u:k<n:=aa;have on:=PG K L E (zF:=zF) (x6:=x6) (x8:=x8) (Q:=Q) (N:=N) j (k+1) r;have w:∀{H1:ae},H1.get R=A (.row I 2 [[.az zD 0 n 1 (A n),.az zF 0 m 1 (A m)]])->aJ P H1 31 (.ptr R 0 0)=A (.az zD 0 n 1 (A n)):=λg=>by rw[eW aG g rfl];rfl
  refine dd @wk.eq_2 @Bg.eq_1 (gM h.bR) (im rr (show k<V by omega)) (h.rl (show k<V by omega)) ?_;refine e2 (F4 (h.fk k)) λx H1 v b=> ?_
  have ah:=h.aC b;have p:=b.get o;have B:=b.get s;have U:=ae.bm p;have st:=y0 (t:=30) aG p u v.az.one;have Y:∀l i n e c,bG (A (.az l i n e c)) (.az l i n e c)=true:=(by grind[bG,af.beq]);refine dd (w B) (w s) (im dJ u) st Y ?_;have ak:H.next<=(H1.set zD (.row I 1 ((List.range n).map λi=>[dp nv k x i]))).next:=b.1
  have y:∀q,q<H1.next->q≠zD->(H1.set zD (.row I 1 ((List.range n).map λi=>[dp nv k x i]))).get q=H1.get q:=(by grind[ae.b_])
  have ab:∀q,q<H.next->q≠zD->(H1.set zD (.row I 1 ((List.range n).map λi=>[dp nv k x i]))).get q=H.get q:=λq aH d=>(y q (by have:=b.1;omega) d).trans (b.2 q aH)
  refine on (dp nv k x) _ aa aa (ah.out d.1 d.2 _) d aa (ae.cO U) al ?_ λH' f cD aj ad z O=>fin H' f cD aa al z O
  intro i aP;by_cases e:i=k
  ·subst e;rw[hl];exact(v.Kn G).keep (uY (H:=H1) aW al)
  ·rw[fm _ _ e];exact(ar i aa).keep (by grind[uY])
theorem MF(T:V=n+m*8)(U:V<=1000000){zD R zF E t W6:Nat}(L:zF<R)(M:R<E)(a_:t<m){x8 x104:af}{fv:Nat->af}{L4:af->af->af->af->af->af->ae->O}{Q:af->ae->Prop}{N:Nat}:∀(j k r:Nat) (iv:Nat->af) (H:ae),k+j=8->j<r->cN n V a S aT dv es H->uR V a dv E->E<H.next->H.get E=A (.row I 1 ((List.range 8).map λi=>[iv i]))->H.get R=A (.row I 2 [[.az zD 0 n 1 (A n),.az zF 0 m 1 (A m)]])->H.get zF=A (.row I 1 ((List.range m).map λi=>[fv i]))->fv t= .az E 0 8 1 (A 8)->(∀i,i<k->aI aN H (od E H) (aO (Go.a2.bits (S.a (dk n t i)))) (iv i))->
  (∀(H':ae) (d:Nat->af),cN n V a S aT dv es H'->H.next<=H'.next->(∀q,q<H.next->q≠E->H'.get q=H.get q)->H'.get E=A (.row I 1 ((List.range 8).map λi=>[d i]))->(∀i,i<8->aI aN H' (od E H') (aO (Go.a2.bits (S.a (dk n t i)))) (d i))->W (wg (aK P aD) N L4 (.ptr W6 0 0) x8 (.ptr (a+6) 0 0) (.ptr R 0 0) x104 (.int .i64 t) H') Q)->
  W (wj (aK P aD) N L4 r (.ptr W6 0 0) x8 (.ptr (a+6) 0 0) (.ptr R 0 0) (.int .i64 t) x104 (.int .i64 t) (.int .i64 8) (.int .i64 k) H) Q
 |_,_,0,_,_,_,ai,_,_,_,_,_,_,_,_,_=>aa
 |0,k,r+1,iv,H,ab,_,h,_,_,hy,_,_,_,ar,fin=>by
  have ao:¬(k:Int)<8:=aa;refine bF @wj.eq_2 @Bf.eq_1 ?_;exact fin H iv h aa (λ_ _ _=>rfl) hy λi aP=>ar i aa
 |j+1,k,r+1,iv,H,ab,ai,h,f,K,hy,s,p,Y,ar,fin=>by
  have u:k<8:=aa;have on:=MF T U (zD:=zD) (W6:=W6) L M a_ (x8:=x8) (x104:=x104) (fv:=fv) (L4:=L4) (Q:=Q) (N:=N) j (k+1) r;have aB:dk n t k<V:=by unfold dk;omega
  have y:∀{H1:ae},H1.get R=A (.row I 2 [[.az zD 0 n 1 (A n),.az zF 0 m 1 (A m)]])->aJ P H1 152 (.ptr R 0 1)=A (.az zF 0 m 1 (A m)):=λg=>by rw[eW aG g rfl];rfl
  have w:∀{H1:ae},H1.get zF=A (.row I 1 ((List.range m).map λi=>[fv i]))->aJ P H1 31 (.ptr zF t 0)=A (.az E 0 8 1 (A 8)):=λg=>by rw[eW aG g (e:=[fv t]) al];grind
  refine bF @wj.eq_2 @Bf.eq_1 ?_;refine dK (q_ h.bR aa) ?_;refine bT (gM h.bR) (im rr aB) (h.rl aB) ?_;refine e2 (F4 (h.fk _)) λx H1 v b=> ?_
  have ah:=h.aC b;have o:=b.get hy;have aj:=ae.bm o;have st:=y0 (t:=30) aG o u v.az.one;have ak:∀l i n e c,bG (A (.az l i n e c)) (.az l i n e c)=true:=(by grind[bG,af.beq]);refine bb (gM h.bR) (y (b.get s)) (y s) (im nO a_) (w p) (ag (w (b.get p)) (ag (im (V:=8) dJ u) (ag st ak))) ?_;have au:H.next<=(H1.set E (.row I 1 ((List.range 8).map λi=>[dp iv k x i]))).next:=b.1
  have z:∀q,q<H1.next->q≠E->(H1.set E (.row I 1 ((List.range 8).map λi=>[dp iv k x i]))).get q=H1.get q:=(by grind[ae.b_])
  have am:∀q,q<H.next->q≠E->(H1.set E (.row I 1 ((List.range 8).map λi=>[dp iv k x i]))).get q=H.get q:=λq aH G=>(z q (by have:=b.1;omega) G).trans (b.2 q aH)
  refine on (dp iv k x) _ aa aa (ah.out f.1 f.2 _) f aa (ae.cO aj) al al Y ?_ λH' d cD ap an B ad=>fin H' d cD aa al B ad
  intro i aP;by_cases e:i=k
  ·subst e;rw[hl];exact(v.Kn K).keep (uY (H:=H1) aW al)
  ·rw[fm _ _ e];exact(ar i aa).keep (by grind[uY])
theorem yV{α:Type}{K:e0 α}{H:ae}{ok:Nat->Prop}{zD c:Nat}{nv:Nat->af}{f:Nat->List α}(d:ok zD)(g:H.get zD=A (.row I 1 ((List.range c).map λi=>[nv i])))(ar:∀i,i<c->aI K H ok (f i) (nv i)):aI (bp K) H ok ((List.range c).map f) (.az zD 0 c 1 (A c)):=by
 refine .inr (.inl ⟨zD,0,A c,I,_,by simp[bp],d,g,aW,λj x a=> ?_⟩);have b:j<c:=al;simp[b]at a;subst a;exact⟨[nv j],al,nv j,rfl,ar j b⟩
theorem SV(T:V=n+m*8)(U:V<=1000000){zD R zF W6:Nat}(G:zF<R){x8:af}{Q:af->ae->Prop}{N:Nat}(M:8<N):∀(j k r:Nat) (fv:Nat->af) (H:ae),k+j=m->j<r->cN n V a S aT dv es H->uR V a dv zF->R<H.next->W6<zF->H.get W6=A (.row I 1 [[.int .i64 8]])->H.get R=A (.row I 2 [[.az zD 0 n 1 (A n),.az zF 0 m 1 (A m)]])->H.get zF=A (.row I 1 ((List.range m).map λi=>[fv i]))->(∀i,i<k->aI (bp aN) H (od R H) ((List.range 8).map λf=>aO (Go.a2.bits (S.a (dk n i f)))) (fv i))->
  (∀(H':ae) (p:Nat->af),H.next<=H'.next->(∀q,q<H.next->q≠zF->H'.get q=H.get q)->H'.get zF=A (.row I 1 ((List.range m).map λi=>[p i]))->(∀i,i<m->aI (bp aN) H' (od R H') ((List.range 8).map λf=>aO (Go.a2.bits (S.a (dk n i f)))) (p i))->W (tI (aK P aD) N x8 (.ptr R 0 0) H') Q)->
  W (wh (aK P aD) N r (.ptr W6 0 0) x8 (.ptr (a+6) 0 0) (.ptr R 0 0) (.int .i64 m) (.int .i64 k) H) Q
 |_,_,0,_,_,_,aA,_,_,_,_,_,_,_,_,_=>aa
 |0,k,r+1,fv,H,au,_,h,_,_,_,_,_,s,ar,fin=>by
  have aL:¬(k:Int)<(m:Int):=aa;refine bF @wh.eq_2 @Be.eq_1 ?_;exact fin H fv (ds _) (λ_ _ _=>rfl) s λi aP=>ar i aa
 |j+1,k,r+1,fv,H,au,aA,h,z,O,ao,d,u,s,ar,fin=>by
  have B:k<m:=aa;have on:=SV T U (zD:=zD) G (W6:=W6) (x8:=x8) (Q:=Q) M j (k+1) r;have ad:∀{H1:ae},H1.get R=A (.row I 2 [[.az zD 0 n 1 (A n),.az zF 0 m 1 (A m)]])->aJ P H1 152 (.ptr R 0 1)=A (.az zF 0 m 1 (A m)):=λg=>by rw[eW aG g rfl];rfl
  have x:=aw.push H (.row I 1 ((List.range 8).map λ_=>[af.aq]));have ah:=h.aC x;have E:=x.get s;have ab:=ae.bm E;have st:=y0 (t:=31) (v:= .az H.next 0 8 1 (A 8)) aG E B rfl;have aF:∀l i n e c,bG (A (.az l i n e c)) (.az l i n e c)=true:=λl i n e c=>by simp[bG,af.beq]
  have mk:=tn H.next 8 aa
  have aR:=ae.bm s;have aj:((H.push (.row I 1 ((List.range 8).map λ_=>[af.aq]))).set zF (.row I 1 ((List.range m).map λi=>[dp fv k (.az H.next 0 8 1 (A 8)) i]))).get H.next=A (.row I 1 ((List.range 8).map λ_=>[af.aq])):=by rw[ae.b_ aa];exact ae.a1 _ _
  have y:∀q,q<H.next->q≠zF->((H.push (.row I 1 ((List.range 8).map λ_=>[af.aq]))).set zF (.row I 1 ((List.range m).map λi=>[dp fv k (.az H.next 0 8 1 (A 8)) i]))).get q=H.get q:=λq aH b=>by rw[ae.b_ (Ne.symm b)];exact x.2 q aH
  have an:=(y W6 (ae.bm d) aa).trans d;have mk':g5 (h0 P ⟨.leaf,H.next⟩ 31 (.int .i64 8) (.int .i64 8)) H.next=A (.az H.next 0 8 1 (A 8),.row I 1 ((List.range 8).map λ_=>[.aq])):=mk
  refine bb @wh.eq_2 @Be.eq_1 (ad u) (ad (x.get u)) (iE d) (ag mk' (ag (im nO B) (ag st (ag aF (iE an))))) ?_;refine MF T U (zD:=zD) (zF:=zF) G O B 8 0 N (λ_=> .aq) _ aa M (ah.out z.1 z.2 _) (h.nl (ds _)) aW aj ((y R aa aa).trans u) (ae.cO ab) (hl _ _ _) (λi aP=>aa) ?_;intro o iv ay aE Y ak ax;refine bK @wg.eq_1 ?_;have aQ:H.next+1<=o.next:=fH aE
  have w:∀q,q<H.next->q≠zF->o.get q=H.get q:=λq aH b=>(Y q (by simp;omega) aa).trans (y q aH b)
  have am:o.get zF=A (.row I 1 ((List.range m).map λi=>[dp fv k (.az H.next 0 8 1 (A 8)) i])):=by rw[Y zF (by simp;omega) aa];exact ae.cO ab
  refine on (dp fv k (.az H.next 0 8 1 (A 8))) o aa aa ay z aa ao ((w W6 (ae.bm d) aa).trans d) ((w R aa aa).trans u) am ?_ λH' p aM ap al av=>fin H' p aa (λq aH b=>(ap q aa b).trans (w q aH b)) al av
  intro i aP;by_cases e:i=k
  ·subst e;rw[hl];exact yV ⟨O,aa⟩ ak λf aB=>(ax f aB).keep (.le λL K=>⟨by have:=K.1;omega,K.2⟩)
  ·rw[fm _ _ e];exact(ar i aa).keep (uY aa λq ah ai=>w q ai aa)
end
end
section
open Go.a2
set_option maxRecDepth 2000
set_option maxHeartbeats 4000000
def yZ{H:ae}{L:Nat}{x y u v:af}(h:H.get L=A (.row I 2 [[u,v]]))(aF:x.one=J)(a:y.one=J):cz P H 154 (.ptr L 0 0) (.agg [x,y])=A (H.set L (.row I 2 [[x,y]])):=by
 rw[fb (n:=2) aG h rfl rfl (by grind[af.cells]) b0];simp[af.cells,gl]
def m0{H:ae}{L:Nat}{u v:af}(h:H.get L=A (.row I 2 [[u,v]])):aJ P H 154 (.ptr L 0 0)=A (.agg [u,v]):=hA (n:=2) (i:=0) (c:=0) aG aG h rfl b0
def fF{H:ae}{L:Nat}{u v:af}(h:H.get L=A (.row I 2 [[u,v]])):aJ P H 31 (.ptr L 0 0)=A u/\aJ P H 152 (.ptr L 0 1)=A v:=by
 refine⟨?_,?_⟩
 ·rw[eW aG h rfl];rfl
 ·rw[eW aG h rfl];rfl
section
variable {H:ae}{ok:Nat->Prop}
theorem adW{n m:Nat}{l:List bt}{lv:af}(N:gy n m l)(aL:n<=70000)(cD:0<n)(hm:m<=60)(ar:l.length<=800000000)(a3:aI cU H ok l lv):
  W (aK P aD 130 [.int .i64 n,.int .i64 m,.int .i64 8,lv] H) λr H'=>∃pv,r= .tuple [pv,.int .i64 0]/\Kd H' (λL=>H.next<=L/\L<H'.next) (ho n m l) pv/\aw H H':=by
 obtain⟨V,M⟩:∃V,V=n+m*8:=⟨_,rfl⟩;refine ae6 (l.length+V+100) ?_;have bs:aw H ((((H.push (.row I 1 [[.int .i64 (n:Nat)]])).push (.row I 1 [[.int .i64 (m:Nat)]])).push (.row I 1 [[.int .i64 8]])).push (.row I 2 [[.aq,.aq]])):=(((aw.push _ _).trans (aw.push _ _)).trans (aw.push _ _)).trans (aw.push _ _);have s:og ((((H.push (.row I 1 [[.int .i64 (n:Nat)]])).push (.row I 1 [[.int .i64 (m:Nat)]])).push (.row I 1 [[.int .i64 8]])).push (.row I 2 [[.aq,.aq]])) H.next (H.next+1) (H.next+1+1) n m 8:=by
  refine⟨?_,?_,?_⟩<;>simp-implicitDefEqProofs(disch:=try exact aY)only[rb]<;>rfl
 have Y:((((H.push (.row I 1 [[.int .i64 (n:Nat)]])).push (.row I 1 [[.int .i64 (m:Nat)]])).push (.row I 1 [[.int .i64 8]])).push (.row I 2 [[.aq,.aq]])).get (H.next+1+1+1)=A (.row I 2 [[.aq,.aq]]):=by simp-implicitDefEqProofs(disch:=try exact aY)only[rb]
 have d1:decide ((0:Int)<=(n:Int)/\(n:Int)<70001)=true:=al;have d2:decide ((0:Int)<=(m:Int)/\(m:Int)<61)=true:=al;have d3:decide ((0:Int)<=(8:Int)/\(8:Int)<9)=true:=b0;have gp:og ((((H.push (.row I 1 [[.int .i64 (n:Nat)]])).push (.row I 1 [[.int .i64 (m:Nat)]])).push (.row I 1 [[.int .i64 8]])).push (.row I 2 [[.aq,.aq]])) H.next (H.next+1) (H.next+1+1) n m 8:=s
 have an:aJ P ((((H.push (.row I 1 [[.int .i64 (n:Nat)]])).push (.row I 1 [[.int .i64 (m:Nat)]])).push (.row I 1 [[.int .i64 8]])).push (.row I 2 [[.aq,.aq]])) 3 (.ptr (H.next+1+1) 0 0)=A (.int .i64 8):=iE s.c;refine bF @Hh.eq_1 @Lb ?_;generalize b8:((((H.push (.row I 1 [[.int .i64 (n:Nat)]])).push (.row I 1 [[.int .i64 (m:Nat)]])).push (.row I 1 [[.int .i64 8]])).push (.row I 2 [[.aq,.aq]]))=H0 at*;have cC:H0.next=H.next+4:=by rw[<-b8];simp
 obtain⟨zA,b4⟩:∃zA,zA=H.next:=⟨_,rfl⟩
 rw[<-b4]at s Y an gp ⊢;obtain⟨B,b5⟩:∃B,B=zA+1:=⟨_,rfl⟩;rw[<-b5]at s Y an gp ⊢;obtain⟨zC,b6⟩:∃zC,zC=B+1:=⟨_,rfl⟩;rw[<-b6]at s Y an gp ⊢;obtain⟨d,b9⟩:∃d,d=zC+1:=⟨_,rfl⟩;rw[<-b9]at Y ⊢;refine bK (iE s.a) ?_;refine dK (D5 _ _) ?_;refine bF d1 (iE s.b) ?_;refine hY (D5 _ _) ?_;refine bT d1 d2 an ?_;refine hY (D5 _ _) ?_;refine bT d1 d2 d3 ?_;refine cY (W_ N aa (a3.aC bs) s) λK a9=> ?_
 have e:=s.aC a9;have bg:=a9.get Y;have a_:=bs.trans a9;have ch:aJ P K 3 (.ptr zC 0 0)=A (.int .i64 8):=iE e.c;have bE:bx P .mul 3 I (.int .i64 (m:Int)) (.int .i64 8)=A (.int .i64 ((m*8:Nat):Int)):=by
  show A (af.int .i64 (IntKind.i64.wrap ((m:Int)*8)))=_;grind[wrap_i64]
 have cp:IntKind.i64.wrap ((n:Int)+((m*8:Nat):Int))=((V:Nat):Int):=by grind[wrap_i64]
 have u:V<=1000000000:=aa;refine bb d1 d2 d3 (iE e.a) (iE e.b) (ag ch (ag bE cp)) ?_;obtain⟨a,ak⟩:∃a,a=K.next:=⟨_,rfl⟩
 have bS:=aw.push K (.row I 1 (hh (List.replicate V 0)));generalize aS:K.push (.row I 1 (hh (List.replicate V 0)))=av at*;have cX:av.next=a+1:=by rw[<-aS,ak];simp
 have b2:=aw.push av (.row I 1 ((List.range V).map λ_=>[.aq]));generalize aT:av.push (.row I 1 ((List.range V).map λ_=>[.aq]))=ax at*;have a6:ax.next=a+2:=by rw[<-aT];simp[cX]
 have a4:=aw.push ax (.row I 1 ((List.range V).map λ_=>[.aq]));generalize aU:ax.push (.row I 1 ((List.range V).map λ_=>[.aq]))=ay at*;have a7:ay.next=a+3:=by rw[<-aU];simp[a6]
 have am:=aw.push ay (.row I 1 (hh (List.replicate V 0)));generalize aV:ay.push (.row I 1 (hh (List.replicate V 0)))=aB at*;have a8:aB.next=a+4:=by rw[<-aV];simp[a7]
 have ah:=aw.push aB (.map []);generalize aX:aB.push (.map [])=aF at*;have n5:aF.next=a+5:=by rw[<-aX];simp[a8]
 have Q:=aw.push aF (.row I 1 (da (List.replicate V I)));generalize aZ:aF.push (.row I 1 (da (List.replicate V I)))=aG at*;have n6:aG.next=a+6:=by rw[<-aZ];simp[n5]
 have E:=aw.push aG (.row I 9 [iI n V a λ_=> .aq]);generalize a0:aG.push (.row I 9 [iI n V a λ_=> .aq])=o at*;have n7:o.next=a+7:=by rw[<-a0];simp[n6]
 have t2:=bS.trans b2;have t3:=t2.trans a4;have t4:=t3.trans am;have t5:=t4.trans ah;have t6:=t5.trans Q;have t7:=t6.trans E;have bX:o.get a=A (.row I 1 (hh (List.replicate V 0))):=(((((b2.trans a4).trans am).trans ah).trans Q).trans E).get (by grind[ae.a1]);have bY:o.get (a+1)=A (.row I 1 ((List.range V).map λ_=>[.aq])):=((((a4.trans am).trans ah).trans Q).trans E).get (by grind[ae.a1]);have b3:o.get (a+2)=A (.row I 1 ((List.range V).map λ_=>[.aq])):=(((am.trans ah).trans Q).trans E).get (by grind[ae.a1]);have ge:o.get (a+3)=A (.row I 1 (hh (List.replicate V 0))):=((ah.trans Q).trans E).get (by grind[ae.a1])
 have bZ:o.get (a+4)=A (.map []):=(Q.trans E).get (by grind[ae.a1]);have gw:o.get (a+5)=A (.row I 1 (da (List.replicate V I))):=E.get (by grind[ae.a1]);have b1:o.get (a+6)=A (.row I 9 [iI n V a λ_=> .aq]):=by grind[ae.a1]
 have sv:=cN.start b1 bX bY b3 ge bZ gw;have bd:ey P 248 [(0,.int .i64 (n:Nat)),(1,.int .i64 8),(2,.az a 0 V 1 (A V)),(3,.az (a+1) 0 V 1 (A V)),(4,.az (a+2) 0 V 1 (A V)),(5,.az (a+3) 0 V 1 (A V)),(6,.map (a+4)),(8,.az (a+5) 0 V 1 (A V))]=A (.agg (iI n V a λ_=> .aq)):=KS rfl rfl rfl rfl rfl rfl rfl rfl;have be:fl (a+6) (.agg (iI n V a λ_=> .aq))=A (.ptr (a+6) 0 0,.row I 9 [iI n V a λ_=> .aq]):=rfl;have z:∀{H1:ae},aw K H1->aJ P H1 3 (.ptr zA 0 0)=A (.int .i64 (n:Nat))/\aJ P H1 3 (.ptr zC 0 0)=A (.int .i64 8):=λp=>⟨iE (e.aC p).a,iE (e.aC p).c⟩
 simp only[kT,<-ak,aS,cX,aT,a6,aU,a7,aV,a8,aX,n5,aZ,n6,a0,Pd _ V u,tn _ V u,Ph _ V u,tm _ V u,nq,bd,be,mr];simp-implicitDefEqProofs(disch:=try exact aY)only[reduceAdd,reduceLeDiff,reduceIte,bB,<-ak,aS,cX,aT,a6,aU,a7,aV,a8,aX,n5,aZ,n6,a0,Pd _ V u,tn _ V u,Ph _ V u,tm _ V u,bd,be,z (aw.refl K),z bS,z t2,z t3,z t4,z t5,z t6,fz,Bool.and_self,Bool.and_true,(a3.aC a_).len iG];have ad:V<=1000000:=aa;have cc:aI cU o (· <a) l lv:=by
  have:=(a3.aC a_).below;rw[<-ak]at this;exact this.aC t7
 refine K3 N hm M ad ar l.length 0 _ (gO V) [] (λ_=> .aq) [] o aa aa sv (by grind[gX.start]) (λv=>by
  have:(gO V).q v=[]:=l8;grind) cc ?_
 intro bc cr q4 bG bw cj f1 bH cG;obtain⟨k0,-,bn⟩:=gX.K2 hm N (cs:=l) (gX.start n m l) λ_ h=>h
 rw[<-M,<-List.drop_zero (l:=l),<-bH,List.drop_zero]at k0 bn;refine bK @Bj.eq_1 ?_;refine OO M ad V 0 _ bc cr q4 bG bw aa aa cj ?_;intro bA cJ hv cy cw ck f2 bI;obtain⟨i2,bo⟩:=eC.looks ((List.range V).drop 0) bc k0.i (λv cH=>al) bn;rw[<-bI]at i2 bo;have cf:∀v,(bA.q v).length<=1000000000:=λv=>by grind[ON]
 refine bK @Bk.eq_1 ?_;refine cB (aag ck N M aa ad hm i2 cf) ?_;rintro _ G ⟨rfl,aM,cK,oE,cA,a5,i3,bJ,cq,f3⟩;refine⟨f3.1,?_⟩;have bl:∀v,Go.a2.bits (aM.a v)=db m (dN n l v):=λv=>eC.list N hm (eC.final N i3 (λc aA=>(bo c aA).ra bJ.b) cq) v
 have pu:=sv.eu ((f1.trans f2).trans f3);have cg:zA<a:=by have:=ae.bm e.a;omega
 have oM:B<a:=by have:=ae.bm e.b;omega
 have iS:zC<a:=by have:=ae.bm e.c;omega
 have iD:d<a:=by have:=ae.bm bg;omega
 have aj:og G zA B zC n m 8:=⟨(pu.2 zA cg).trans (t7.get e.a),(pu.2 B oM).trans (t7.get e.b),(pu.2 zC iS).trans (t7.get e.c)⟩;have bV:G.get d=A (.row I 2 [[.aq,.aq]]):=(pu.2 d iD).trans (t7.get bg);have cx:=a5.lt;obtain⟨zD,bi⟩:∃zD,zD=G.next:=⟨_,rfl⟩
 have bu:=aw.push G (.row I 1 ((List.range n).map λ_=>[.aq]));generalize bj:G.push (.row I 1 ((List.range n).map λ_=>[.aq]))=au at*;have br:au.next=zD+1:=by rw[<-bj,bi];simp
 have bv:=aw.push au (.row I 1 ((List.range m).map λ_=>[.aq]));generalize bk:au.push (.row I 1 ((List.range m).map λ_=>[.aq]))=t at*;have ao:t.next=zD+2:=by rw[<-bk];simp[br]
 have ba:=aw.push t (.row I 2 [[.az zD 0 n 1 (A n),.az (zD+1) 0 m 1 (A m)]]);have cn:cz P (t.push (.row I 2 [[.aq,.aq]])) 154 (.ptr (zD+2) 0 0) (.agg [.az zD 0 n 1 (A n),.az (zD+1) 0 m 1 (A m)])=A (t.push (.row I 2 [[.az zD 0 n 1 (A n),.az (zD+1) 0 m 1 (A m)]])):=by
  have g:=ae.a1 t (.row I 2 [[.aq,.aq]]);rw[ao]at g;rw[yZ g rfl rfl,<-ao,ae.lD]
 generalize b7:t.push (.row I 2 [[.az zD 0 n 1 (A n),.az (zD+1) 0 m 1 (A m)]])=S at*;have cI:S.next=zD+3:=by rw[<-b7];simp[ao]
 have aQ:S.get (zD+2)=A (.row I 2 [[.az zD 0 n 1 (A n),.az (zD+1) 0 m 1 (A m)]]):=by grind[ae.a1]
 have bP:S.get (zD+1)=A (.row I 1 ((List.range m).map λ_=>[.aq])):=ba.get (by grind[ae.a1]);have bM:S.get zD=A (.row I 1 ((List.range n).map λ_=>[.aq])):=(bv.trans ba).get (by grind[ae.a1]);have ap:=(bu.trans bv).trans ba;have cl:=a5.aC ap;have bC:ey P 154 [(0,.az zD 0 n 1 (A n)),(1,.az (zD+1) 0 m 1 (A m))]=A (.agg [.az zD 0 n 1 (A n),.az (zD+1) 0 m 1 (A m)]):=KQ rfl rfl;have bD:=aj.aC bu;have ce:n<=1000000000:=aa;have cd:m<=1000000000:=aa;have ct:∀(k:af->ae->O),fA t [.aq,.aq] k=k (.ptr (zD+2) 0 0) (t.push (.row I 2 [[.aq,.aq]])):=λk=>by grind[kf,kh]
 simp only[iE aj.a,mr,<-bi,tn _ n ce,nq,uK,bj,br,iE bD.b,acS _ m cd,bk,ao,bC,ct,cn,nr,iE aj.b];refine cu @Bool.and_self @Bool.and_true (fF aQ) @fz ?_;have bq:∀k,G.next<=k->uR V a oE k:=λk j=>a5.nl j
 refine PG M ad (R:=zD+2) (zF:=zD+1) aa n 0 _ (λ_=> .aq) S aa aa cl (bq zD aa) aa bM aQ (λi aP=>aa) ?_;intro bz nv cm cE T bN ca;have aR:=(T (zD+2) aa aa).trans aQ;have bQ:=(T (zD+1) aa aa).trans bP;have bf:=aj.aC ap;have bL:=(T zC (ae.bm bf.c) aa).trans bf.c;refine bF @Bl.eq_1 (fF aR) ?_;refine SV M ad (zD:=zD) (R:=zD+2) (zF:=zD+1) (W6:=zC) aa aa m 0 _ (λ_=> .aq) bz aa aa cm (bq (zD+1) aa) aa aa bL aR bQ (λi aP=>aa) ?_;intro w fv cF U bR cb;have bU:=(U (zD+2) aa aa).trans aR;have bO:=(U zD aa aa).trans bN;have bh:w.get d=A (.row I 2 [[.aq,.aq]]):=((U d aa aa).trans (T d aa aa)).trans (ap.get bV)
 have ci:=ae.bm bh;have co:=yZ (x:= .az zD 0 n 1 (A n)) (y:= .az (zD+1) 0 m 1 (A m)) bh rfl rfl;have bW:(w.set d (.row I 2 [[.az zD 0 n 1 (A n),.az (zD+1) 0 m 1 (A m)]])).get d=A (.row I 2 [[.az zD 0 n 1 (A n),.az (zD+1) 0 m 1 (A m)]]):=ae.cO ci;refine cu @tI.eq_1 (m0 bU) co (m0 bW) ?_;have ab:∀q,q≠d->(w.set d (.row I 2 [[.az zD 0 n 1 (A n),.az (zD+1) 0 m 1 (A m)]])).get q=w.get q:=λq aH=>ae.b_ (Ne.symm aH)
 have n9:(w.set d (.row I 2 [[.az zD 0 n 1 (A n),.az (zD+1) 0 m 1 (A m)]])).next=w.next:=aW
 generalize w.set d (.row I 2 [[.az zD 0 n 1 (A n),.az (zD+1) 0 m 1 (A m)]])=ai at*;refine aE.2 ⟨_,rfl,⟨_,_,rfl,?_,?_⟩,?_,?_⟩
 ·have:=yV (K:=aN) (H:=ai) (ok:=λL=>zA<=L/\L<ai.next) (zD:=zD) (c:=n) (nv:=nv) (f:=λi=>aO (Go.a2.bits (aM.a i))) ⟨aa,aa⟩ ((ab zD aa).trans bO) λi aP=>(ca i aP).keep λk b j g=>⟨⟨by have:=j.1;omega,by have:=j.2;omega⟩,by rw[ab k (by have:=j.1;omega),U k j.2 (by have:=j.1;omega)];exact g⟩
  simpa [ho,iH,bl,Function.comp_def]using this
 ·have:=yV (K:=bp aN) (H:=ai) (ok:=λL=>zA<=L/\L<ai.next) (zD:=zD+1) (c:=m) (nv:=fv) (f:=λi=>(List.range 8).map λf=>aO (Go.a2.bits (aM.a (dk n i f)))) ⟨aa,aa⟩ ((ab (zD+1) aa).trans bR) λi aP=>(cb i aP).keep λk b j g=>⟨⟨by have:=j.1;omega,by have:=j.2;omega⟩,by rw[ab k (by have:=j.1;omega)];exact g⟩
  simpa [ho,iH,bl,Function.comp_def,dk]using this
 ·omega
 ·intro q aH;rw[ab q aa,U q aa aa,T q aa aa,ap.2 q aa,pu.2 q aa,t7.2 q aa,a_.2 q aa]
end
end
end Go.Proofs.YtmhhnnklfcbgfaaGreat
namespace Go.a2
open Go.cv
section
open Classical
def aS(L:List Nat)(i:Nat):Nat:=L.getD i i
structure Good(L:List Nat):Prop where
 le:∀i,aS L i<=i
 id:∀i,aS L (aS L i)=aS L i
theorem pR{L:List Nat}{i:Nat}(h:i<L.length):L[i]? =A (aS L i):=by
 grind[aS]
theorem F3{L:List Nat}{i:Nat}(h:L.length<=i):aS L i=i:=by
 grind[aS]
def Ar{L:List Nat}{i v:Nat}(h:L[i]? =A v):aS L i=v:=by
 grind[aS]
def en(L:List Nat)(a b:Nat):Prop:=aS L a=aS L b
theorem m7(L:List Nat):gx (en L):=⟨λ_=>rfl,λh=>h.symm,λh k=>h.trans k⟩
theorem ti(n i:Nat):aS (List.range n) i=i:=by
 by_cases h:i<n
 ·exact Ar (by grind)
 grind[F3]
def Nl(n:Nat):Good (List.range n):=⟨(by grind[ti]),(by grind[ti])⟩
def Good.lt{L:List Nat}(g:Good L){i:Nat}(h:i<L.length):aS L i<L.length:=by have:=g.le i;omega
def Good.least{L:List Nat}(g:Good L)(a:Nat):et (en L) a=aS L a:=by
 have h:=kr (m7 L) a;have ah:en L a (aS L a):=(g.id a).symm;have ai:=h.2.2 _ ah;have ay:aS L a=aS L (et (en L) a):=h.1;have aM:=g.le (et (en L) a);omega
def gg(L:List Nat)(a b:Nat):List Nat:=L.map λx=>if x=aS L a\/x=aS L b then min (aS L a) (aS L b)else x
theorem oL(L:List Nat)(a b:Nat):(gg L a b).length=L.length:=by simp[gg]
theorem mb{L:List Nat}(g:Good L){a b:Nat}(c:a<L.length)(d:b<L.length)(i:Nat):aS (gg L a b) i=if aS L i=aS L a\/aS L i=aS L b then min (aS L a) (aS L b)else aS L i:=by
 by_cases h:i<L.length
 ·refine Ar ?_;grind[gg,pR]
 ·have cD:L.length<=i:=by omega
  rw[F3 (by grind[oL]),F3 cD,if_neg];have:=g.lt c;have:=g.lt d;omega
theorem td{L:List Nat}{a b:Nat}(h:aS L a=aS L b):gg L a b=L:=by
 unfold gg;rw[h,Nat.min_self];have:∀x∈L,(if x=aS L b\/x=aS L b then aS L b else x)=x:=by
  intro x _;split
  ·omega
  ·rfl
 exact(List.map_congr_left this).trans (List.map_id' L)
def Good.join{L:List Nat}(g:Good L){a b:Nat}(c:a<L.length)(d:b<L.length):Good (gg L a b):=by
 have hm:aS (gg L a b) (min (aS L a) (aS L b))=min (aS L a) (aS L b):=by
  rw[mb g c d];rcases Nat.le_total (aS L a) (aS L b)with h|h
  ·rw[Nat.min_eq_left h,g.id,if_pos (.inl rfl)]
  ·rw[Nat.min_eq_right h,g.id,if_pos (.inr rfl)]
 refine⟨λi=> ?_,λi=> ?_⟩
 ·rw[mb g c d];have:=g.le i;grind
 ·by_cases h:aS L i=aS L a\/aS L i=aS L b
  ·grind[mb]
  ·have e:aS (gg L a b) i=aS L i:=by grind[mb]
   rw[e,mb g c d,g.id,if_neg h]
theorem AY{L:List Nat}(g:Good L){a b:Nat}(e:a<L.length)(f:b<L.length){c d:Nat}:en (gg L a b) c d↔en L c d\/((en L c a\/en L c b)/\(en L d a\/en L d b)):=by
 unfold en;rw[mb g e f,mb g e f];have ah:∀x,min (aS L a) (aS L b)=aS L x->aS L x=aS L a\/aS L x=aS L b:=λx h=>by
  omega
 by_cases aA:aS L c=aS L a\/aS L c=aS L b<;>by_cases i:aS L d=aS L a\/aS L d=aS L b
 ·grind
 ·grind
 ·grind
 grind
noncomputable def hO(L:List Nat):Nat:=(db L.length λi=>aS L i=i).length
def Gw{L:List Nat}(g:Good L){a b:Nat}(c:a<L.length)(d:b<L.length)(h:aS L a≠aS L b):hO (gg L a b)<hO L:=by
 unfold hO;rw[oL];have e:∀i,aS (gg L a b) i=i->aS L i=i:=by
  intro i aP;rw[mb g c d]at aP;split at aP
  ·rename_i ah;rcases Nat.le_total (aS L a) (aS L b)with ai|ai
   ·rw[Nat.min_eq_left ai]at aP;rw[<-aP,g.id]
   ·rw[Nat.min_eq_right ai]at aP;rw[<-aP,g.id]
  omega
 rcases Nat.lt_or_ge (db L.length λi=>aS (gg L a b) i=i).length (db L.length λi=>aS L i=i).length with ah|ah
 ·omega
 ·have key:=Qm e ah;have f:=key (aS L a) (g.lt c) (g.id a);have j:=key (aS L b) (g.lt d) (g.id b);grind[mb]
def PL(L:List Nat):hO L<=L.length:=by
 grind[hO,db]
def lq(L:List Nat)(a:Nat):List Nat->List Nat
 |[]=>L
 |b::bs=>lq (gg L a b) a bs
structure ja(L L':List Nat):Prop where
 len:L'.length=L.length
 h1:Good L'
 le:∀c d,en L c d->en L' c d
 num:L'=L\/hO L'<hO L
theorem ja.refl{L:List Nat}(g:Good L):ja L L:=⟨rfl,g,λ_ _ h=>h,.inl rfl⟩
theorem ja.trans{L L1 L2:List Nat}(h:ja L L1)(k:ja L1 L2):ja L L2:=
 ⟨k.len.trans h.len,k.h1,λc d r=>k.le c d (h.le c d r),by
  rcases h.num with rfl|ah
  ·exact k.num
  ·rcases k.num with rfl|ai
   ·omega
   omega⟩
def ja.rA{L L':List Nat}(h:ja L L'):hO L'<=hO L:=by
 rcases h.num with rfl|ah
 ·omega
 omega
def vq{L:List Nat}(g:Good L){a b:Nat}(c:a<L.length)(d:b<L.length):ja L (gg L a b):=by
 refine⟨oL _ _ _,g.join c d,(by grind[AY]),?_⟩;by_cases h:aS L a=aS L b
 ·grind[td]
 ·exact .inr (Gw g c d h)
def Ac:∀{bs:List Nat} {L:List Nat} {a:Nat},Good L->a<L.length->(∀b∈bs,b<L.length)->ja L (lq L a bs)
 |[],L,a,g,_,_=> .refl g
 |b::bs,L,a,g,d,e=>by
  have ah:=vq g d (e b (by simp));exact ah.trans (Ac ah.h1 (by rw[ah.len];omega) λc aA=>by rw[ah.len];grind)
theorem NU:∀{bs:List Nat} {L:List Nat} {a:Nat},Good L->a<L.length->(∀b∈bs,b<L.length)->∀b∈bs,en (lq L a bs) a b
 |[],_,_,_,_,_,b,h=>by grind
 |c::bs,L,a,g,e,i,b,h=>by
  have ah:=vq g e (i c (by simp));have f:a<(gg L a c).length:=by rw[ah.len];omega
  have j:∀d∈bs,d<(gg L a c).length:=λd k=>by rw[ah.len];grind
  rcases List.mem_cons.1 h with rfl|h
  ·exact(Ac ah.h1 f j).le _ _ ((AY g e (i b (by simp))).2 (.inr ⟨.inl rfl,.inr rfl⟩))
  ·exact NU ah.h1 f j b h
def NX{L:List Nat}(g:Good L){a b:Nat}(k:a<L.length)(l:b<L.length){R:Nat->Nat->Prop}(e:gx R)(h:∀c d,en L c d->R c d)(f:R a b):∀c d,en (gg L a b) c d->R c d:=by
 intro c d m;rcases(AY g k l).1 m with ah|⟨ah,ai⟩
 ·grind
 ·have i:R c a:=ah.elim (h _ _) λq=>e.trans (h _ _ q) (e.symm f)
  have j:R d a:=ai.elim (h _ _) λq=>e.trans (h _ _ q) (e.symm f)
  exact e.trans i (e.symm j)
def NV:∀{bs:List Nat} {L:List Nat} {a:Nat},Good L->a<L.length->(∀b∈bs,b<L.length)->∀{R:Nat->Nat->Prop},gx R->(∀c d,en L c d->R c d)->(∀b∈bs,R a b)->∀c d,en (lq L a bs) c d->R c d
 |[],_,_,_,_,_,_,_,h,_=>h
 |b::bs,L,a,g,f,j,R,e,h,i=>by
  have ah:=vq g f (j b (by simp));exact NV ah.h1 (by rw[ah.len];omega) (λd k=>by rw[ah.len];grind) e (NX g f (j b (by simp)) e h (i b (by simp))) λd k=>i d (by grind)
def abl{L:List Nat}{a:Nat}{bs:List Nat}:lq L a (a::bs)=lq L a bs:=by
 grind[lq,td]
def Good.XC{L:List Nat}(g:Good L){R:Nat->Nat->Prop}(c:gx R)(h:∀a b,a<L.length->b<L.length->(en L a b↔R a b)):L=(List.range L.length).map (et R):=by
 apply List.ext_getElem?;intro i;by_cases aP:i<L.length
 ·rw[pR aP,List.getElem?_map,List.getElem?_range aP,<-g.least i];grind[W7,m7]
 grind
end
section
open Classical
def qH(L:List Nat):List Nat->List Nat
 |[]=>L
 |a::bs=>lq L a bs
section
variable {L:List Nat}{l:List Nat}
theorem JF(g:Good L)(h:∀b∈l,b<L.length):ja L (qH L l):=by
 cases l with
 |nil=>exact .refl g
 |cons a bs=>exact Ac g (h a (by simp)) λb c=>h b (by grind)
theorem TH(g:Good L)(h:∀b∈l,b<L.length):∀b∈l,∀c∈l,en (qH L l) b c:=by
 cases l with
 |nil=>grind
 |cons a bs=>
  have ah:∀b∈a::bs,en (lq L a bs) a b:=by
   intro b d;rcases List.mem_cons.1 d with rfl|d
   ·rfl
   grind[NU]
  intro b d c aA;exact(m7 _).trans ((m7 _).symm (ah b d)) (ah c aA)
theorem aj5(g:Good L)(h:∀b∈l,b<L.length){R:Nat->Nat->Prop}(f:gx R)(e:∀c d,en L c d->R c d)(ar:∀b∈l,∀c∈l,R b c):∀c d,en (qH L l) c d->R c d:=by
 cases l with
 |nil=>exact e
 |cons a bs=>exact NV g (h a (by simp)) (by grind) f e (by grind)
end
structure May(m:Nat)(p:df):Prop where
 nodes:∀N∈p.nodes,∀a∈N,a<m
 len:p.fields.length=m
 wid:∀fs∈p.fields,fs.length=8
 er:∀fs∈p.fields,∀l∈fs,∀a∈l,a<m
def May.dz{m:Nat}{p:df}(h:May m p){s k a:Nat}(b:a∈p.er s k):a<m/\s<m/\k<8:=by
 unfold df.er at b;cases d:p.fields[s]? with
 |none=>grind
 |some fs=>
  rw[d]at b;simp only[Option.bind_some]at b;have ah:=List.mem_of_getElem? d;cases c:fs[k]? with
  |none=>grind
  |some l=>
   rw[c]at b;simp only[Option.getD_some]at b;have ai:=(List.getElem?_eq_some_iff.1 c).1;have ay:=(List.getElem?_eq_some_iff.1 d).1;rw[h.wid fs ah]at ai;rw[h.len]at ay;exact⟨h.er fs ah l (List.mem_of_getElem? c) a b,ay,ai⟩
def acB(n m:Nat)(R:Nat->Nat->Prop):May m (iH n m R):=by
 refine⟨?_,by simp[iH],?_,?_⟩
 ·grind[iH,g4]
 ·grind[iH]
 grind[iH,g4]
structure dW(m:Nat)(p:df)(L:List Nat):Prop where
 len:L.length=m
 h1:Good L
 sub:∀c d,en L c d->bW p c d
structure ic(p:df)(L:List Nat):Prop where
 h:∀N∈p.nodes,∀a∈N,∀b∈N,en L a b
structure ki(p:df)(L:List Nat):Prop where
 h:∀s t k a b,en L s t->a∈p.er s k->b∈p.er t k->en L a b
theorem dW.start(m:Nat)(p:df):dW m p (List.range m):=⟨by simp,Nl m,λc d h=>by
 unfold en at h;rw[ti,ti]at h;rw[h];exact .refl d⟩
def dW.TE{m:Nat}{p:df}{L l:List Nat}(h:dW m p L)(ar:∀b∈l,b<m)(a_:∀b∈l,∀c∈l,bW p b c):dW m p (qH L l):=by
 have ah:∀b∈l,b<L.length:=λb a=>by rw[h.len];grind
 have j:=JF h.h1 ah;exact⟨j.len.trans h.len,j.h1,aj5 h.h1 ah (bW.cl p).eqv h.sub a_⟩
def ic.Ab{p:df}{L L':List Nat}(h:ic p L)(j:ja L L'):ic p L':=⟨λN c a d b e=>j.le _ _ (h.h N c a d b e)⟩
theorem Zu{m:Nat}{p:df}{L:List Nat}(h:dW m p L)(aL:ic p L)(aA:ki p L):∀a b,en L a b↔bW p a b:=by
 intro a b;refine⟨h.sub a b,bW.least (R:=en L) ⟨(m7 L).refl,(m7 L).symm,(m7 L).trans,?_,?_⟩⟩
 ·intro N a b e c d;exact aL.h N e a c b d
 ·intro s t k a b f c d;exact aA.h s t k a b f c d
def Zt{m:Nat}{p:df}{L:List Nat}(h:dW m p L)(aL:ic p L)(aA:ki p L):L=(List.range m).map (et (bW p)):=by
 have:=h.h1.XC (bW.cl p).eqv (by grind[Zu]);rwa[h.len]at this
def W3{R:Nat->Nat->Prop}(d:gx R){l:List Nat}{a:Nat}(h:a∈l)(ar:∀b∈l,∀c∈l,R b c):il R l=dj R a:=by
 cases l with
 |nil=>grind
 |cons b bs=>
  grind[il,sU]
theorem vz{p:df}{R:Nat->Nat->Prop}{m r k a:Nat}:a∈kL p R m r k↔∃t,t<m/\R r t/\a∈p.er t k:=by
 grind[kL,g4]
def Z_{p:df}{m r k:Nat}:∀b∈kL p (bW p) m r k,∀c∈kL p (bW p) m r k,bW p b c:=by
 intro b a c aA;obtain⟨s,_,ah,ai⟩:=vz.1 a;obtain⟨t,_,ay,aM⟩:=vz.1 aA;exact .field (.trans (.symm ah) ay) ai aM
end
end Go.a2
namespace Go.Proofs.YtmhhnnklfcbgfaaGreat
open Go.cv
open Nat (reduceAdd reduceLeDiff)
section
set_option maxRecDepth 100000
set_option maxHeartbeats 4000000
noncomputable section
def rJ(G:ao)(N:Nat):gT 2 8 Tryz.f132 G N (·.ad.ad.ad.ad.ad.ad.ad.ad.ad.ad) (a8 Tryz.f132) []:=⟨_,v2 an⟩
def wq(G:ao)(N:Nat)(L5:cH):fQ 1 2 8 87 88 89 Tryz.f132 G N (·.ad.ad.ad.ad.ad.ad.ad.ad.ad.aj.ad.aj.aj.ad.ad.ad) (cm L5 1 2 8 87 88 89) [(10,(bd (rJ G N) 2 8))]:=⟨_,v6 an⟩
def Bv(G:ao)(N:Nat)(L5:cH):gZ 1 2 8 17 87 88 89 Tryz.f132 G N (·.ad.ad.ad.ad.ad.ad.ad.ad.ad.aj.ad.aj.aj.ad.ad.aj.aj.ad.ad.ad) (cm (wq G N L5) 1 2 8 87 88 89) [(11,(cm (wq G N L5) 1 2 8 87 88 89)),(10,(bd (rJ G N) 2 8))]:=⟨_,hf an⟩
def Bq(G:ao)(N:Nat)(L5:cH)(L8:jr):sx 1 2 8 16 17 87 88 89 100 101 Tryz.f132 G N (·.ad.ad.ad.ad.ad.ad.ad.ad.ad.aj.ad.aj.aj.ad.ad.aj.aj.ad.ad.aj.ad.aj.aj) (qY L8 1 2 8 16 17 87 88 89 100 101) [(12,(dw (Bv G N L5) 1 2 8 17 87 88 89)),(11,(cm (wq G N L5) 1 2 8 87 88 89)),(10,(bd (rJ G N) 2 8))]:=⟨_,Xt an⟩
def wA(G:ao)(N:Nat)(L5:cH):Nat->jr
 |0=>y9
 |n+1=>Bq G N L5 (wA G N L5 n)
def Bp(G:ao)(N:Nat)(L5:cH):fQ 1 2 8 87 88 89 Tryz.f132 G N (·.ad.ad.ad.ad.ad.ad.ad.ad.ad.aj.ad.aj.aj) (cm L5 1 2 8 87 88 89) [(10,(bd (rJ G N) 2 8))]:=⟨_,v6 (ak (ak (ak ((wq G N L5).2) (bh (ak (ak (ak ((Bv G N L5).2) (ak (bh (bH (λm=>(Bq G N L5 (wA G N L5 m)).2))) an)) an) an))) an) an)⟩
def wz(G:ao)(N:Nat):Nat->cH
 |0=>iK
 |n+1=>Bp G N (wz G N n)
def Bu(G:ao)(N:Nat):dO 1 2 7 8 Tryz.f132 G N (·.ad.ad.ad.ad.ad.ad.ad.ad.ad) (a8 Tryz.f132) []:=⟨_,v4 (ak ((rJ G N).2) (ak (bh (bH (λm=>(Bp G N (wz G N m)).2))) an))⟩
def Br(G:ao)(N:Nat)(L9:ei):gZ 1 2 7 8 71 72 73 Tryz.f132 G N (·.ad.ad.ad.ad.ad.ad.ad.ad.aj.ad.aj.aj) (dw L9 1 2 7 8 71 72 73) [(8,(bO (Bu G N) 1 2 7 8))]:=⟨_,pF an⟩
def wB(G:ao)(N:Nat):Nat->ei
 |0=>k5
 |n+1=>Br G N (wB G N n)
def tK(G:ao)(N:Nat):dO 1 2 7 8 Tryz.f132 G N (·.ad.ad.ad.ad.ad.ad.ad.ad) (a8 Tryz.f132) []:=⟨_,v4 (ak ((Bu G N).2) (ak (bh (bH (λm=>(Br G N (wB G N m)).2))) an))⟩
def wo(G:ao)(N:Nat)(L10:ei):gZ 1 2 7 8 50 51 52 Tryz.f132 G N (·.ad.ad.ad.ad.ad.ad.ad.aj.ad.aj.aj.ad.ad.ad) (dw L10 1 2 7 8 50 51 52) [(4,(bO (tK G N) 1 2 7 8))]:=⟨_,hf an⟩
def Bn(G:ao)(N:Nat)(L10:ei)(a:pr):Uz 1 2 7 8 9 50 51 52 57 58 59 Tryz.f132 G N (·.ad.ad.ad.ad.ad.ad.ad.aj.ad.aj.aj.ad.ad.aj.aj.ad.ad.aj.aj) (Ld a 1 2 7 8 9 50 51 52 57 58 59) [(6,(dw (wo G N L10) 1 2 7 8 50 51 52)),(5,(dw (wo G N L10) 1 2 7 8 50 51 52)),(4,(bO (tK G N) 1 2 7 8))]:=⟨_,v11 an⟩
def wv(G:ao)(N:Nat)(L10:ei):Nat->pr
 |0=>alB
 |n+1=>Bn G N L10 (wv G N L10 n)
def Bm(G:ao)(N:Nat)(L10:ei):gZ 1 2 7 8 50 51 52 Tryz.f132 G N (·.ad.ad.ad.ad.ad.ad.ad.aj.ad.aj.aj) (dw L10 1 2 7 8 50 51 52) [(4,(bO (tK G N) 1 2 7 8))]:=⟨_,hf (ak (ak (ak ((wo G N L10).2) (bh (ak (ak (bh (bH (λm=>(Bn G N L10 (wv G N L10 m)).2))) an) an))) an) an)⟩
def wu(G:ao)(N:Nat):Nat->ei
 |0=>k5
 |n+1=>Bm G N (wu G N n)
def Bt(G:ao)(N:Nat):ew 1 2 4 Tryz.f132 G N (·.ad.ad.ad.ad.ad) (a8 Tryz.f132) []:=⟨_,v3 (ak (ak (ak ((tK G N).2) (ak (bh (bH (λm=>(Bm G N (wu G N m)).2))) an)) an) an)⟩
def Hk(G:ao)(N:Nat)(L13:b8):ew 1 2 4 Tryz.f132 G N (·.ad.ad.ad.ad.aj.aj.aj) (bo L13 1 2 4) [(2,(bo (Bt G N) 1 2 4))]:=⟨_,v3 an⟩
def Bw(G:ao)(N:Nat):Nat->b8
 |0=>gQ
 |n+1=>Hk G N (Bw G N n)
def Bs(G:ao)(N:Nat):ew 1 2 4 Tryz.f132 G N (·.ad.ad.ad.ad) (a8 Tryz.f132) []:=⟨_,v3 (ak ((Bt G N).2) (bh (bH (λm=>(Hk G N (Bw G N m)).2))))⟩
def Bo(G:ao)(N:Nat)(a:cH):fQ 1 2 4 28 29 30 Tryz.f132 G N (·.ad.ad.ad.aj.ad.aj.aj) (cm a 1 2 4 28 29 30) [(0,(bo (Bs G N) 1 2 4))]:=⟨_,v6 an⟩
def wy(G:ao)(N:Nat):Nat->cH
 |0=>iK
 |n+1=>Bo G N (wy G N n)
def Hj(G:ao)(N:Nat):f_ Tryz.f132 G N:=⟨_,t1 (ak (ak (ak (ak ((Bs G N).2) (ak (bh (bH (λm=>(Bo G N (wy G N m)).2))) an)) an) an) an)⟩
def ae8(N:Nat):=eo Tryz.func132 λG=>(Hj G N).2
def HP(G:ao)(N:Nat):hX Tryz.f185 G N (·.ad.ad.ad.ad) (a8 Tryz.f185) []:=⟨_,v0 an⟩
def BZ(G:ao)(N:Nat)(L1:cF):e6 1 3 19 20 21 Tryz.f185 G N (·.ad.ad.ad.aj.ad.aj.aj) (b3 L1 1 3 19 20 21) [(0,(bu (HP G N)))]:=⟨_,v5 an⟩
def wY(G:ao)(N:Nat):Nat->cF
 |0=>hW
 |n+1=>BZ G N (wY G N n)
def HO(G:ao)(N:Nat):f_ Tryz.f185 G N:=⟨_,t1 (ak (ak (ak (ak ((HP G N).2) (ak (bh (bH (λm=>(BZ G N (wY G N m)).2))) an)) an) an) an)⟩
def afE(N:Nat):=eo Tryz.func185 λG=>(HO G N).2
def HR(G:ao)(N:Nat):eP 3 Tryz.f186 G N (·.ad.ad.ad) (a8 Tryz.f186) []:=⟨_,v1 an⟩
def B0(G:ao)(N:Nat)(L1:b8):ew 3 15 16 Tryz.f186 G N (·.ad.ad.aj.ad.aj.aj) (bo L1 3 15 16) [(0,(a6 (HR G N) 3))]:=⟨_,v3 an⟩
def wZ(G:ao)(N:Nat):Nat->b8
 |0=>gQ
 |n+1=>B0 G N (wZ G N n)
def HQ(G:ao)(N:Nat):f_ Tryz.f186 G N:=⟨_,t1 (ak (ak (ak ((HR G N).2) (ak (bh (bH (λm=>(B0 G N (wZ G N m)).2))) an)) an) an)⟩
def afF(N:Nat):=eo Tryz.func186 λG=>(HQ G N).2
def w2(G:ao)(N:Nat):eP 5 Tryz.f187 G N (·.ad.ad.ad) (a8 Tryz.f187) []:=⟨_,v1 an⟩
def HT(G:ao)(N:Nat)(L1:cH):fQ 0 1 5 8 9 10 Tryz.f187 G N (·.ad.ad.aj.ad.aj.aj.ad.ad.ad) (cm L1 0 1 5 8 9 10) [(0,(a6 (w2 G N) 5))]:=⟨_,v6 an⟩
def w1(G:ao)(N:Nat)(L1:cH):fQ 0 1 5 8 9 10 Tryz.f187 G N (·.ad.ad.aj.ad.aj.aj) (cm L1 0 1 5 8 9 10) [(0,(a6 (w2 G N) 5))]:=⟨_,v6 (ak (ak (ak ((HT G N L1).2) an) an) an)⟩
def tU(G:ao)(N:Nat):Nat->cH
 |0=>iK
 |n+1=>w1 G N (tU G N n)
def HS(G:ao)(N:Nat):gn Tryz.f187 G N:=⟨_,t2 (ak (ak (ak ((w2 G N).2) (ak (bh (bH (λm=>(w1 G N (tU G N m)).2))) an)) an) an)⟩
def afG(N:Nat):=c6 Tryz.func187 λG=>(HS G N).2
def tV(G:ao)(N:Nat):eP 5 Tryz.f188 G N (·.ad.ad.ad) (a8 Tryz.f188) []:=⟨_,v1 an⟩
def rO(G:ao)(N:Nat)(L1:cH):fQ 0 3 5 10 11 12 Tryz.f188 G N (·.ad.ad.aj.ad.aj.aj.ad.ad.ad) (cm L1 0 3 5 10 11 12) [(0,(a6 (tV G N) 5))]:=⟨_,v6 an⟩
def HV(G:ao)(N:Nat)(L1:cH)(L3:jO):qR 0 3 5 7 10 11 12 23 24 Tryz.f188 G N (·.ad.ad.aj.ad.aj.aj.ad.ad.aj.aj.ad.ad.aj.aj.ad.ad.ad) (pA L3 0 3 5 7 10 11 12 23 24) [(2,(cm (rO G N L1) 0 3 5 10 11 12)),(1,(cm (rO G N L1) 0 3 5 10 11 12)),(0,(a6 (tV G N) 5))]:=⟨_,v9 an⟩
def B2(G:ao)(N:Nat)(L1:cH)(L3:jO):qR 0 3 5 7 10 11 12 23 24 Tryz.f188 G N (·.ad.ad.aj.ad.aj.aj.ad.ad.aj.aj.ad.ad.aj.aj) (pA L3 0 3 5 7 10 11 12 23 24) [(2,(cm (rO G N L1) 0 3 5 10 11 12)),(1,(cm (rO G N L1) 0 3 5 10 11 12)),(0,(a6 (tV G N) 5))]:=⟨_,v9 (ak (ak (ak ((HV G N L1 L3).2) an) an) an)⟩
def w4(G:ao)(N:Nat)(L1:cH):Nat->jO
 |0=>y_
 |n+1=>B2 G N L1 (w4 G N L1 n)
def B1(G:ao)(N:Nat)(L1:cH):fQ 0 3 5 10 11 12 Tryz.f188 G N (·.ad.ad.aj.ad.aj.aj) (cm L1 0 3 5 10 11 12) [(0,(a6 (tV G N) 5))]:=⟨_,v6 (ak (ak (ak ((rO G N L1).2) (bh (ak (ak (bh (bH (λm=>(B2 G N L1 (w4 G N L1 m)).2))) an) an))) an) an)⟩
def w3(G:ao)(N:Nat):Nat->cH
 |0=>iK
 |n+1=>B1 G N (w3 G N n)
def HU(G:ao)(N:Nat):gn Tryz.f188 G N:=⟨_,t2 (ak (ak (ak ((tV G N).2) (ak (bh (bH (λm=>(B1 G N (w3 G N m)).2))) an)) an) an)⟩
def afH(N:Nat):=c6 Tryz.func188 λG=>(HU G N).2
def tW(G:ao)(N:Nat):eP 3 Tryz.f189 G N (·.ad.ad.ad.ad.ad) (a8 Tryz.f189) []:=⟨_,v1 an⟩
def B4(G:ao)(N:Nat)(L1:cF):e6 0 3 4 14 15 Tryz.f189 G N (·.ad.ad.ad.ad.aj.ad.aj.aj.ad.ad.ad) (b3 L1 0 3 4 14 15) [(0,(a6 (tW G N) 3))]:=⟨_,v5 an⟩
def w5(G:ao)(N:Nat)(L1:cF):gZ 0 3 4 5 6 14 15 Tryz.f189 G N (·.ad.ad.ad.ad.aj.ad.aj.aj.ad.ad.aj.aj.ad.ad.ad) (b3 (B4 G N L1) 0 3 4 14 15) [(1,(b3 (B4 G N L1) 0 3 4 14 15)),(0,(a6 (tW G N) 3))]:=⟨_,pF an⟩
def B3(G:ao)(N:Nat)(L1:cF):e6 0 3 4 14 15 Tryz.f189 G N (·.ad.ad.ad.ad.aj.ad.aj.aj) (b3 L1 0 3 4 14 15) [(0,(a6 (tW G N) 3))]:=⟨λb x3 x4 c x15 H=>aU (bx P .lss 3 I x15 c) λx16=>eB (A x16) (eg H (G 228 [b,x15] H) λa ah=>aU (bx P .eql 3 I a x15) λd=>eB (A d) (eU P .len [31] [x3] ah λe=>gG ah (jU P ah 293 x4 a e) λai=>fp ai (A (.az (ai).next 0 1 1 (A 1),.row I 1 [[af.aq]])) λf ay=>eg ay (ej P ay [31,31] x3 f) λg aM=>w5 G N L1 b g x4 x15 a c x15 aM) (w5 G N L1 b x3 x4 x15 a c x15 ah)) (tW G N x3 H),cR (ak (ak (ak ((B4 G N L1).2) (bh (ak (ak (ak ((w5 G N L1).2) an) an) an))) an) an)⟩
def rP(G:ao)(N:Nat):Nat->cF
 |0=>hW
 |n+1=>B3 G N (rP G N n)
def HW(G:ao)(N:Nat):f_ Tryz.f189 G N:=⟨λa H=>aU (bx P .eql 253 J a af.gC) λx8=>eB (A x8) (A (af.aq,H)) (fp H (A (.map (H).next,.map [])) λx9 ah=>aU (dS a) λx11=>aU (bP P 292 x11 0) λx12=>aU (aJ P ah 30 x12) λb=>eU P .len [30] [b] ah λc=>rP G N N a af.aq x9 c (.int .i64 0) ah),Af (ak (ak (ak (ak (ak ((tW G N).2) (ak (bh (bH (λm=>(B3 G N (rP G N m)).2))) an)) an) an) an) an)⟩
def afI(N:Nat):=eo Tryz.func189 λG=>(HW G N).2
def B8(G:ao):eQ Tryz.f190 G:=⟨_,λN=>t2 an⟩
def afK(N:Nat):=c6 Tryz.func190 λG=>(B8 G).2 N
def H2(G:ao)(N:Nat):eP 7 Tryz.f191 G N (·.ad.ad.ad) (a8 Tryz.f191) []:=⟨_,v1 an⟩
def B9(G:ao)(N:Nat)(L1:cH):fQ 2 3 7 10 11 12 Tryz.f191 G N (·.ad.ad.aj.ad.aj.aj) (cm L1 2 3 7 10 11 12) [(0,(a6 (H2 G N) 7))]:=⟨_,v6 an⟩
def w9(G:ao)(N:Nat):Nat->cH
 |0=>iK
 |n+1=>B9 G N (w9 G N n)
def HZ(G:ao)(N:Nat):nA Tryz.f191 G N:=⟨_,t3 (ak (ak (ak ((H2 G N).2) (ak (bh (bH (λm=>(B9 G N (w9 G N m)).2))) an)) an) an)⟩
def afL(N:Nat):=hp Tryz.func191 λG=>(HZ G N).2
def Ib(G:ao)(N:Nat):hX Tryz.f226 G N (·.ad.ad) (a8 Tryz.f226) []:=⟨_,v0 an⟩
def Ci(G:ao)(N:Nat)(L1:ck):dO 3 7 8 9 Tryz.f226 G N (·.ad.aj.ad.aj.aj) (bO L1 3 7 8 9) [(0,(bu (Ib G N)))]:=⟨_,v4 an⟩
def xi(G:ao)(N:Nat):Nat->ck
 |0=>fB
 |n+1=>Ci G N (xi G N n)
def Ia(G:ao)(N:Nat):gn Tryz.f226 G N:=⟨_,t2 (ak (ak ((Ib G N).2) (ak (bh (bH (λm=>(Ci G N (xi G N m)).2))) an)) an)⟩
def afY(N:Nat):=c6 Tryz.func226 λG=>(Ia G N).2
def Ic(G:ao):jS Tryz.f227 G:=⟨_,λN=>t3 an⟩
def afZ(N:Nat):=hp Tryz.func227 λG=>(Ic G).2 N
def Ig(G:ao)(N:Nat):eP 1 Tryz.f228 G N (·.ad.ad.ad) (a8 Tryz.f228) []:=⟨_,v1 an⟩
def Cj(G:ao)(N:Nat)(L1:T2):gT 0 1 Tryz.f228 G N (·.ad.ad.aj.aj.aj) (bd L1 0 1) [(0,(a6 (Ig G N) 1))]:=⟨_,v2 an⟩
def xj(G:ao)(N:Nat):Nat->T2
 |0=>ns
 |n+1=>Cj G N (xj G N n)
def Ie(G:ao)(N:Nat):gn Tryz.f228 G N:=⟨_,t2 (ak (ak (ak ((Ig G N).2) (bh (bH (λm=>(Cj G N (xj G N m)).2)))) an) an)⟩
def af0(N:Nat):=c6 Tryz.func228 λG=>(Ie G N).2
def It(G:ao):eQ Tryz.f253 G:=⟨_,λN=>t2 an⟩
def agf(N:Nat):=c6 Tryz.func253 λG=>(It G).2 N
end
end
section
open Go.a2
set_option maxRecDepth 2000
def eD(l:List Nat):List (List af):=l.map λn=>[.int .i64 (n:Nat)]
def Vw(l:List Nat)(i n:Nat):(eD l).set i [.int .i64 (n:Nat)]=eD (l.set i n):=by simp[eD,List.map_set]
def F0{H:ae}{l:List Nat}{zD i:Nat}(g:H.get zD=A (.row I 1 (eD l)))(aP:i<l.length):aJ P H 3 (.ptr zD i 0)=A (.int .i64 (aS l i:Nat)):=by
 rw[eW aG g (e:=[.int .i64 (aS l i:Nat)]) (by simp[eD,pR aP])];rfl
def D0{H:ae}{l:List Nat}{zD i:Nat}(g:H.get zD=A (.row I 1 (eD l)))(aP:i<l.length)(n:Nat):cz P H 3 (.ptr zD i 0) (.int .i64 n)=A (H.set zD (.row I 1 (eD (l.set i n)))):=by
 rw[fb (n:=1) aG g (e:=[.int .i64 (aS l i:Nat)]) (by simp[eD,pR aP]) rfl rfl b0,<-Vw];rfl
theorem vu{l:List Nat}{i n:Nat}(aP:i<l.length)(k:Nat):aS (l.set i n) k=if k=i then n else aS l k:=by
 grind[aS]
structure my(L U:List Nat):Prop where
 len:U.length=L.length
 le:∀i,aS U i<=i
 same:∀i,aS L (aS U i)=aS L i
 root:∀i,aS U i=i->aS L i=i
theorem my.start(n:Nat):my (List.range n) (List.range n):=⟨rfl,(by grind[ti]),(by grind[ti]),aa⟩
def my.aaj{L U:List Nat}(u:my L U){a:Nat}(b:a<U.length)(h:aS U a≠a):my L (U.set a (aS U (aS U a))):=by
 have ah:=u.le a;have ai:=u.le (aS U a);refine⟨by rw[List.length_set];exact u.len,λi=> ?_,λi=> ?_,λi=> ?_⟩<;>rw[vu b]<;>split
 ·omega
 ·exact u.le i
 ·next e=>rw[e,u.same,u.same]
 ·exact u.same i
 ·omega
 ·exact u.root i
def my.join{L U:List Nat}(u:my L U)(g:a2.Good L){a b:Nat}(c:a<L.length)(d:b<L.length)(l:aS L a≠aS L b):my (gg L a b) (U.set (max (aS L a) (aS L b)) (min (aS L a) (aS L b))):=by
 have h:=g.lt c;have j:=g.lt d;have m:=g.id a;have n:=g.id b;have ar:=u.len;have hm:max (aS L a) (aS L b)<U.length:=aa;refine⟨by grind[oL],λi=> ?_,λi=> ?_,λi=> ?_⟩<;>rw[vu hm]
 ·split
  ·omega
  ·exact u.le i
 ·rw[mb g c d,mb g c d];split
  ·grind
  ·rw[u.same]
 ·rw[mb g c d];split
  ·omega
  ·next e=>
   intro f;have k:=u.root i f;grind
structure fr(zD:Nat)(L:List Nat)(H:ae):Prop where
 g:a2.Good L
 f:H.get (zD+1)=some (.row false 1 [[.az zD 0 L.length 1 (some L.length)]])
 u:∃U,my L U/\H.get zD=some (.row false 1 (eD U))
section
variable {zD:Nat}{L:List Nat}{H:ae}
def fr.lt(h:fr zD L H):zD+1<H.next:=ae.bm h.f
theorem fr.aC{H':ae}(h:fr zD L H)(m:aw H H'):fr zD L H':=by
 obtain⟨U,u,g⟩:=h.u;exact⟨h.g,m.get h.f,U,u,m.get g⟩
def fr.nN(h:fr zD L H):aJ P H 30 (.ptr (zD+1) 0 0)=A (.az zD 0 L.length 1 (A L.length)):=by
 rw[eW aG h.f rfl];rfl
theorem fr.set(h:fr zD L H){U:List Nat}(u:my L U):fr zD L (H.set zD (.row I 1 (eD U))):=
 ⟨h.g,by rw[ae.b_ aa];exact h.f,U,u,ae.cO (by have:=h.lt;omega)⟩
theorem OC{a:Nat}(n:a<L.length){N:Nat}:∀(m b:Nat) (H:ae),b<m->fr zD L H->b<L.length->aS L b=aS L a->
  W (xj (aK P aD) N m (.ptr (zD+1) 0 0) (.int .i64 b) H) λr H'=>r= .int .i64 (aS L a:Nat)/\fr zD L H'/\fZ (· =zD) H H'
 |0,_,_,hm,_,_,_=>aa
 |m+1,b,H,hm,h,f,o=>by
  obtain⟨U,u,g⟩:=h.u;have c:b<U.length:=by rw[u.len];omega
  have fE:=F0 g c;by_cases e:aS U b=b
  ·have d:((aS U b:Nat):Int)=((b:Nat):Int):=aa;have t:=u.root b e;refine bb @xj.eq_2 @Cj.eq_1 h.nN (im bV f) fE (ag d (ag @bne_self_eq_false.{0} @Ig.eq_1)) ?_;exact aE.2 ⟨al,h,.refl _ _⟩
  ·have d:(((aS U b:Nat):Int)==((b:Nat):Int))=false:=al;have k:(((aS U b:Nat):Int) != ((b:Nat):Int))=true:=al;have v:=u.le b;have p:aS U b<U.length:=aa;have aA:aS U b<L.length:=aa;have w:=u.le (aS U b);have s:=u.aaj c e;have ah:=h.set s;have iT:zD<H.next:=by have:=h.lt;omega
   have j:=F0 (ae.cO (b:= .row I 1 (eD (U.set b (aS U (aS U b))))) iT) (i:=b) al;rw[vu c,if_pos rfl]at j;refine bb @xj.eq_2 @Cj.eq_1 h.nN (im bV f) (im bV aA) (ag fE (ag k (ag (F0 g p) (ag (D0 g c) (ag ah.nN j))))) ?_;have l:aS L (aS U (aS U b))=aS L a:=by rw[u.same,u.same,o]
   exact(OC n (N:=N) m (aS U (aS U b)) (H.set zD (.row I 1 (eD (U.set b (aS U (aS U b)))))) aa ah aa l).mono λr H' q=>⟨q.1,q.2.1,((fZ.refl (· =zD) H).pc (.inl rfl) _).trans q.2.2⟩
theorem F1(h:fr zD L H){a:Nat}(c:a<L.length):W (aK P aD 228 [.ptr (zD+1) 0 0,.int .i64 a] H) λr H'=>r= .int .i64 (aS L a:Nat)/\fr zD L H'/\fZ (· =zD) H H':=by
 refine af0 (a+1) ?_;have b:bx P .eql 253 J (.ptr (zD+1) 0 0) .gC=A (.bool I):=aG;refine bT @Ie.eq_1 b h.nN ?_;grind[OC]
theorem Zx(h:fr zD L H){a b:Nat}(c:a<L.length)(d:b<L.length)(v:L.length<=1000000):W (aK P aD 227 [.ptr (zD+1) 0 0,.int .i64 a,.int .i64 b] H) λr H'=>r= .bool (decide (aS L a≠aS L b))/\fr zD (gg L a b) H'/\fZ (· =zD) H H':=by
 refine afZ 0 ?_;refine bK @Ic.eq_1 ?_;refine cB (F1 h c) ?_;rintro _ H1 ⟨rfl,ah,k⟩;refine⟨k.1,?_⟩;refine bM ?_;refine cB (F1 ah d) ?_;rintro _ q ⟨rfl,ai,l⟩;refine⟨l.1,?_⟩;have m:=k.trans l;by_cases e:aS L a=aS L b
 ·have j:(((aS L a:Nat):Int)==((aS L b:Nat):Int))=true:=al;refine bK j ?_;grind[aE,td]
 ·have j:(((aS L a:Nat):Int)==((aS L b:Nat):Int))=false:=al;obtain⟨U,u,g⟩:=ai.u;have s:=h.g.lt c;have t:=h.g.lt d;have ar:=u.len;have p:=u.join h.g c d e;have n:max (aS L a) (aS L b)<L.length:=aa;have o:∀(H0:ae),bD P H0 .max [3,3] [.int .i64 (aS L a:Nat),.int .i64 (aS L b:Nat)]=A (.int .i64 ((max (aS L a) (aS L b):Nat):Int)):=λH0=>by
   show A (af.int .i64 (if((aS L a:Nat):Int)<((aS L b:Nat):Int)then _ else _))=_;grind
  have hn:∀(H0:ae),bD P H0 .min [3,3] [.int .i64 (aS L a:Nat),.int .i64 (aS L b:Nat)]=A (.int .i64 ((min (aS L a) (aS L b):Nat):Int)):=λH0=>by
   show A (af.int .i64 (if((aS L b:Nat):Int)<((aS L a:Nat):Int)then _ else _))=_;grind
  have st:=D0 g (i:=max (aS L a) (aS L b)) aa (min (aS L a) (aS L b));refine bb j ai.nN (im bV n) st o hn ?_;exact aE.2 ⟨al,⟨h.g.join c d,by rw[ae.b_ aa,oL];exact ai.f,_,p,ae.cO (by have:=ai.lt;omega)⟩,m.pc (.inl rfl) _⟩
def Pc(l n:Nat)(aL:n<=1000000000):g5 (h0 P ⟨.leaf,l⟩ 30 (.int .i64 n) (.int .i64 n)) l=A (.az l 0 n 1 (A n),.row I 1 (eD (List.replicate n 0))):=by
 rw[rz (t:=30) (e:=3) (esz:=1) (z:= .int .i64 0) (b:=8) aG aG aG aG rfl rfl b0 b0 l n aL];simp[eD,af.cells]
theorem PC{n:Nat}(aL:n<=10000){N:Nat}:∀(j k m:Nat) (U:List Nat) (H:ae),k+j=n->j<m->U.length=n->(∀i,i<k->aS U i=i)->H.get (zD+1)=A (.row I 1 [[.az zD 0 n 1 (A n)]])->H.get zD=A (.row I 1 (eD U))->
  W (wZ (aK P aD) N m (.ptr (zD+1) 0 0) (.int .i64 n) (.int .i64 k) H) λr H'=>r= .ptr (zD+1) 0 0/\fr zD (List.range n) H'/\fZ (· =zD) H H'
 |_,_,0,_,_,_,hm,_,_,_,_=>aa
 |0,k,m+1,U,H,c,_,b,ar,a,g=>by
  have f:¬(k:Int)<(n:Int):=aa;have e:U=List.range n:=by
   apply List.ext_getElem?;grind[pR]
  subst e;refine bT @wZ.eq_2 @B0.eq_1 @HR.eq_1 ?_;exact aE.2 ⟨rfl,⟨Nl n,al,_,my.start n,g⟩,.refl _ _⟩
 |j+1,k,m+1,U,H,c,hm,b,ar,a,g=>by
  have d:k<n:=aa;have nN:aJ P H 30 (.ptr (zD+1) 0 0)=A (.az zD 0 n 1 (A n)):=by rw[eW aG a rfl];rfl
  have iT:=ae.bm g;refine dd @wZ.eq_2 @B0.eq_1 nN (im bV d) (D0 g (show k<U.length by omega) k) ?_;exact(PC aL j (k+1) m _ _ aa aa al (by grind[vu]) (by grind[ae.b_]) (ae.cO iT)).mono λr H' q=>⟨q.1,q.2.1,((fZ.refl (· =zD) H).pc (.inl rfl) _).trans q.2.2⟩
def ac9{n:Nat}(aL:n<=10000):W (aK P aD 186 [.int .i64 n] H) λr H'=>r= .ptr (H.next+1) 0 0/\fr H.next (List.range n) H'/\aw H H':=by
 refine afF (n+1) ?_;have h:∀(H0:ae),bD P H0 .max [3,3] [.int .i64 (n:Nat),.int .i64 0]=A (.int .i64 (n:Nat)):=λH0=>by
  show A (af.int .i64 (if(n:Int)<0 then _ else _))=_;rw[if_neg aa]
 have hn:∀(H0:ae),bD P H0 .min [3,3] [.int .i64 (n:Nat),.int .i64 10000]=A (.int .i64 (n:Nat)):=λH0=>by
  show A (af.int .i64 (if(10000:Int)<(n:Int)then _ else _))=_
  congr 2;split<;>omega
 obtain⟨zD,b⟩:∃zD,zD=H.next:=⟨_,rfl⟩
 have d:=aw.push H (.row I 1 (eD (List.replicate n 0)));have c:=aw.push (H.push (.row I 1 (eD (List.replicate n 0)))) (.row I 1 [[.az zD 0 n 1 (A n)]]);have a:=ae.a1 (H.push (.row I 1 (eD (List.replicate n 0)))) (.row I 1 [[.az zD 0 n 1 (A n)]]);have g:=c.get (ae.a1 H (.row I 1 (eD (List.replicate n 0))));have e:fl (zD+1) (.agg [.az zD 0 n 1 (A n)])=A (.ptr (zD+1) 0 0,.row I 1 [[.az zD 0 n 1 (A n)]]):=rfl;have nN:aJ P ((H.push (.row I 1 (eD (List.replicate n 0)))).push (.row I 1 [[.az zD 0 n 1 (A n)]])) 30 (.ptr (zD+1) 0 0)=A (.az zD 0 n 1 (A n)):=by
  simp only[ae.fW,<-b]at a;rw[eW aG a rfl];rfl
 simp only[ae.fW,<-b]at a g;refine ob @HQ.eq_1 h hn (λz=>Pc z n (show n<=1000000000 by omega)) b.symm (ag e nN) ?_;exact(PC aL n 0 _ _ _ aa aa aW (λi aP=>aa) a g).mono λr H' q=>⟨q.1,q.2.1,by
  have:=q.2.2.1;have ah:=d.1;have ai:=c.1;omega,λk f=>by
  rw[q.2.2.2 k (by simp;omega) (by simp;omega),c.2 k (by simp;omega),d.2 k f]⟩
theorem TI{ok:Nat->Prop}(w:∀k,ok k->k≠zD){l:List Nat}{a:Nat}(o:l[0]? =A a)(ar:l.length<=1000000000){lv:af}{N:Nat}:∀(j k m:Nat) (L:List Nat) (H:ae) (b:Bool),k+j=l.length->j<m->fr zD L H->L.length<=1000000->(∀x∈l,x<L.length)->aI aN H ok (aO l) lv->
  W (tU (aK P aD) N m (.ptr (zD+1) 0 0) lv (.bool b) lv (.int .i64 l.length) (.int .i64 k) H) λr H'=>∃b',r= .bool b'/\fr zD (lq L a (l.drop k)) H'/\fZ (· =zD) H H'/\(b'=J->b=J\/hO (lq L a (l.drop k))<hO L)/\(b'=I->b=I/\lq L a (l.drop k)=L)
 |_,_,0,_,_,_,_,hm,_,_,_,_=>aa
 |0,k,m+1,L,H,b,q,_,h,d,aF,i=>by
  have O:¬(k:Int)<(l.length:Int):=aa;refine bT @tU.eq_2 @w1.eq_1 @w2.eq_1 ?_;rw[List.drop_of_length_le aa];exact aE.2 ⟨b,rfl,h,.refl _ _,λe=> .inl e,λe=>⟨e,rfl⟩⟩
 |j+1,k,m+1,L,H,b,q,hm,h,d,aF,i=>by
  have s:k<l.length:=aa;have on:=TI w o ar (lv:=lv) (N:=N) j (k+1) m;obtain⟨p,i1,i2⟩:=i.int (j:=(k:Int)) (a:=((l[k]:Nat):Int)) aa (by simp[aO,s]);obtain⟨R,i3,i4⟩:=i.int (j:=0) (a:=((a:Nat):Int)) aa (by simp[aO,o]);have f:a<L.length:=aF a (List.mem_of_getElem? o);have aA:l[k]<L.length:=aF _ (List.getElem_mem s);rw[List.drop_eq_getElem_cons s,lq];generalize l[k]=c at*;have Q:=vq h.g f aA;refine bb @tU.eq_2 @w1.eq_1 i1 i2 i3 i4 ?_;refine cB (Zx h f aA d) ?_;rintro _ H1 ⟨rfl,ah,n⟩;refine⟨n.1,?_⟩;have z:∀x∈l,x<(gg L a c).length:=λx aH=>by grind[oL]
  have y:aI aN H1 ok (aO l) lv:=i.keep (.mut n λk q e=>w k q e);have B:=Ac (bs:=l.drop (k+1)) ah.g (by rw[oL];exact f) λx aH=>z x (List.mem_of_mem_drop aH)
  by_cases e:aS L a=aS L c
  ·have K:=td e;rw[K]at ah B ⊢;refine cu e @ne_eq.{1} not_true @HT.eq_1 ?_;exact(on L H1 b aa aa ah d aF y).mono λr H' ⟨b',t,u,v,E,G⟩=>⟨b',t,u,n.trans v,E,G⟩
  ·refine cu e @ne_eq.{1} @not_false_eq_true @HT.eq_1 ?_;have M:=Gw h.g f aA e;have hle:=B.rA;exact(on _ H1 J aa aa ah (by rw[oL];exact d) z y).mono λr H' ⟨b',t,u,v,E,G⟩=>⟨b',t,u,n.trans v,λ_=> .inr aa,al⟩
theorem TJ{ok:Nat->Prop}(g:∀k,ok k->k≠zD){l:List Nat}(ar:l.length<=1000000000){lv:af}{L:List Nat}(h:fr zD L H)(f:L.length<=1000000)(aF:∀x∈l,x<L.length)(d:aI aN H ok (aO l) lv):
  W (aK P aD 187 [.ptr (zD+1) 0 0,lv] H) λr H'=>∃b,r= .bool b/\fr zD (qH L l) H'/\fZ (· =zD) H H'/\(b=J->hO (qH L l)<hO L)/\(b=I->qH L l=L):=by
 refine afG (l.length+1) ?_;have hlen:(aO l).length=l.length:=by simp[aO]
 have i:=d.len bV (H0:=H);rw[hlen]at i;refine bT @HS.eq_1 (d.bf bV) hlen ?_;cases c:l with
 |nil=>
  subst c;refine bb @tU.eq_2 @w1.eq_1 @List.length_nil.{0} aa aa @w2.eq_1 ?_;exact aE.2 ⟨I,rfl,h,.refl _ _,(λe=>by cases e),λ_=>rfl⟩
 |cons a bs=>
  rw[<-c];refine(TI g (l:=l) (a:=a) al ar l.length 0 _ L H I aa aa h f aF d).mono λr H' ⟨b',j,m,n,o,p⟩=>⟨b',j,?_,n,?_,?_⟩
  all_goals rw[List.drop_zero,c,abl]at*
  ·exact m
  ·exactλe=>(o e).resolve_left b0
  ·exactλe=>(p e).2
end
end
section
open Go.a2
set_option maxRecDepth 2000
noncomputable def gj(L:List Nat)(i:Nat):List Nat:=db i λs=>aS L s=s
noncomputable def g2(L:List Nat)(r:Nat):Nat:=(gj L r).length
noncomputable def c2(L:List Nat):List (List Nat):=(gj L L.length).map λr=>db L.length λs=>aS L s=r
def qP:e0 af:=⟨1,λ_ _ v cs=>cs=[v]/\v.one=J,al,λ_ h=>h⟩
def Qn:Plain qP:=λh=>h
def j0(f:Nat->Nat)(R:List Nat):List (af×af):=R.map λr=>(.int .i64 (r:Nat),.int .i64 (f r:Nat))
theorem abo(a b:Nat):pO (TypeDesc.int .i64) (.int .i64 (a:Nat)) (.int .i64 (b:Nat))=A (decide (a=b)):=by
 grind[pO,decide_eq_false]
theorem EB(f:Nat->Nat)(r:Nat):∀(R:List Nat) (i:Nat),(r∉R->ow (TypeDesc.int .i64) (.int .i64 (r:Nat)) (j0 f R) i=A Z)/\(r∈R->∃j,ow (TypeDesc.int .i64) (.int .i64 (r:Nat)) (j0 f R) i=A (A (j,.int .i64 (f r:Nat))))
 |[],i=>⟨λ_=>rfl,λh=>al⟩
 |e::es,i=>by
  obtain⟨ah,ai⟩:=EB f r es (i+1);grind[j0,ow,abo]
theorem TR:P.underlying 293=A (.map 3 3):=aG
theorem TS:P.underlying 3=A (.int .i64):=aG
theorem z3:gb P 3=A (.int .i64 0):=aG
def F6{H:ae}{M:Nat}{f:Nat->Nat}{R:List Nat}(g:H.get M=A (.map (j0 f R))){r:Nat}(au:r∈R):mC P H 293 (.map M) (.int .i64 (r:Nat)) I=A (.int .i64 (f r:Nat)):=by
 grind[EB,mC,TR,TS,z3,plainKey]
def akG{H:ae}{M:Nat}{f:Nat->Nat}{R:List Nat}(g:H.get M=A (.map (j0 f R))){r:Nat}(au:r∉R):jU P H 293 (.map M) (.int .i64 (r:Nat)) (.int .i64 (f r:Nat))=A (H.set M (.map (j0 f (R++[r])))):=by
 have e:j0 f (R++[r])=j0 f R++[(.int .i64 (r:Nat),.int .i64 (f r:Nat))]:=by simp[j0]
 simp[jU,TR,TS,plainKey,g,(EB f r R 0).1 au,e]
section
variable {zD M:Nat}{L R:List Nat}{i:Nat}{H:ae}{ov:af}{dv:Nat->af}
structure jb(zD M:Nat)(L R:List Nat)(i:Nat)(H:ae)(ov:af)(dv:Nat->af):Prop where
 fd:fr zD L H
 mp:H.get M=some (.map (j0 (g2 L) R))
 out:aZ qP (M+1) ba H ((List.range R.length).map dv) ov
 nI:∀j r,R[j]? =some r->aZ aN (M+1) ba H (aO (db i λs=>aS L s=r)) (dv j)
 ht:∀j a K,j<R.length->a<R.length->dx (dv j)=some K->dx (dv a)=some K->j=a
 AE:∀j K,j<R.length->dx (dv j)=some K->dx ov≠some K
 gr:zD+1<M
def jb.mlt(h:jb zD M L R i H ov dv):M<H.next:=ae.bm h.mp
def jb.frame{H':ae}(h:jb zD M L R i H ov dv)(fd:fr zD L H')(aR:∀k,M<=k->k<H.next->H'.get k=H.get k):jb zD M L R i H' ov dv:=
 ⟨fd,(aR M (ds _) h.mlt).trans h.mp,h.out.frame Qn λK e=>aR K (by have:=(h.out.jy e).1;omega) (h.out.jy e).2,λj r a=>(h.nI j r a).frame fy λK e=>aR K (by have:=((h.nI j r a).jy e).1;omega) ((h.nI j r a).jy e).2,h.ht,h.AE,h.gr⟩
theorem jb.ir(h:jb zD M L R i H ov dv){j K:Nat}(a:j<R.length)(e:dx (dv j)=A K):M+1<=K/\K<H.next:=(h.nI j R[j] al).jy e
theorem Rq(L:List Nat)(i:Nat):gj L (i+1)=gj L i++(if aS L i=i then[i]else[]):=by
 grind[gj,m3]
open Classical in
theorem kW(m:Nat)(p:Nat->Prop):(db m p).length<=m:=by
 have:=List.length_filter_le (λs=>decide (p s)) (List.range m);rw[List.length_range]at this;exact this
theorem Ql{m:Nat}{p:Nat->Prop}{j d r:Nat}(h:(db m p)[j]? =A r)(cD:(db m p)[d]? =A r):j=d:=by
 obtain⟨a,b⟩:=List.getElem?_eq_some_iff.1 h;obtain⟨bY,b'⟩:=List.getElem?_eq_some_iff.1 cD;have s:=List.pairwise_iff_getElem.1 (vL m p);rcases Nat.lt_trichotomy j d with c|c|c
 ·grind
 ·exact c
 grind
theorem jb.root(h:jb zD M L R i H ov dv)(aP:i∉R)(Q:R.length=g2 L i)(E:db i (λs=>aS L s=i)=[])(S:R.length<=1000000):
  ∃d H',ej P ((H.set M (.map (j0 (g2 L) (R++[i])))).push (.row I 1 [[af.aq]])) [31,31] ov (.az H.next 0 1 1 (A 1))=A (d,H')/\H.next+1<=H'.next/\jb zD M L (R++[i]) i H' d (dp dv R.length .aq)/\(∀k,k<M->H'.get k=H.get k):=by
 have hm:=h.mlt;have t:∀k,k≠M->(H.set M (.map (j0 (g2 L) (R++[i])))).get k=H.get k:=λk v=>ae.b_ (Ne.symm v)
 have N:aZ qP (M+1) ba (H.set M (.map (j0 (g2 L) (R++[i])))) ((List.range R.length).map dv) ov:=h.out.frame Qn λK e=>t K (by have:=(h.out.jy e).1;omega)
 obtain⟨d,H',a6,bd,bo,bO,b3,cm⟩:=aZ.qU (K:=qP) (ok:=ba) (ok':=ba) dJ N (by simp;omega) (aw.refl _) (a:=af.aq) (cs:=[.aq]) ⟨rfl,rfl⟩ (λ_ _=>trivial) al;have x:(H.set M (.map (j0 (g2 L) (R++[i])))).next=H.next:=aW
 have low:∀k,k<M->H'.get k=H.get k:=λk v=>(bo.2 k aa).trans (t k aa)
 have O:∀k,M<k->k<H.next->dx ov≠A k->H'.get k=H.get k:=λk v T ar=>(b3 k aa λL n c e=>by rintro rfl;exact ar (by rw[e];rfl)).trans (t k aa)
 have G:dx d=dx ov\/dx d=A (H.next+1):=by
  rcases cm with e|⟨n,e⟩
  ·grind
  ·exact .inr (by rw[e,x];rfl)
 have nn:H.next+1<=H'.next:=aa
 rw[x]at a6;refine⟨d,H',a6,nn,⟨?_,?_,?_,?_,?_,?_,h.gr⟩,low⟩
 ·obtain⟨U,u,g⟩:=h.fd.u;have:=h.gr;exact⟨h.fd.g,(low _ aa).trans h.fd.f,U,u,(low _ aa).trans g⟩
 ·rw[bo.2 M aa];exact ae.cO hm
 ·grind[dp,List.map_congr_left,List.length_singleton,List.range_succ]
 ·intro j r b;by_cases e:j=R.length
  ·subst e;simp at b;subst b;rw[hl,E];exact aZ.nil aN _ _ _
  ·have m:j<R.length:=al;rw[List.getElem?_append_left m]at b;rw[fm _ _ e];exact(h.nI j r b).frame fy λK p=>O K (by have:=(h.ir m p).1;omega) (h.ir m p).2 (h.AE j K m p)
 ·intro j w K b B e l;simp at b B;by_cases q:j=R.length
  ·subst q;rw[hl]at e;cases e
  ·by_cases y:w=R.length
   ·subst y;rw[hl]at l;cases l
   ·rw[fm _ _ q]at e;rw[fm _ _ y]at l;exact h.ht j w K aa aa e l
 ·intro j K b e;simp at b;by_cases q:j=R.length
  ·subst q;rw[hl]at e;cases e
  ·rw[fm _ _ q]at e;rcases G with o|o
   ·rw[o];exact h.AE j K aa e
   ·rw[o];intro z;cases z;have:=(h.ir (by omega:j<R.length) e).2;omega
theorem jb.put(h:jb zD M L R i H ov dv){c:Nat}(aA:R[c]? =A (aS L i))(av:∀(j y r:Nat),R[j]? =A r->R[y]? =A r->j=y)(ap:i<=1000000):
  ∃O cap l H',ov= .az O 0 R.length 1 cap/\c<R.length/\(∀H1,(∀k,M<=k->k<H.next->(∀q,dx (dv c)=A q->k≠q)->H1.get k=H.get k)->aJ P H1 30 (.ptr O c 0)=A (dv c))/\
   ej P (H.push (.row I 1 [[.int .i64 (i:Nat)]])) [30,30] (dv c) (.az H.next 0 1 1 (A 1))=A (l,H')/\H.next+1<=H'.next/\(∀k,k<H.next->(∀q,dx (dv c)=A q->k≠q)->H'.get k=H.get k)/\
   ∃b,cz P H' 30 (.ptr O c 0) l=A (H'.set O b)/\jb zD M L R (i+1) (H'.set O b) ov (dp dv c l)/\M<O:=by
 have t:c<R.length:=(List.getElem?_eq_some_iff.1 aA).1;have hm:=h.mlt;have ak:=h.nI c _ aA;obtain⟨l,H',a6,bd,bo,bO,b3,cm⟩:=aZ.qU (K:=aN) (ok:=ba) (ok':=ba) bV ak aa (aw.refl _) (a:=(i:Int)) (cs:=[.int .i64 (i:Nat)]) rfl (λ_ _=>trivial) (by
  grind[kW,aO])
 have Q:∀k,k<H.next->(∀q,dx (dv c)=A q->k≠q)->H'.get k=H.get k:=λk w ar=>b3 k w λL n q e=>by rintro rfl;exact ar _ (by rw[e];rfl) rfl
 rcases h.out.eS with⟨_,e⟩|⟨O,els,cap,G,_,g,am,cc,ad⟩
 ·grind[List.length_nil]
 simp only[List.length_map,List.length_range]at G am cc;have aj:dx ov=A O:=by rw[G];rfl
 have W:=h.out.jy aj;have V:∀j,j<R.length->els[j]? =A [dv j]:=λj d=>by
  obtain⟨cs,ay,rfl,_⟩:=ad j (dv j) al;omega
 have S:∀j,j<R.length->∀q,dx (dv j)=A q->O≠q:=λj d q aH e=>h.AE j q d aH al
 have af:=(Q O W.2 λq aH=>S c t q aH).trans g;have v1:=bd.az.one;have Y:=dn v1;have low:∀k,k<M+1->H'.get k=H.get k:=λk w=>bo.2 k w
 have E:∀k,k≠O->(H'.set O (.row I 1 (els.set c [l]))).get k=H'.get k:=λk w=>ae.b_ (Ne.symm w)
 have ab:dx l=dx (dv c)\/dx l=A (H.next+1):=by
  rcases cm with e|⟨n,e⟩
  ·grind
  ·exact .inr (by rw[e];rfl)
 refine⟨O,cap,l,H',G,t,λH1 ah=> ?_,a6,bO,Q,.row I 1 (els.set c [l]),?_,⟨?_,?_,?_,?_,?_,?_,h.gr⟩,aa⟩
 ·rw[eW aG ((ah O aa W.2 (S c t)).trans g) (V c t)];rfl
 ·rw[fb (n:=1) aG af (e:=[dv c]) (V c t) (by rw[Y];rfl) al b0,Y];rfl
 ·obtain⟨U,u,ao⟩:=h.fd.u;have:=h.gr;exact⟨h.fd.g,by rw[E _ aa];exact(low _ aa).trans h.fd.f,U,u,al⟩
 ·rw[E _ aa,low _ aa];exact h.mp
 ·refine⟨.inr ⟨O,els.set c [l],cap,al,trivial,ae.cO aa,al,al,λj x d=> ?_⟩,λan n q e=>al⟩;have v:j<R.length:=al;simp[v]at d;subst d;by_cases q:j=c
  ·subst q;rw[hl];exact⟨[l],al,rfl,v1⟩
  ·rw[fm _ _ q];exact⟨[dv j],al,rfl,(h.nI j R[j] al).az.one⟩
 ·intro j r d;have v:j<R.length:=(List.getElem?_eq_some_iff.1 d).1;by_cases q:j=c
  ·subst q;rw[aA]at d;cases d;rw[hl];have N:aO (db (i+1) λs=>aS L s=aS L i)=aO (db i λs=>aS L s=aS L i)++[(i:Int)]:=by grind[m3,aO]
   rw[N];exact bd.frame fy λK z=>E K (by
    grind)
  ·rw[fm _ _ q];have au:aS L i≠r:=by
    grind
   have N:(db (i+1) λs=>aS L s=r)=db i λs=>aS L s=r:=by grind[m3]
   rw[N];exact(h.nI j r d).frame fy λK z=>by
    have ai:=h.ir v z;rw[E K λe=>S j v K z e.symm];exact Q K ai.2 λp ax e=>q (h.ht j c K v t z al)
 ·intro j y K d B e m;by_cases q:j=c<;>by_cases T:y=c
  ·omega
  ·subst q;rw[hl]at e;rw[fm _ _ T]at m;rcases ab with o|o
   ·rw[o]at e;exact h.ht _ _ K d B e m
   ·rw[o]at e;cases e;have:=(h.ir B m).2;omega
  ·subst T;rw[fm _ _ q]at e;rw[hl]at m;rcases ab with o|o
   ·rw[o]at m;exact h.ht _ _ K d B e m
   ·rw[o]at m;cases m;have:=(h.ir d e).2;omega
  ·rw[fm _ _ q]at e;rw[fm _ _ T]at m;exact h.ht j y K d B e m
 grind[hl,fm]
def A1(g:a2.Good L){r m:Nat}(au:aS L r=r)(hm:r<m):(gj L m)[g2 L r]? =A r:=Qk hm au
theorem vA{m r:Nat}:r∈gj L m↔r<m/\aS L r=r:=g4
theorem tz(m:Nat):(gj L m).length<=m:=kW m _
theorem SP{N:Nat}(Q:L.length<=1000000){H0:ae}(R:M=H0.next):∀(j k m:Nat) (H:ae) (ov:af) (dv:Nat->af),k+j=L.length->j<m->jb zD M L (gj L k) k H ov dv->fZ (· =zD) H0 H->
  W (rP (aK P aD) N m (.ptr (zD+1) 0 0) ov (.map M) (.int .i64 L.length) (.int .i64 k) H) λr H'=>∃d,jb zD M L (gj L L.length) L.length H' r d/\fZ (· =zD) H0 H'
 |_,_,0,_,_,_,_,hm,_,_=>aa
 |0,k,m+1,H,ov,dv,T,_,h,x=>by
  have aM:¬(k:Int)<(L.length:Int):=aa;have e:k=L.length:=aa;subst e;refine bT @rP.eq_2 @B3.eq_1 @tW.eq_1 ?_;grind[aE]
 |j+1,k,m+1,H,ov,dv,T,hm,h,x=>by
  have U:k<L.length:=aa;have on:=SP (N:=N) Q R j (k+1) m;refine bF @rP.eq_2 @B3.eq_1 ?_;refine cB (F1 h.fd U) ?_;rintro _ H1 ⟨rfl,f1,o⟩;refine⟨o.1,?_⟩;have aN:=h.gr;have ah:=h.frame f1 λq aH ab=>o.2 q ab aa
  have y:=x.trans o;have Nd:=h.fd.g.le k;have w:∀(a:ae) (c:af) (hv:Nat->af),jb zD M L (gj L (k+1)) k a c hv->fZ (· =zD) H0 a->
    W (w5 (aK P aD) N (rP (aK P aD) N m) (.ptr (zD+1) 0 0) c (.map M) (.int .i64 k) (.int .i64 (aS L k:Nat)) (.int .i64 L.length) (.int .i64 k) a) λr H'=>∃d,jb zD M L (gj L L.length) L.length H' r d/\fZ (· =zD) H0 H':=by
   intro a c hv ai z;have au:aS L (aS L k)=aS L k:=h.fd.g.id k;have aA:=A1 (m:=k+1) h.fd.g au aa;obtain⟨O,cap,B,aF,i,u,fE,ap,nn,t,b,st,ay,aJ⟩:=ai.put aA (λj aO r=>Ql) aa;have pp:=aw.push a (.row I 1 [[.int .i64 (k:Nat)]]);have l:aS L k∈gj L (k+1):=List.mem_of_getElem? aA;have ao:=F6 ai.mp l;have ar:=F6 (pp.get ai.mp) l;have S:=ai.mlt;have ak:∀q,dx (hv (g2 L (aS L k)))=A q->M≠q:=λq aH e=>by have:=(ai.ir u aH).1;omega
   have av:=F6 ((t M S ak).trans ai.mp) l;have am:=fE a λ_ _ _ _=>rfl
   have an:=fE (a.push (.row I 1 [[.int .i64 (k:Nat)]])) λq _ aH _=>pp.2 q aH
   have aL:cap=cap:=rfl;have aj:ct P 31 c (.int .i64 ((g2 L (aS L k):Nat):Int))=A (.ptr O (g2 L (aS L k)) 0):=by
    grind[nJ,dJ]
   have aB:af.beq (hv (g2 L (aS L k))) (hv (g2 L (aS L k)))=true:=((ai.nI _ _ aA).az).rd;have aC:bG (A (hv (g2 L (aS L k)))) (hv (g2 L (aS L k)))=true:=by simp[bG,aB]
   refine bb @w5.eq_1 @B4.eq_1 ao ar av (ag aj (ag am (ag an (ag @c3 (ag ap (ag st aC)))))) ?_;refine on _ c _ aa aa ay ?_;have aI:H0.next<=a.next:=z.1
   refine⟨by simp;omega,λq aH n=> ?_⟩;rw[ae.b_ aa,t q aa λp Y e=>by have:=(ai.ir u Y).1;omega];exact z.2 q aH n
  by_cases e:aS L k=k
  ·have i:(((aS L k:Nat):Int)==((k:Nat):Int))=true:=al;have hlen:=ah.out.az.len (K:=qP) dJ (H0:=H1);rw[List.length_map,List.length_range]at hlen;have v:∀H0,bD P H0 .len [31] [ov]=A (.int .i64 ((g2 L (aS L k):Nat):Int)):=λH0=>by
    have:=ah.out.az.len (K:=qP) dJ (H0:=H0);rw[List.length_map,List.length_range]at this;rw[this,e];rfl
   have V:aS L k∉gj L k:=λhm=>by grind[vA]
   have up:=akG (f:=g2 L) ah.mp V;have es:gj L (k+1)=gj L k++[k]:=by grind[Rq]
   obtain⟨B,a,E,aG,a3,a4⟩:=ah.root (λhm=>al) rfl (by
    have:∀s,s∉db k λs=>aS L s=k:=λs ad=>by
     have:=g4.1 ad;have:=h.fd.g.le s;omega
    exact List.eq_nil_iff_forall_not_mem.2 this) (by grind[tz])
   rw[e]at up;rw[e]at v;rw[e]at w;have ax:(H1.set M (.map (j0 (g2 L) (gj L k++[k])))).next=H1.next:=aW
   rw[e];simp only[mr,ME,beq_self_eq_true,Uo,hk,eU,v,Ut];have G:((H1.set M (.map (j0 (g2 L) (gj L k++[k])))).push (.row I 1 [[af.aq]])).next<=a.next:=by grind[ae.fW]
   rw[up,nr aW];simp only[nq,ax,E];rw[Ei G];refine w a B _ (by rw[es];omega) ⟨by have:=y.1;omega,λq aH n=> ?_⟩;rw[a4 q aa];exact y.2 q aH n
  ·have i:(((aS L k:Nat):Int)==((k:Nat):Int))=false:=beq_eq_false_iff_ne.2 λh=>e aa
   have es:gj L (k+1)=gj L k:=by grind[Rq]
   refine bK i ?_;grind
theorem SQ(h:fr zD L H)(w:L.length<=1000000):W (aK P aD 189 [.ptr (zD+1) 0 0] H) λr H'=>fr zD L H'/\aI (bp aN) H' (λk=>H.next<=k) ((c2 L).map aO) r/\fZ (· =zD) H H':=by
 refine afI (L.length+1) ?_;have t:bx P .eql 253 J (.ptr (zD+1) 0 0) .gC=A (.bool I):=aG;have v:=h.lt;have l:=aw.push H (.map []);have hlen:∀H0,bD P H0 .len [30] [.az zD 0 L.length 1 (A L.length)]=A (.int .i64 L.length):=λH0=>hN (e:=3) aG _ _ _ _ _
 refine cu @HW.eq_1 t ((h.aC l).nN) hlen ?_;have ah:jb zD H.next L (gj L 0) 0 (H.push (.map [])) .aq λ_=> .aq:=by
  have e:gj L 0=[]:=rfl;rw[e];exact⟨h.aC l,ae.a1 _ _,aZ.nil qP _ _ _,λj r c=>al,λj M K c=>al,λj K c=>al,v⟩
 refine(SP w rfl L.length 0 _ _ _ _ aa aa ah (l.mut _)).mono ?_;rintro r H' ⟨d,ai,B⟩;refine⟨ai.fd,?_,B⟩;have e:(c2 L).map aO=(gj L L.length).map λr=>aO (db L.length λs=>aS L s=r):=by simp[c2,Function.comp_def]
 rw[e];rcases ai.out.eS with⟨b,f⟩|⟨O,els,cap,b,_,g,y,cc,f⟩
 ·have:=congrArg List.length f;rw[List.length_map,List.length_range,List.length_nil]at this;rw[List.length_eq_zero_iff.1 this,b];exact .nil
 ·have G:=ai.out.jy (by rw[b];rfl:dx r=A O);simp only[List.length_map,List.length_range]at b y;refine .inr (.inl ⟨O,0,cap,I,els,by rw[b];simp[bp];rfl,aa,g,al,λj x c=> ?_⟩);have n:j<(gj L L.length).length:=al;obtain⟨cs,N,rfl,_⟩:=f j (d j) al;rw[List.getElem?_map,List.getElem?_eq_getElem n]at c;cases c;refine⟨[d j],al,d j,rfl,?_⟩;have m:=ai.nI j _ (List.getElem?_eq_getElem n);rcases m.eS with z|⟨p,u,q,o,Q,z3,z4,z5,E⟩
  ·exact .inl z
  ·refine .inr (.inl ⟨p,0,q,I,u,o,?_,z3,al,λi a aP=>by rw[Nat.zero_add];exact E i a aP⟩);have:=m.low _ _ _ o;omega
