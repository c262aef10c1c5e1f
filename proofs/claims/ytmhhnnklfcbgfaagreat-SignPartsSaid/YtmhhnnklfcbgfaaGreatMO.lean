/-
  Texts of one proof, laid together: Qm Qn SgG SgH ShF Ra Rb.
-/
import Derived.Test.YtmhhnnklfcbgfaaGreatMN
set_option linter.unusedVariables false
set_option linter.unusedSimpArgs false
set_option linter.defProp false
open Option renaming some→D,none→I
open Bool renaming true→C,false→Z
namespace Go.Proofs.YtmhhnnklfcbgfaaGreat
open Go.bz
section
open Go.a2
set_option maxRecDepth 2000
def sb:eW 152 31 1:=⟨aF,aF,⟨24,aF,bU⟩,⟨.aB,aF,rfl,rfl⟩,bU⟩
def Nc(H:ad)(ok:Nat->Prop)(p:dq)(v:ae):Prop:=∃nv fv,v= .agg [nv,fv]/\aO (b1 aT) H ok (p.nodes.map aX) nv/\aO (b1 (b1 aT)) H ok (p.fields.map (·.map aX)) fv
def mv(R:Nat)(H:ad):Nat->Prop:=λL=>R<L/\L<H.next
def bq.ES{B R:Nat}{H:ad}{l:List Int}{v:ae}(h:bq aT B bk H l v)(g:R<B):aO aT H (mv R H) l v:=by
 rcases h.e9 with af|⟨L,els,cap,a,i,b,k,m,d⟩
 ·exact .inl af
 ·exact .inr (.inl ⟨L,0,cap,Z,els,a,⟨by have:=h.low _ _ _ a;omega,ad.bE b⟩,b,aa,λj x c=>by
   obtain⟨cs,e,f⟩:=d j x c;exact⟨cs,by rw[Nat.zero_add];exact e,f⟩⟩)
def rA{R:Nat}{H H':ad}(aH:H.next<=H'.next)(aP:∀k,R<k->k<H.next->H'.get k=H.get k):e1 H (mv R H) H' (mv R H'):=λk b a g=>⟨⟨a.1,by have:=a.2;omega⟩,by rw[aP k a.1 a.2];exact g⟩
section
variable {n V a m:Nat}{l:List bB}{S:bt}{aV:List Int}{dv:Nat->ae}{es:List (Nat×Nat)}{H:ad}
def cj.out(h:cj n V a S aV dv es H){k:Nat}(i:a+7<=k)(al:∀o,o<=2*V->c_ (dv o)≠D k)(b:bn):cj n V a S aV dv es (H.set k b):=by
 have c:∀j,j≠k->(H.set k b).get j=H.get j:=λj f=>ad.cb (Ne.symm f)
 exact {h with
  b7:=by rw[c _ aa];exact h.b7,cQ:=by rw[c _ aa];exact h.cQ,eY:=by rw[c _ aa];exact h.eY,hp:=by rw[c _ aa];exact h.hp,gH:=by rw[c _ aa];exact h.gH,gr:=by rw[c _ aa];exact h.gr,du:=by rw[c _ aa];exact h.du
  g:=λv d=>(h.g v d).frame fP λL e=>c L (by rintro rfl;exact al v aa e)
  q:=λv d=>(h.q v d).frame nT λL e=>c L (by rintro rfl;exact al (V+v) aa e)
  w:=h.w.frame fP λL e=>c L (by rintro rfl;exact al (2*V) (bC _) e)}
def rm(V a:Nat)(dv:Nat->ae)(k:Nat):Prop:=a+7<=k/\∀o,o<=2*V->c_ (dv o)≠D k
def cj.nl(h:cj n V a S aV dv es H){k:Nat}(b:H.next<=k):rm V a dv k:=⟨by have:=h.lt;omega,λo aR e=>by have:=(h.j7 aR e).2;omega⟩
def yM{H:ad}{t zD x K:Nat}{nv:Nat->ae}{v:ae}(a1:cp P t=D 1)(g:H.get zD=D (.row Z 1 ((List.range K).map λk=>[nv k])))(aA:x<K)(b:v.one=C):cD P H t (.ptr zD x 0) v=D (H.set zD (.row Z 1 ((List.range K).map λk=>[dd nv x v k]))):=by
 have a:=dx b;rw[gf (n:=1) a1 g (e:=[nv x]) (by simp[aA]) (by rw[a];rfl) (by rw[a];simp[b]) bU,a,<-Bq aA];rfl
def Jf(T:V=n+m*8)(U:V<=1000000){zD R F:Nat}(M:zD<R){x6 x8:ae}{Q:ae->ad->Prop}{N:Nat}:∀(j k r:Nat) (nv:Nat->ae) (H:ad),k+j=n->j<r->cj n V a S aV dv es H->rm V a dv zD->R<H.next->H.get zD=D (.row Z 1 ((List.range n).map λi=>[nv i]))->H.get R=D (.row Z 2 [[.aD zD 0 n 1 (D n),.aD F 0 m 1 (D m)]])->(∀i,i<k->aO aT H (mv R H) (aX (Go.a2.bits (S.a i))) (nv i))->
  (∀(H':ad) (f:Nat->ae),cj n V a S aV dv es H'->H.next<=H'.next->(∀q,q<H.next->q≠zD->H'.get q=H.get q)->H'.get zD=D (.row Z 1 ((List.range n).map λi=>[f i]))->(∀i,i<n->aO aT H' (mv R H') (aX (Go.a2.bits (S.a i))) (f i))->W (wY (aQ P aK) N x6 x8 (.ptr (a+6) 0 0) (.ptr R 0 0) H') Q)->
  W (sN (aQ P aK) N r x6 x8 (.ptr (a+6) 0 0) (.ptr R 0 0) (.int .i64 n) (.int .i64 k) H) Q
 |_,_,0,_,_,_,am,_,_,_,_,_,_,_=>aa
 |0,k,r+1,nv,H,ag,_,h,_,_,p,_,al,fin=>by
  have s:¬(k:Int)<(n:Int):=aa;simp-implicitDefEqProofs(disch:=try exact ai)only[sN,wT,aj,aC,s,decide_false];exact fin H nv h (bC _) (λ_ _ _=>rfl) p λi ab=>al i aa
 |j+1,k,r+1,nv,H,ag,am,h,d,O,p,w,al,fin=>by
  have s:(k:Int)<(n:Int):=aa;have B:k<n:=aa;have on:=Jf T U M (F:=F) (x6:=x6) (x8:=x8) (Q:=Q) (N:=N) j (k+1) r;have K:∀{H1:ad},H1.get R=D (.row Z 2 [[.aD zD 0 n 1 (D n),.aD F 0 m 1 (D m)]])->aI P H1 31 (.ptr R 0 0)=D (.aD zD 0 n 1 (D n)):=λg=>by rw[e_ aF g rfl];rfl
  simp-implicitDefEqProofs(disch:=try exact ai)only[sN,wT,aj,aJ,aC,aL,s,decide_true,fo h.b7,fX oY (show k<V by omega),h.oS (show k<V by omega)];refine aZ (AQ (h.ew k)) ?_;rintro x H1 ⟨G,b⟩;refine⟨b.1,?_⟩;have af:=h.aE b;have v:=b.get p;have y:=b.get w;have ao:=ad.bE v;have st:=yM (t:=30) aF v B G.aD.one;have ap:∀l i n e c,bF (D (.aD l i n e c)) (.aD l i n e c)=true:=λl i n e c=>by simp[bF,ae.beq]
  simp-implicitDefEqProofs(disch:=try exact ai)only[aj,aJ,aC,aL,K y,K w,fX e4 B,st,ap,cq (show k<=1000000000 by omega)];have u:H.next<=(H1.set zD (.row Z 1 ((List.range n).map λi=>[dd nv k x i]))).next:=b.1
  have o:∀q,q<H1.next->q≠zD->(H1.set zD (.row Z 1 ((List.range n).map λi=>[dd nv k x i]))).get q=H1.get q:=λq _ aN=>ad.cb (Ne.symm aN)
  have z:∀q,q<H.next->q≠zD->(H1.set zD (.row Z 1 ((List.range n).map λi=>[dd nv k x i]))).get q=H.get q:=λq aN d=>(o q (by have:=b.1;omega) d).trans (b.2 q aN)
  refine on (dd nv k x) _ aa aa (af.out d.1 d.2 _) d (by have:=b.1;simp;omega) (ad.c8 ao) (by rw[o R (by have:=b.1;omega) aa];exact y) ?_ λH' f bY an Y L ak=>fin H' f bY (Nat.le_trans u an) (λq aN E=>(Y q (by simp at u ⊢;omega) E).trans (z q aN E)) L ak
  intro i ab;by_cases e:i=k
  ·subst e;rw[gp];exact(G.ES O).keep (rA (H:=H1) (by simp) λq af ah=>o q ah aa)
  ·rw[eo _ _ e];exact(al i aa).keep (rA u λq af ah=>z q ah aa)
def GS(am:V=n+m*8)(an:V<=1000000){zD R F E t W6:Nat}(ag:F<R)(ak:R<E)(a1:t<m){x8 x104:ae}{fv:Nat->ae}{L4:ae->ae->ae->ae->ae->ae->ad->O}{Q:ae->ad->Prop}{N:Nat}:∀(j k r:Nat) (b:Nat->ae) (H:ad),k+j=8->j<r->cj n V a S aV dv es H->rm V a dv E->E<H.next->H.get E=D (.row Z 1 ((List.range 8).map λi=>[b i]))->H.get R=D (.row Z 2 [[.aD zD 0 n 1 (D n),.aD F 0 m 1 (D m)]])->H.get F=D (.row Z 1 ((List.range m).map λi=>[fv i]))->fv t= .aD E 0 8 1 (D 8)->(∀i,i<k->aO aT H (mv E H) (aX (Go.a2.bits (S.a (c1 n t i)))) (b i))->
  (∀(H':ad) (o:Nat->ae),cj n V a S aV dv es H'->H.next<=H'.next->(∀q,q<H.next->q≠E->H'.get q=H.get q)->H'.get E=D (.row Z 1 ((List.range 8).map λi=>[o i]))->(∀i,i<8->aO aT H' (mv E H') (aX (Go.a2.bits (S.a (c1 n t i)))) (o i))->W (sK (aQ P aK) N L4 (.ptr W6 0 0) x8 (.ptr (a+6) 0 0) (.ptr R 0 0) x104 (.int .i64 t) H') Q)->
  W (sM (aQ P aK) N L4 r (.ptr W6 0 0) x8 (.ptr (a+6) 0 0) (.ptr R 0 0) (.int .i64 t) x104 (.int .i64 t) (.int .i64 8) (.int .i64 k) H) Q
 |_,_,0,_,_,_,au,_,_,_,_,_,_,_,_,_=>aa
 |0,k,r+1,b,H,aq,_,h,_,_,gH,_,_,_,al,fin=>by
  have v:¬(k:Int)<8:=aa;simp-implicitDefEqProofs(disch:=try exact ai)only[sM,wS,aj,aC,v,decide_false];exact fin H b h (bC _) (λ_ _ _=>rfl) gH λi ap=>al i aa
 |j+1,k,r+1,b,H,aq,au,h,u,ab,gH,s,p,B,al,fin=>by
  have v:(k:Int)<8:=aa;have G:k<8:=aa;have on:=GS am an (zD:=zD) (W6:=W6) ag ak a1 (x8:=x8) (x104:=x104) (fv:=fv) (L4:=L4) (Q:=Q) (N:=N) j (k+1) r;have az:c1 n t k<V:=by unfold c1;omega
  have T:∀{H1:ad},H1.get R=D (.row Z 2 [[.aD zD 0 n 1 (D n),.aD F 0 m 1 (D m)]])->aI P H1 152 (.ptr R 0 1)=D (.aD F 0 m 1 (D m)):=λg=>by rw[e_ aF g rfl];rfl
  have M:∀{H1:ad},H1.get F=D (.row Z 1 ((List.range m).map λi=>[fv i]))->aI P H1 31 (.ptr F t 0)=D (.aD E 0 8 1 (D 8)):=λg=>by rw[e_ aF g (e:=[fv t]) (by simp[a1])];rw[B];rfl
  simp-implicitDefEqProofs(disch:=try exact ai)only[sM,wS,aj,aC,v,decide_true];refine eu (oK h.b7 (by unfold c1 at az;omega)) ?_;simp-implicitDefEqProofs(disch:=try exact ai)only[aj,aJ,aL,fo h.b7,fX oY az,h.oS az];refine aZ (AQ (h.ew _)) ?_;rintro x H1 ⟨L,d⟩;refine⟨d.1,?_⟩;have af:=h.aE d;have z:=d.get gH;have aw:=ad.bE z;have st:=yM (t:=30) aF z G L.aD.one;have ax:∀l i n e c,bF (D (.aD l i n e c)) (.aD l i n e c)=true:=λl i n e c=>by simp[bF,ae.beq]
  simp-implicitDefEqProofs(disch:=try exact ai)only[aj,aJ,aC,aL,fo h.b7,T (d.get s),T s,fX sb a1,M p,M (d.get p),fX (V:=8) e4 G,st,ax,cq (show k<=1000000000 by omega)];have w:H.next<=(H1.set E (.row Z 1 ((List.range 8).map λi=>[dd b k x i]))).next:=d.1
  have y:∀q,q<H1.next->q≠E->(H1.set E (.row Z 1 ((List.range 8).map λi=>[dd b k x i]))).get q=H1.get q:=λq _ aN=>ad.cb (Ne.symm aN)
  have f:∀q,q<H.next->q≠E->(H1.set E (.row Z 1 ((List.range 8).map λi=>[dd b k x i]))).get q=H.get q:=λq aN Y=>(y q (by have:=d.1;omega) Y).trans (d.2 q aN)
  refine on (dd b k x) _ aa aa (af.out u.1 u.2 _) u (by have:=d.1;simp;omega) (ad.c8 aw) (by rw[f R aa aa];exact s) (by rw[f F aa aa];exact p) B ?_ λH' o bY av ao U ar=>fin H' o bY (Nat.le_trans w av) (λq aN K=>(ao q (by simp at w ⊢;omega) K).trans (f q aN K)) U ar
  intro i ap;by_cases e:i=k
  ·subst e;rw[gp];exact(L.ES ab).keep (rA (H:=H1) (by simp) λq af ah=>y q ah aa)
  ·rw[eo _ _ e];exact(al i aa).keep (rA w λq af ah=>f q ah aa)
def yJ{α:Type}{K:ek α}{H:ad}{ok:Nat->Prop}{zD c:Nat}{nv:Nat->ae}{f:Nat->List α}(d:ok zD)(g:H.get zD=D (.row Z 1 ((List.range c).map λi=>[nv i])))(al:∀i,i<c->aO K H ok (f i) (nv i)):aO (b1 K) H ok ((List.range c).map f) (.aD zD 0 c 1 (D c)):=by
 refine .inr (.inl ⟨zD,0,D c,Z,_,by simp[b1],d,g,by simp,λj x a=> ?_⟩);have b:j<c:=by have:=(List.getElem?_eq_some_iff.1 a).1;simpa using this
 simp[b]at a;subst a;exact⟨[nv j],by simp[b],nv j,rfl,al j b⟩
def LG(U:V=n+m*8)(Y:V<=1000000){zD R F W6:Nat}(K:F<R){x8:ae}{Q:ae->ad->Prop}{N:Nat}(O:8<N):∀(j k r:Nat) (fv:Nat->ae) (H:ad),k+j=m->j<r->cj n V a S aV dv es H->rm V a dv F->R<H.next->W6<F->H.get W6=D (.row Z 1 [[.int .i64 8]])->H.get R=D (.row Z 2 [[.aD zD 0 n 1 (D n),.aD F 0 m 1 (D m)]])->H.get F=D (.row Z 1 ((List.range m).map λi=>[fv i]))->(∀i,i<k->aO (b1 aT) H (mv R H) ((List.range 8).map λf=>aX (Go.a2.bits (S.a (c1 n i f)))) (fv i))->
  (∀(H':ad) (p:Nat->ae),H.next<=H'.next->(∀q,q<H.next->q≠F->H'.get q=H.get q)->H'.get F=D (.row Z 1 ((List.range m).map λi=>[p i]))->(∀i,i<m->aO (b1 aT) H' (mv R H') ((List.range 8).map λf=>aX (Go.a2.bits (S.a (c1 n i f)))) (p i))->W (qG (aQ P aK) N x8 (.ptr R 0 0) H') Q)->
  W (sL (aQ P aK) N r (.ptr W6 0 0) x8 (.ptr (a+6) 0 0) (.ptr R 0 0) (.int .i64 m) (.int .i64 k) H) Q
 |_,_,0,_,_,_,aH,_,_,_,_,_,_,_,_,_=>aa
 |0,k,r+1,fv,H,ay,_,h,_,_,_,_,_,s,al,fin=>by
  have B:¬(k:Int)<(m:Int):=aa;simp-implicitDefEqProofs(disch:=try exact ai)only[sL,wR,aj,aC,B,decide_false];exact fin H fv (bC _) (λ_ _ _=>rfl) s λi ag=>al i aa
 |j+1,k,r+1,fv,H,ay,aH,h,z,T,aw,d,u,s,al,fin=>by
  have B:(k:Int)<(m:Int):=aa;have E:k<m:=aa;have on:=LG U Y (zD:=zD) K (W6:=W6) (x8:=x8) (Q:=Q) O j (k+1) r;have am:∀{H1:ad},H1.get R=D (.row Z 2 [[.aD zD 0 n 1 (D n),.aD F 0 m 1 (D m)]])->aI P H1 152 (.ptr R 0 1)=D (.aD F 0 m 1 (D m)):=λg=>by rw[e_ aF g rfl];rfl
  have x:=av.push H (.row Z 1 ((List.range 8).map λ_=>[ae.aB]));have af:=h.aE x;have G:=x.get s;have ak:=ad.bE G;have st:=yM (t:=31) (v:= .aD H.next 0 8 1 (D 8)) aF G E rfl;have aP:∀l i n e c,bF (D (.aD l i n e c)) (.aD l i n e c)=true:=λl i n e c=>by simp[bF,ae.beq]
  have mk:=vU H.next 8 aa
  have aW:=ad.bE s;have ao:((H.push (.row Z 1 ((List.range 8).map λ_=>[ae.aB]))).set F (.row Z 1 ((List.range m).map λi=>[dd fv k (.aD H.next 0 8 1 (D 8)) i]))).get H.next=D (.row Z 1 ((List.range 8).map λ_=>[ae.aB])):=by rw[ad.cb aa];exact ad.a_ _ _
  have y:∀q,q<H.next->q≠F->((H.push (.row Z 1 ((List.range 8).map λ_=>[ae.aB]))).set F (.row Z 1 ((List.range m).map λi=>[dd fv k (.aD H.next 0 8 1 (D 8)) i]))).get q=H.get q:=λq aN b=>by rw[ad.cb (Ne.symm b)];exact x.2 q aN
  have au:=(y W6 (ad.bE d) aa).trans d;have mk':f_ (g9 P ⟨.leaf,H.next⟩ 31 (.int .i64 8) (.int .i64 8)) H.next=D (.aD H.next 0 8 1 (D 8),.row Z 1 ((List.range 8).map λ_=>[.aB])):=mk
  simp-implicitDefEqProofs(disch:=try exact ai)only[sL,wR,aj,aJ,aC,aL,B,decide_true,am u,am (x.get u),hr d,mk',fX sb E,st,aP,hr au];refine GS U Y (zD:=zD) (F:=F) K T E 8 0 N (λ_=> .aB) _ aa O (af.out z.1 z.2 _) (h.nl (bC _)) (by simp) ao ((y R aa aa).trans u) (ad.c8 ak) (gp _ _ _) (λi ag=>aa) ?_;intro o aU an aM ab ap aG;simp-implicitDefEqProofs(disch:=try exact ai)only[sK,aj,aC,cq (show k<=1000000000 by omega)];have aS:H.next+1<=o.next:=by simpa using aM
  have w:∀q,q<H.next->q≠F->o.get q=H.get q:=λq aN b=>(ab q (by simp;omega) aa).trans (y q aN b)
  have ar:o.get F=D (.row Z 1 ((List.range m).map λi=>[dd fv k (.aD H.next 0 8 1 (D 8)) i])):=by rw[ab F (by simp;omega) aa];exact ad.c8 ak
  refine on (dd fv k (.aD H.next 0 8 1 (D 8))) o aa aa an z aa aw ((w W6 (ad.bE d) aa).trans d) ((w R aa aa).trans u) ar ?_ λH' p aR ax aq aA=>fin H' p aa (λq aN b=>(ax q aa b).trans (w q aN b)) aq aA
  intro i ag;by_cases e:i=k
  ·subst e;rw[gp];exact yJ ⟨T,aa⟩ ap λf az=>(aG f az).keep (.le λL M=>⟨by have:=M.1;omega,M.2⟩)
  ·rw[eo _ _ e];exact(al i aa).keep (rA aa λq af ah=>w q ah aa)
end
end
section
open Go.a2
set_option maxRecDepth 2000
set_option maxHeartbeats 4000000
def DX{H:ad}{L:Nat}{x y u v:ae}(h:H.get L=D (.row Z 2 [[u,v]]))(aA:x.one=C)(a:y.one=C):cD P H 154 (.ptr L 0 0) (.agg [x,y])=D (H.set L (.row Z 2 [[x,y]])):=by
 rw[gf (n:=2) aF h rfl rfl (by simp[ae.cells,aA,a]) bU];simp[ae.cells,eZ]
def oV{H:ad}{L:Nat}{u v:ae}(h:H.get L=D (.row Z 2 [[u,v]])):aI P H 154 (.ptr L 0 0)=D (.agg [u,v]):=gY (n:=2) (i:=0) (c:=0) aF aF h rfl bU
def kB{H:ad}{L:Nat}{u v:ae}(h:H.get L=D (.row Z 2 [[u,v]])):aI P H 31 (.ptr L 0 0)=D u/\aI P H 152 (.ptr L 0 1)=D v:=by
 refine⟨?_,?_⟩
 ·rw[e_ aF h rfl];rfl
 ·rw[e_ aF h rfl];rfl
section
variable {H:ad}{ok:Nat->Prop}
def Wv{n m:Nat}{l:List bB}{lv:ae}(M:gE n m l)(aH:n<=70000)(cG:0<n)(hm:m<=60)(al:l.length<=800000000)(a9:aO e0 H ok l lv):
  W (aQ P aK 130 [.int .i64 n,.int .i64 m,.int .i64 8,lv] H) λr H'=>∃bu,r= .tuple [bu,.int .i64 0]/\Nc H' (λL=>H.next<=L/\L<H'.next) (gJ n m l) bu/\av H H':=by
 obtain⟨V,u⟩:∃V,V=n+m*8:=⟨_,rfl⟩;refine Xy (l.length+V+100) ?_;have bt:av H ((((H.push (.row Z 1 [[.int .i64 (n:Nat)]])).push (.row Z 1 [[.int .i64 (m:Nat)]])).push (.row Z 1 [[.int .i64 8]])).push (.row Z 2 [[.aB,.aB]])):=(((av.push _ _).trans (av.push _ _)).trans (av.push _ _)).trans (av.push _ _);have s:mw ((((H.push (.row Z 1 [[.int .i64 (n:Nat)]])).push (.row Z 1 [[.int .i64 (m:Nat)]])).push (.row Z 1 [[.int .i64 8]])).push (.row Z 2 [[.aB,.aB]])) H.next (H.next+1) (H.next+1+1) n m 8:=by
  refine⟨?_,?_,?_⟩<;>simp-implicitDefEqProofs(disch:=try exact ai)only[oM]<;>rfl
 have U:((((H.push (.row Z 1 [[.int .i64 (n:Nat)]])).push (.row Z 1 [[.int .i64 (m:Nat)]])).push (.row Z 1 [[.int .i64 8]])).push (.row Z 2 [[.aB,.aB]])).get (H.next+1+1+1)=D (.row Z 2 [[.aB,.aB]]):=by simp-implicitDefEqProofs(disch:=try exact ai)only[oM]
 have d1:decide ((0:Int)<=(n:Int)/\(n:Int)<70001)=true:=by simp;omega
 have d2:decide ((0:Int)<=(m:Int)/\(m:Int)<61)=true:=by simp;omega
 have d3:decide ((0:Int)<=(8:Int)/\(8:Int)<9)=true:=bU;have e3:mw ((((H.push (.row Z 1 [[.int .i64 (n:Nat)]])).push (.row Z 1 [[.int .i64 (m:Nat)]])).push (.row Z 1 [[.int .i64 8]])).push (.row Z 2 [[.aB,.aB]])) H.next (H.next+1) (H.next+1+1) n m 8:=s
 have au:aI P ((((H.push (.row Z 1 [[.int .i64 (n:Nat)]])).push (.row Z 1 [[.int .i64 (m:Nat)]])).push (.row Z 1 [[.int .i64 8]])).push (.row Z 2 [[.aB,.aB]])) 3 (.ptr (H.next+1+1) 0 0)=D (.int .i64 8):=hr s.c;simp-implicitDefEqProofs(disch:=try exact ai)only[BS,Nat.reduceAdd,aj,aJ,ad.dm,FE];generalize b8:((((H.push (.row Z 1 [[.int .i64 (n:Nat)]])).push (.row Z 1 [[.int .i64 (m:Nat)]])).push (.row Z 1 [[.int .i64 8]])).push (.row Z 2 [[.aB,.aB]]))=H0 at*;have cE:H0.next=H.next+4:=by rw[<-b8];simp
 obtain⟨A,b5⟩:∃A,A=H.next:=⟨_,rfl⟩
 rw[<-b5]at s U au e3 ⊢;obtain⟨B,b6⟩:∃B,B=A+1:=⟨_,rfl⟩;rw[<-b6]at s U au e3 ⊢;obtain⟨zC,b7⟩:∃zC,zC=B+1:=⟨_,rfl⟩;rw[<-b7]at s U au e3 ⊢;obtain⟨d,b9⟩:∃d,d=zC+1:=⟨_,rfl⟩;rw[<-b9]at U ⊢;simp-implicitDefEqProofs(disch:=try exact ai)only[aj,hr s.a];refine eu (yU _ _) ?_;simp-implicitDefEqProofs(disch:=try exact ai)only[aj,d1,hr s.b];refine ko (yU _ _) ?_;simp-implicitDefEqProofs(disch:=try exact ai)only[aj,d1,d2,au];refine ko (yU _ _) ?_;simp-implicitDefEqProofs(disch:=try exact ai)only[aj,d3,Bool.not_true];refine cx (PR M aa (a9.aE bt) s) ?_;rintro _ K ⟨rfl,aw⟩;refine⟨aw.1,?_⟩;have e:=s.aE aw;have bk:=aw.get U
 have ak:=bt.trans aw;have cl:aI P K 3 (.ptr zC 0 0)=D (.int .i64 8):=hr e.c;have bI:bm P .mul 3 Z (.int .i64 (m:Int)) (.int .i64 8)=D (.int .i64 ((m*8:Nat):Int)):=by
  show D (ae.int .i64 (IntKind.i64.wrap ((m:Int)*8)))=_;rw[wrap_i64 aa aa];simp
 have cu:IntKind.i64.wrap ((n:Int)+((m*8:Nat):Int))=((V:Nat):Int):=by rw[wrap_i64 aa aa];omega
 have ao:V<=1000000000:=aa;simp-implicitDefEqProofs(disch:=try exact ai)only[aj,aC,hr e.a,hr e.b,cl,bI,cu];obtain⟨a,ap⟩:∃a,a=K.next:=⟨_,rfl⟩
 have bR:=av.push K (.row Z 1 (gl (List.replicate V 0)));generalize a1:K.push (.row Z 1 (gl (List.replicate V 0)))=az at*;have cJ:az.next=a+1:=by rw[<-a1,ap];simp
 have b0:=av.push az (.row Z 1 ((List.range V).map λ_=>[.aB]));generalize a3:az.push (.row Z 1 ((List.range V).map λ_=>[.aB]))=aA at*;have bc:aA.next=a+2:=by rw[<-a3];simp[cJ]
 have ba:=av.push aA (.row Z 1 ((List.range V).map λ_=>[.aB]));generalize a4:aA.push (.row Z 1 ((List.range V).map λ_=>[.aB]))=aF at*;have bd:aF.next=a+3:=by rw[<-a4];simp[bc]
 have ar:=av.push aF (.row Z 1 (gl (List.replicate V 0)));generalize a5:aF.push (.row Z 1 (gl (List.replicate V 0)))=aM at*;have be:aM.next=a+4:=by rw[<-a5];simp[bd]
 have ag:=av.push aM (.map []);generalize a6:aM.push (.map [])=aP at*;have n5:aP.next=a+5:=by rw[<-a6];simp[be]
 have N:=av.push aP (.row Z 1 (dw (List.replicate V Z)));generalize a7:aP.push (.row Z 1 (dw (List.replicate V Z)))=aR at*;have n6:aR.next=a+6:=by rw[<-a7];simp[n5]
 have E:=av.push aR (.row Z 9 [hv n V a λ_=> .aB]);generalize a8:aR.push (.row Z 9 [hv n V a λ_=> .aB])=o at*;have n7:o.next=a+7:=by rw[<-a8];simp[n6]
 have t2:=bR.trans b0;have t3:=t2.trans ba;have t4:=t3.trans ar;have t5:=t4.trans ag;have t6:=t5.trans N;have t7:=t6.trans E;have bY:o.get a=D (.row Z 1 (gl (List.replicate V 0))):=(((((b0.trans ba).trans ar).trans ag).trans N).trans E).get (by rw[<-a1,ap];exact ad.a_ _ _);have bZ:o.get (a+1)=D (.row Z 1 ((List.range V).map λ_=>[.aB])):=((((ba.trans ar).trans ag).trans N).trans E).get (by rw[<-a3,<-cJ];exact ad.a_ _ _);have b4:o.get (a+2)=D (.row Z 1 ((List.range V).map λ_=>[.aB])):=(((ar.trans ag).trans N).trans E).get (by rw[<-a4,<-bc];exact ad.a_ _ _);have ge:o.get (a+3)=D (.row Z 1 (gl (List.replicate V 0))):=((ag.trans N).trans E).get (by rw[<-a5,<-bd];exact ad.a_ _ _)
 have b2:o.get (a+4)=D (.map []):=(N.trans E).get (by rw[<-a6,<-be];exact ad.a_ _ _);have gw:o.get (a+5)=D (.row Z 1 (dw (List.replicate V Z))):=E.get (by rw[<-a7,<-n5];exact ad.a_ _ _);have b3:o.get (a+6)=D (.row Z 9 [hv n V a λ_=> .aB]):=by rw[<-a8,<-n6];exact ad.a_ _ _
 have sv:=cj.start b3 bY bZ b4 ge b2 gw;have bD:dU P 248 [(0,.int .i64 (n:Nat)),(1,.int .i64 8),(2,.aD a 0 V 1 (D V)),(3,.aD (a+1) 0 V 1 (D V)),(4,.aD (a+2) 0 V 1 (D V)),(5,.aD (a+3) 0 V 1 (D V)),(6,.map (a+4)),(8,.aD (a+5) 0 V 1 (D V))]=D (.agg (hv n V a λ_=> .aB)):=Fm rfl rfl rfl rfl rfl rfl rfl rfl;have bG:fe (a+6) (.agg (hv n V a λ_=> .aB))=D (.ptr (a+6) 0 0,.row Z 9 [hv n V a λ_=> .aB]):=rfl;have z:∀{H1:ad},av K H1->aI P H1 3 (.ptr A 0 0)=D (.int .i64 (n:Nat))/\aI P H1 3 (.ptr zC 0 0)=D (.int .i64 8):=λp=>⟨hr (e.aE p).a,hr (e.aE p).c⟩
 simp only[<-ap,a1,cJ,a3,bc,a4,bd,a5,be,a6,n5,a7,n6,a8,Vm _ V ao,vU _ V ao,Vp _ V ao,A4 _ V ao,nb,bD,bG,na];simp-implicitDefEqProofs(disch:=try exact ai)only[br,aj,aJ,z (av.refl K),z bR,z t2,z t3,z t4,z t5,z t6,(a9.aE ak).len ly];have ab:V<=1000000:=aa;have cc:aO e0 o (· <a) l lv:=by
  have:=(a9.aE ak).below;rw[<-ap]at this;exact this.aE t7
 refine Fw M hm u ab al l.length 0 _ (fr V) [] (λ_=> .aB) [] o aa aa sv (by rw[u];exact fG.start n m l) (λv=>by
  have:(fr V).q v=[]:=kx;rw[this];exact Nat.zero_le _) cc ?_
 intro bh cw rM bJ bz cn f1 bK cf;obtain⟨bx,-,bp⟩:=fG.Fv hm M (cs:=l) (fG.start n m l) λ_ h=>h
 rw[<-u,<-List.drop_zero (l:=l),<-bK,List.drop_zero]at bx bp;simp-implicitDefEqProofs(disch:=try exact ai)only[wW];refine IK u ab V 0 _ bh cw rM bJ bz aa aa cn ?_;intro bC cL hk cB cz co f2 bj;obtain⟨i2,bq⟩:=dH.looks ((List.range V).drop 0) bh bx.i (λv ch=>by rw[<-u];simpa using ch) bp;rw[<-bj]at i2 bq;have cg:∀v,(bC.q v).length<=1000000000:=λv=>by rw[bj,II];have:=cf v;omega
 simp-implicitDefEqProofs(disch:=try exact ai)only[wX,aj];refine aZ (SM co M u aa ab hm i2 cg) ?_;rintro _ G ⟨rfl,aS,cM,mI,cC,bb,i3,bL,cv,f3⟩;refine⟨f3.1,?_⟩;have bo:∀v,Go.a2.bits (aS.a v)=cY m (dG n l v):=λv=>dH.list M hm (dH.final M i3 (λc aq=>(bq c aq).oL bL.b) cv) v
 have pu:=sv.gy ((f1.trans f2).trans f3);have ci:A<a:=by have:=ad.bE e.a;omega
 have mO:B<a:=by have:=ad.bE e.b;omega
 have ck:zC<a:=by have:=ad.bE e.c;omega
 have kA:d<a:=by have:=ad.bE bk;omega
 have an:mw G A B zC n m 8:=⟨(pu.2 A ci).trans (t7.get e.a),(pu.2 B mO).trans (t7.get e.b),(pu.2 zC ck).trans (t7.get e.c)⟩;have bW:G.get d=D (.row Z 2 [[.aB,.aB]]):=(pu.2 d kA).trans (t7.get bk);have cA:=bb.lt;obtain⟨zD,aW⟩:∃zD,zD=G.next:=⟨_,rfl⟩
 have bv:=av.push G (.row Z 1 ((List.range n).map λ_=>[.aB]));generalize aY:G.push (.row Z 1 ((List.range n).map λ_=>[.aB]))=ay at*;have bf:ay.next=zD+1:=by rw[<-aY,aW];simp
 have bw:=av.push ay (.row Z 1 ((List.range m).map λ_=>[.aB]));generalize a0:ay.push (.row Z 1 ((List.range m).map λ_=>[.aB]))=t at*;have ah:t.next=zD+2:=by rw[<-a0];simp[bf]
 have bg:=av.push t (.row Z 2 [[.aD zD 0 n 1 (D n),.aD (zD+1) 0 m 1 (D m)]]);have cr:cD P (t.push (.row Z 2 [[.aB,.aB]])) 154 (.ptr (zD+2) 0 0) (.agg [.aD zD 0 n 1 (D n),.aD (zD+1) 0 m 1 (D m)])=D (t.push (.row Z 2 [[.aD zD 0 n 1 (D n),.aD (zD+1) 0 m 1 (D m)]])):=by
  have g:=ad.a_ t (.row Z 2 [[.aB,.aB]]);rw[ah]at g;rw[DX g rfl rfl,<-ah,ad.kH]
 generalize bn:t.push (.row Z 2 [[.aD zD 0 n 1 (D n),.aD (zD+1) 0 m 1 (D m)]])=Q at*;have cK:Q.next=zD+3:=by rw[<-bn];simp[ah]
 have aU:Q.get (zD+2)=D (.row Z 2 [[.aD zD 0 n 1 (D n),.aD (zD+1) 0 m 1 (D m)]]):=by rw[<-bn,<-ah];exact ad.a_ _ _
 have bQ:Q.get (zD+1)=D (.row Z 1 ((List.range m).map λ_=>[.aB])):=bg.get (by rw[<-a0,<-bf];exact ad.a_ _ _);have bN:Q.get zD=D (.row Z 1 ((List.range n).map λ_=>[.aB])):=(bw.trans bg).get (by rw[<-aY,aW];exact ad.a_ _ _);have ax:=(bv.trans bw).trans bg;have cp:=bb.aE ax;have bF:dU P 154 [(0,.aD zD 0 n 1 (D n)),(1,.aD (zD+1) 0 m 1 (D m))]=D (.agg [.aD zD 0 n 1 (D n),.aD (zD+1) 0 m 1 (D m)]):=Fk rfl rfl;have bH:=an.aE bv;have ce:n<=1000000000:=aa;have cd:m<=1000000000:=aa;have cy:∀(k:ae->ad->O),fu t [.aB,.aB] k=k (.ptr (zD+2) 0 0) (t.push (.row Z 2 [[.aB,.aB]])):=λk=>by rw[mq,mr,ah];rfl
 simp only[hr an.a,na,<-aW,vU _ n ce,nb,MZ,aY,bf,hr bH.b,Vo _ m cd,a0,bF,cy,cr,hr an.b];simp-implicitDefEqProofs(disch:=try exact ai)only[br,aj,aJ,aL,sa,kB aU];have bs:∀k,G.next<=k->rm V a mI k:=λk j=>bb.nl j
 refine Jf u ab (R:=zD+2) (F:=zD+1) aa n 0 _ (λ_=> .aB) Q aa aa cp (bs zD aa) aa bN aU (λi af=>aa) ?_;intro bA nv cq cH S bO b_;have aV:=(S (zD+2) aa aa).trans aU;have bS:=(S (zD+1) aa aa).trans bQ;have bi:=an.aE ax;have bM:=(S zC (ad.bE bi.c) aa).trans bi.c;simp-implicitDefEqProofs(disch:=try exact ai)only[wY,br,aj,aJ,aL,sa,kB aV];refine LG u ab (zD:=zD) (R:=zD+2) (F:=zD+1) (W6:=zC) aa aa m 0 _ (λ_=> .aB) bA aa aa cq (bs (zD+1) aa) aa aa bM aV bS (λi af=>aa) ?_;intro w fv cI T bT ca;have bV:=(T (zD+2) aa aa).trans aV;have bP:=(T zD aa aa).trans bO;have cF:d<zD:=aa;have bl:w.get d=D (.row Z 2 [[.aB,.aB]]):=((T d aa aa).trans (S d aa aa)).trans (ax.get bW)
 have cm:=ad.bE bl;have ct:=DX (x:= .aD zD 0 n 1 (D n)) (y:= .aD (zD+1) 0 m 1 (D m)) bl rfl rfl;have bX:(w.set d (.row Z 2 [[.aD zD 0 n 1 (D n),.aD (zD+1) 0 m 1 (D m)]])).get d=D (.row Z 2 [[.aD zD 0 n 1 (D n),.aD (zD+1) 0 m 1 (D m)]]):=ad.c8 cm;simp-implicitDefEqProofs(disch:=try exact ai)only[qG,aj,oV bV,ct,oV bX];have Y:∀q,q≠d->(w.set d (.row Z 2 [[.aD zD 0 n 1 (D n),.aD (zD+1) 0 m 1 (D m)]])).get q=w.get q:=λq aN=>ad.cb (Ne.symm aN)
 have n9:(w.set d (.row Z 2 [[.aD zD 0 n 1 (D n),.aD (zD+1) 0 m 1 (D m)]])).next=w.next:=by simp
 generalize w.set d (.row Z 2 [[.aD zD 0 n 1 (D n),.aD (zD+1) 0 m 1 (D m)]])=am at*;refine aG.2 ⟨_,rfl,⟨_,_,rfl,?_,?_⟩,?_,?_⟩
 ·have:=yJ (K:=aT) (H:=am) (ok:=λL=>A<=L/\L<am.next) (zD:=zD) (c:=n) (nv:=nv) (f:=λi=>aX (Go.a2.bits (aS.a i))) ⟨aa,aa⟩ ((Y zD aa).trans bP) λi af=>(b_ i af).keep λk b j g=>⟨⟨by have:=j.1;omega,by have:=j.2;omega⟩,by rw[Y k (by have:=j.1;omega),T k j.2 (by have:=j.1;omega)];exact g⟩
  simpa [gJ,hZ,bo,Function.comp_def]using this
 ·have:=yJ (K:=b1 aT) (H:=am) (ok:=λL=>A<=L/\L<am.next) (zD:=zD+1) (c:=m) (nv:=fv) (f:=λi=>(List.range 8).map λf=>aX (Go.a2.bits (aS.a (c1 n i f)))) ⟨aa,aa⟩ ((Y (zD+1) aa).trans bT) λi af=>(ca i af).keep λk b j g=>⟨⟨by have:=j.1;omega,by have:=j.2;omega⟩,by rw[Y k (by have:=j.1;omega)];exact g⟩
  simpa [gJ,hZ,bo,Function.comp_def,c1]using this
 ·have:=ak.1;omega
 ·intro q aN;rw[Y q aa,T q aa aa,S q aa aa,ax.2 q aa,pu.2 q aa,t7.2 q (by have:=ak.1;omega),ak.2 q aa]
end
end
end Go.Proofs.YtmhhnnklfcbgfaaGreat
namespace Go.a2
open Go.bz
section
open Classical
def aW(L:List Nat)(i:Nat):Nat:=L.getD i i
structure Good(L:List Nat):Prop where
 le:∀i,aW L i<=i
 id:∀i,aW L (aW L i)=aW L i
def ql{L:List Nat}{i:Nat}(h:i<L.length):L[i]? =D (aW L i):=by
 unfold aW;rw[List.getD_eq_getElem?_getD,List.getElem?_eq_getElem h];rfl
def AP{L:List Nat}{i:Nat}(h:L.length<=i):aW L i=i:=by
 unfold aW;rw[List.getD_eq_getElem?_getD,List.getElem?_eq_none h];rfl
def vO{L:List Nat}{i v:Nat}(h:L[i]? =D v):aW L i=v:=by
 unfold aW;rw[List.getD_eq_getElem?_getD,h];rfl
def eJ(L:List Nat)(a b:Nat):Prop:=aW L a=aW L b
def o3(L:List Nat):gi (eJ L):=⟨λ_=>rfl,λh=>h.symm,λh k=>h.trans k⟩
def qm(n i:Nat):aW (List.range n) i=i:=by
 by_cases h:i<n
 ·exact vO (by rw[List.getElem?_range h])
 ·exact AP (by simpa using h)
def Hp(n:Nat):Good (List.range n):=⟨λi=>by rw[qm];exact bC _,λi=>by simp only[qm]⟩
def Good.lt{L:List Nat}(g:Good L){i:Nat}(h:i<L.length):aW L i<L.length:=by have:=g.le i;omega
def Good.least{L:List Nat}(g:Good L)(a:Nat):dC (eJ L) a=aW L a:=by
 have h:=jn (o3 L) a;have af:eJ L a (aW L a):=(g.id a).symm;have ah:=h.2.2 _ af;have an:aW L a=aW L (dC (eJ L) a):=h.1;have aM:=g.le (dC (eJ L) a);omega
def gS(L:List Nat)(a b:Nat):List Nat:=L.map λx=>if x=aW L a\/x=aW L b then min (aW L a) (aW L b)else x
def nG(L:List Nat)(a b:Nat):(gS L a b).length=L.length:=by simp[gS]
def j8{L:List Nat}(g:Good L){a b:Nat}(c:a<L.length)(d:b<L.length)(i:Nat):aW (gS L a b) i=if aW L i=aW L a\/aW L i=aW L b then min (aW L a) (aW L b)else aW L i:=by
 by_cases h:i<L.length
 ·refine vO ?_;unfold gS;rw[List.getElem?_map,ql h];rfl
 ·have bY:L.length<=i:=by omega
  rw[AP (by rw[nG];exact bY),AP bY,if_neg];have:=g.lt c;have:=g.lt d;omega
def vx{L:List Nat}{a b:Nat}(h:aW L a=aW L b):gS L a b=L:=by
 unfold gS;rw[h,Nat.min_self];have:∀x∈L,(if x=aW L b\/x=aW L b then aW L b else x)=x:=by
  intro x _;split
  ·rename_i h;rcases h with h|h<;>exact h.symm
  ·rfl
 exact(List.map_congr_left this).trans (List.map_id' L)
def Good.join{L:List Nat}(g:Good L){a b:Nat}(c:a<L.length)(d:b<L.length):Good (gS L a b):=by
 have hm:aW (gS L a b) (min (aW L a) (aW L b))=min (aW L a) (aW L b):=by
  rw[j8 g c d];rcases Nat.le_total (aW L a) (aW L b)with h|h
  ·rw[Nat.min_eq_left h,g.id,if_pos (.inl rfl)]
  ·rw[Nat.min_eq_right h,g.id,if_pos (.inr rfl)]
 refine⟨λi=> ?_,λi=> ?_⟩
 ·rw[j8 g c d];have:=g.le i;split
  ·rename_i h;rcases h with h|h<;>omega
  ·exact this
 ·by_cases h:aW L i=aW L a\/aW L i=aW L b
  ·rw[show aW (gS L a b) i=min (aW L a) (aW L b) by rw[j8 g c d,if_pos h],hm]
  ·have e:aW (gS L a b) i=aW L i:=by rw[j8 g c d,if_neg h]
   rw[e,j8 g c d,g.id,if_neg h]
def Bu{L:List Nat}(g:Good L){a b:Nat}(f:a<L.length)(i:b<L.length){c d:Nat}:eJ (gS L a b) c d↔eJ L c d\/((eJ L c a\/eJ L c b)/\(eJ L d a\/eJ L d b)):=by
 unfold eJ;rw[j8 g f i,j8 g f i];have af:∀x,min (aW L a) (aW L b)=aW L x->aW L x=aW L a\/aW L x=aW L b:=λx h=>by
  rcases Nat.le_total (aW L a) (aW L b)with ah|ah
  ·rw[Nat.min_eq_left ah]at h;exact .inl h.symm
  ·rw[Nat.min_eq_right ah]at h;exact .inr h.symm
 by_cases aq:aW L c=aW L a\/aW L c=aW L b<;>by_cases e:aW L d=aW L a\/aW L d=aW L b
 ·rw[if_pos aq,if_pos e];simp[aq,e]
 ·rw[if_pos aq,if_neg e];constructor
  ·intro h;exact absurd (af d h) e
  ·rintro(h|⟨_,h⟩)
   ·exact absurd (h▸aq) e
   ·exact absurd h e
 ·rw[if_neg aq,if_pos e];constructor
  ·intro h;exact absurd (af c h.symm) aq
  ·rintro(h|⟨h,_⟩)
   ·exact absurd (h▸e) aq
   ·exact absurd h aq
 ·rw[if_neg aq,if_neg e];simp[aq]
noncomputable def ht(L:List Nat):Nat:=(cY L.length λi=>aW L i=i).length
def Jj{L:List Nat}(g:Good L){a b:Nat}(d:a<L.length)(e:b<L.length)(h:aW L a≠aW L b):ht (gS L a b)<ht L:=by
 unfold ht;rw[nG];have k:∀i,aW (gS L a b) i=i->aW L i=i:=by
  intro i c;rw[j8 g d e]at c;split at c
  ·rename_i af;rcases Nat.le_total (aW L a) (aW L b)with ah|ah
   ·rw[Nat.min_eq_left ah]at c;rw[<-c,g.id]
   ·rw[Nat.min_eq_right ah]at c;rw[<-c,g.id]
  ·exact c
 rcases Nat.lt_or_ge (cY L.length λi=>aW (gS L a b) i=i).length (cY L.length λi=>aW L i=i).length with af|af
 ·exact af
 ·have key:=JT k af;have f:=key (aW L a) (g.lt d) (g.id a);have j:=key (aW L b) (g.lt e) (g.id b);rw[j8 g d e,g.id,if_pos (.inl rfl)]at f;rw[j8 g d e,g.id,if_pos (.inr rfl)]at j;exact absurd (f.symm.trans j) h
def VQ(L:List Nat):ht L<=L.length:=by
 unfold ht cY;exact Nat.le_trans (List.length_filter_le _ _) (by simp)
def j6(L:List Nat)(a:Nat):List Nat->List Nat
 |[]=>L
 |b::bs=>j6 (gS L a b) a bs
structure iw(L L':List Nat):Prop where
 len:L'.length=L.length
 ld:Good L'
 le:∀c d,eJ L c d->eJ L' c d
 num:L'=L\/ht L'<ht L
def iw.refl{L:List Nat}(g:Good L):iw L L:=⟨rfl,g,λ_ _ h=>h,.inl rfl⟩
def iw.trans{L L1 L2:List Nat}(h:iw L L1)(k:iw L1 L2):iw L L2:=
 ⟨k.len.trans h.len,k.ld,λc d r=>k.le c d (h.le c d r),by
  rcases h.num with rfl|af
  ·exact k.num
  ·rcases k.num with rfl|ah
   ·exact .inr af
   ·exact .inr (by omega)⟩
def iw.vY{L L':List Nat}(h:iw L L'):ht L'<=ht L:=by
 rcases h.num with rfl|af
 ·exact bC _
 ·omega
def vz{L:List Nat}(g:Good L){a b:Nat}(e:a<L.length)(f:b<L.length):iw L (gS L a b):=by
 refine⟨nG _ _ _,g.join e f,λc d h=>(Bu g e f).2 (.inl h),?_⟩;by_cases h:aW L a=aW L b
 ·exact .inl (vx h)
 ·exact .inr (Jj g e f h)
def vy:∀{bs:List Nat} {L:List Nat} {a:Nat},Good L->a<L.length->(∀b∈bs,b<L.length)->iw L (j6 L a bs)
 |[],L,a,g,_,_=> .refl g
 |b::bs,L,a,g,d,e=>by
  have af:=vz g d (e b (by simp));exact af.trans (vy af.ld (by rw[af.len];exact d) λc aq=>by rw[af.len];exact e c (by simp[aq]))
def HX:∀{bs:List Nat} {L:List Nat} {a:Nat},Good L->a<L.length->(∀b∈bs,b<L.length)->∀b∈bs,eJ (j6 L a bs) a b
 |[],_,_,_,_,_,b,h=>by simp at h
 |c::bs,L,a,g,e,f,b,h=>by
  have af:=vz g e (f c (by simp));have i:a<(gS L a c).length:=by rw[af.len];exact e
  have j:∀d∈bs,d<(gS L a c).length:=λd k=>by rw[af.len];exact f d (by simp[k])
  rcases List.mem_cons.1 h with rfl|h
  ·exact(vy af.ld i j).le _ _ ((Bu g e (f b (by simp))).2 (.inr ⟨.inl rfl,.inr rfl⟩))
  ·exact HX af.ld i j b h
def TV{L:List Nat}(g:Good L){a b:Nat}(k:a<L.length)(l:b<L.length){R:Nat->Nat->Prop}(e:gi R)(h:∀c d,eJ L c d->R c d)(f:R a b):∀c d,eJ (gS L a b) c d->R c d:=by
 intro c d m;rcases(Bu g k l).1 m with af|⟨af,ah⟩
 ·exact h c d af
 ·have i:R c a:=af.elim (h _ _) λq=>e.trans (h _ _ q) (e.symm f)
  have j:R d a:=ah.elim (h _ _) λq=>e.trans (h _ _ q) (e.symm f)
  exact e.trans i (e.symm j)
def HY:∀{bs:List Nat} {L:List Nat} {a:Nat},Good L->a<L.length->(∀b∈bs,b<L.length)->∀{R:Nat->Nat->Prop},gi R->(∀c d,eJ L c d->R c d)->(∀b∈bs,R a b)->∀c d,eJ (j6 L a bs) c d->R c d
 |[],_,_,_,_,_,_,_,h,_=>h
 |b::bs,L,a,g,e,f,R,j,h,k=>by
  have af:=vz g e (f b (by simp));exact HY af.ld (by rw[af.len];exact e) (λd i=>by rw[af.len];exact f d (by simp[i])) j (TV g e (f b (by simp)) j h (k b (by simp))) λd i=>k d (by simp[i])
def TS{L:List Nat}{a:Nat}{bs:List Nat}:j6 L a (a::bs)=j6 L a bs:=by
 show j6 (gS L a a) a bs=_;rw[vx rfl]
def Good.Qi{L:List Nat}(g:Good L){R:Nat->Nat->Prop}(d:gi R)(h:∀a b,a<L.length->b<L.length->(eJ L a b↔R a b)):L=(List.range L.length).map (dC R):=by
 apply List.ext_getElem?;intro i;by_cases c:i<L.length
 ·rw[ql c,List.getElem?_map,List.getElem?_range c,<-g.least i];simp only[Option.map_some];exact congrArg D (PM h (o3 L) d i c)
 ·rw[List.getElem?_eq_none (by omega),List.getElem?_eq_none (by simpa using c)]
end
section
open Classical
def oc(L:List Nat):List Nat->List Nat
 |[]=>L
 |a::bs=>j6 L a bs
section
variable {L:List Nat}{l:List Nat}
def D_(g:Good L)(h:∀b∈l,b<L.length):iw L (oc L l):=by
 cases l with
 |nil=>exact .refl g
 |cons a bs=>exact vy g (h a (by simp)) λb c=>h b (by simp[c])
def Ml(g:Good L)(h:∀b∈l,b<L.length):∀b∈l,∀c∈l,eJ (oc L l) b c:=by
 cases l with
 |nil=>intro b d;simp at d
 |cons a bs=>
  have af:∀b∈a::bs,eJ (j6 L a bs) a b:=by
   intro b d;rcases List.mem_cons.1 d with rfl|d
   ·rfl
   ·exact HX g (h a (by simp)) (λb d=>h b (by simp[d])) b d
  intro b d c aq;exact(o3 _).trans ((o3 _).symm (af b d)) (af c aq)
def abT(g:Good L)(h:∀b∈l,b<L.length){R:Nat->Nat->Prop}(i:gi R)(f:∀c d,eJ L c d->R c d)(al:∀b∈l,∀c∈l,R b c):∀c d,eJ (oc L l) c d->R c d:=by
 cases l with
 |nil=>exact f
 |cons a bs=>exact HY g (h a (by simp)) (λb e=>h b (by simp[e])) i f λb e=>al a (by simp) b (by simp[e])
end
structure May(m:Nat)(p:dq):Prop where
 nodes:∀N∈p.nodes,∀a∈N,a<m
 len:p.fields.length=m
 wid:∀fs∈p.fields,fs.length=8
 gq:∀fs∈p.fields,∀l∈fs,∀a∈l,a<m
def May.ez{m:Nat}{p:dq}(h:May m p){s k a:Nat}(b:a∈p.gq s k):a<m/\s<m/\k<8:=by
 unfold dq.gq at b;cases d:p.fields[s]? with
 |none=>rw[d]at b;simp at b
 |some fs=>
  rw[d]at b;simp only[Option.bind_some]at b;have af:=List.mem_of_getElem? d;cases c:fs[k]? with
  |none=>rw[c]at b;simp at b
  |some l=>
   rw[c]at b;simp only[Option.getD_some]at b;have ah:=(List.getElem?_eq_some_iff.1 c).1;have an:=(List.getElem?_eq_some_iff.1 d).1;rw[h.wid fs af]at ah;rw[h.len]at an;exact⟨h.gq fs af l (List.mem_of_getElem? c) a b,an,ah⟩
def U7(n m:Nat)(R:Nat->Nat->Prop):May m (hZ n m R):=by
 refine⟨?_,by simp[hZ],?_,?_⟩
 ·intro N d a c;simp only[hZ,List.mem_map]at d;obtain⟨v,_,rfl⟩:=d;exact(fB.1 c).1
 ·intro fs b;simp only[hZ,List.mem_map]at b;obtain⟨t,_,rfl⟩:=b;simp
 ·intro fs b l al a c;simp only[hZ,List.mem_map]at b;obtain⟨t,_,rfl⟩:=b;simp only[List.mem_map]at al;obtain⟨k,_,rfl⟩:=al;exact(fB.1 c).1
structure fE(m:Nat)(p:dq)(L:List Nat):Prop where
 len:L.length=m
 ld:Good L
 sub:∀c d,eJ L c d->ds p c d
structure jA(p:dq)(L:List Nat):Prop where
 h:∀N∈p.nodes,∀a∈N,∀b∈N,eJ L a b
structure lQ(p:dq)(L:List Nat):Prop where
 h:∀s t k a b,eJ L s t->a∈p.gq s k->b∈p.gq t k->eJ L a b
def fE.start(m:Nat)(p:dq):fE m p (List.range m):=⟨by simp,Hp m,λc d h=>by
 unfold eJ at h;rw[qm,qm]at h;rw[h];exact .refl d⟩
def fE.Mk{m:Nat}{p:dq}{L l:List Nat}(h:fE m p L)(al:∀b∈l,b<m)(a1:∀b∈l,∀c∈l,ds p b c):fE m p (oc L l):=by
 have af:∀b∈l,b<L.length:=λb a=>by rw[h.len];exact al b a
 have j:=D_ h.ld af;exact⟨j.len.trans h.len,j.ld,abT h.ld af (ds.cl p).eqv h.sub a1⟩
def jA.Ar{p:dq}{L L':List Nat}(h:jA p L)(j:iw L L'):jA p L':=⟨λN c a d b e=>j.le _ _ (h.h N c a d b e)⟩
def R2{m:Nat}{p:dq}{L:List Nat}(h:fE m p L)(aH:jA p L)(aq:lQ p L):∀a b,eJ L a b↔ds p a b:=by
 intro a b;refine⟨h.sub a b,ds.least (R:=eJ L) ⟨(o3 L).refl,(o3 L).symm,(o3 L).trans,?_,?_⟩⟩
 ·intro N a b e c d;exact aH.h N e a c b d
 ·intro s t k a b f c d;exact aq.h s t k a b f c d
def R1{m:Nat}{p:dq}{L:List Nat}(h:fE m p L)(aH:jA p L)(aq:lQ p L):L=(List.range m).map (dC (ds p)):=by
 have:=h.ld.Qi (ds.cl p).eqv λa b _ _=>R2 h aH aq a b
 rwa[h.len]at this
def U9{p:dq}{R:Nat->Nat->Prop}{m r k a:Nat}:a∈qb p R m r k↔∃t,t<m/\R r t/\a∈p.gq t k:=by
 unfold qb;simp only[List.mem_flatMap,fB];constructor
 ·rintro⟨t,⟨af,ah⟩,an⟩;exact⟨t,af,ah,an⟩
 ·rintro⟨t,af,ah,an⟩;exact⟨t,⟨af,ah⟩,an⟩
end
end Go.a2
namespace Go.Proofs.YtmhhnnklfcbgfaaGreat
open Go.bz
section
set_option maxRecDepth 100000
set_option maxHeartbeats 4000000
noncomputable section
def o6(G:aw)(N:Nat):g6 2 8 Tryz.f132 G N (·.ag.ag.ag.ag.ag.ag.ag.ag.ag.ag) (bg Tryz.f132) []:=⟨_,v2 ao⟩
def sQ(G:aw)(N:Nat)(L5:dr):iz 1 2 8 87 88 89 Tryz.f132 G N (·.ag.ag.ag.ag.ag.ag.ag.ag.ag.ax.ag.ax.ax.ag.ag.ag) (cy L5 1 2 8 87 88 89) [(10,(bo (o6 G N) 2 8))]:=⟨_,v6 ao⟩
def w9(G:aw)(N:Nat)(L5:dr):kX 1 2 8 17 87 88 89 Tryz.f132 G N (·.ag.ag.ag.ag.ag.ag.ag.ag.ag.ax.ag.ax.ax.ag.ag.ax.ax.ag.ag.ag) (cy (sQ G N L5) 1 2 8 87 88 89) [(11,(cy (sQ G N L5) 1 2 8 87 88 89)),(10,(bo (o6 G N) 2 8))]:=⟨_,kQ ao⟩
def w4(G:aw)(N:Nat)(L5:dr)(a:hf):pJ 1 2 8 16 17 87 88 89 100 101 Tryz.f132 G N (·.ag.ag.ag.ag.ag.ag.ag.ag.ag.ax.ag.ax.ax.ag.ag.ax.ax.ag.ag.ax.ag.ax.ax) (jX a 1 2 8 16 17 87 88 89 100 101) [(12,(ea (w9 G N L5) 1 2 8 17 87 88 89)),(11,(cy (sQ G N L5) 1 2 8 87 88 89)),(10,(bo (o6 G N) 2 8))]:=⟨_,P_ ao⟩
def sV(G:aw)(N:Nat)(L5:dr):Nat->hf
 |0=>uD
 |n+1=>w4 G N L5 (sV G N L5 n)
def w3(G:aw)(N:Nat)(L5:dr):iz 1 2 8 87 88 89 Tryz.f132 G N (·.ag.ag.ag.ag.ag.ag.ag.ag.ag.ax.ag.ax.ax) (cy L5 1 2 8 87 88 89) [(10,(bo (o6 G N) 2 8))]:=⟨_,v6 (ak (ak (ak ((sQ G N L5).2) (bD (ak (ak (ak ((w9 G N L5).2) (ak (bD (b3 (λm=>(w4 G N L5 (sV G N L5 m)).2))) ao)) ao) ao))) ao) ao)⟩
def sU(G:aw)(N:Nat):Nat->dr
 |0=>lO
 |n+1=>w3 G N (sU G N n)
def w8(G:aw)(N:Nat):en 1 2 7 8 Tryz.f132 G N (·.ag.ag.ag.ag.ag.ag.ag.ag.ag) (bg Tryz.f132) []:=⟨_,v4 (ak ((o6 G N).2) (ak (bD (b3 (λm=>(w3 G N (sU G N m)).2))) ao))⟩
def w5(G:aw)(N:Nat)(a:fI):kX 1 2 7 8 71 72 73 Tryz.f132 G N (·.ag.ag.ag.ag.ag.ag.ag.ag.ax.ag.ax.ax) (ea a 1 2 7 8 71 72 73) [(8,(bT (w8 G N) 1 2 7 8))]:=⟨_,rN ao⟩
def sW(G:aw)(N:Nat):Nat->fI
 |0=>pB
 |n+1=>w5 G N (sW G N n)
def qI(G:aw)(N:Nat):en 1 2 7 8 Tryz.f132 G N (·.ag.ag.ag.ag.ag.ag.ag.ag) (bg Tryz.f132) []:=⟨_,v4 (ak ((w8 G N).2) (ak (bD (b3 (λm=>(w5 G N (sW G N m)).2))) ao))⟩
def sP(G:aw)(N:Nat)(L10:fI):kX 1 2 7 8 50 51 52 Tryz.f132 G N (·.ag.ag.ag.ag.ag.ag.ag.ax.ag.ax.ax.ag.ag.ag) (ea L10 1 2 7 8 50 51 52) [(4,(bT (qI G N) 1 2 7 8))]:=⟨_,kQ ao⟩
def w1(G:aw)(N:Nat)(L10:fI)(a:nh):uL 1 2 7 8 9 50 51 52 57 58 59 Tryz.f132 G N (·.ag.ag.ag.ag.ag.ag.ag.ax.ag.ax.ax.ag.ag.ax.ax.ag.ag.ax.ax) (FH a 1 2 7 8 9 50 51 52 57 58 59) [(6,(ea (sP G N L10) 1 2 7 8 50 51 52)),(5,(ea (sP G N L10) 1 2 7 8 50 51 52)),(4,(bT (qI G N) 1 2 7 8))]:=⟨_,v11 ao⟩
def sS(G:aw)(N:Nat)(L10:fI):Nat->nh
 |0=>ado
 |n+1=>w1 G N L10 (sS G N L10 n)
def wZ(G:aw)(N:Nat)(L10:fI):kX 1 2 7 8 50 51 52 Tryz.f132 G N (·.ag.ag.ag.ag.ag.ag.ag.ax.ag.ax.ax) (ea L10 1 2 7 8 50 51 52) [(4,(bT (qI G N) 1 2 7 8))]:=⟨_,kQ (ak (ak (ak ((sP G N L10).2) (bD (ak (ak (bD (b3 (λm=>(w1 G N L10 (sS G N L10 m)).2))) ao) ao))) ao) ao)⟩
def sR(G:aw)(N:Nat):Nat->fI
 |0=>pB
 |n+1=>wZ G N (sR G N n)
def w7(G:aw)(N:Nat):gj 1 2 4 Tryz.f132 G N (·.ag.ag.ag.ag.ag) (bg Tryz.f132) []:=⟨_,v3 (ak (ak (ak ((qI G N).2) (ak (bD (b3 (λm=>(wZ G N (sR G N m)).2))) ao)) ao) ao)⟩
def BV(G:aw)(N:Nat)(a:c6):gj 1 2 4 Tryz.f132 G N (·.ag.ag.ag.ag.ax.ax.ax) (bJ a 1 2 4) [(2,(bJ (w7 G N) 1 2 4))]:=⟨_,v3 ao⟩
def w_(G:aw)(N:Nat):Nat->c6
 |0=>iq
 |n+1=>BV G N (w_ G N n)
def w6(G:aw)(N:Nat):gj 1 2 4 Tryz.f132 G N (·.ag.ag.ag.ag) (bg Tryz.f132) []:=⟨_,v3 (ak ((w7 G N).2) (bD (b3 (λm=>(BV G N (w_ G N m)).2))))⟩
def w2(G:aw)(N:Nat)(a:dr):iz 1 2 4 28 29 30 Tryz.f132 G N (·.ag.ag.ag.ax.ag.ax.ax) (cy a 1 2 4 28 29 30) [(0,(bJ (w6 G N) 1 2 4))]:=⟨_,v6 ao⟩
def sT(G:aw)(N:Nat):Nat->dr
 |0=>lO
 |n+1=>w2 G N (sT G N n)
def BU(G:aw)(N:Nat):fU Tryz.f132 G N:=⟨_,t1 (ak (ak (ak (ak ((w6 G N).2) (ak (bD (b3 (λm=>(w2 G N (sT G N m)).2))) ao)) ao) ao) ao)⟩
def XA(N:Nat):=dZ Tryz.func132 λG=>(BU G N).2
def Cl(G:aw)(N:Nat):g5 Tryz.f185 G N (·.ag.ag.ag.ag) (bg Tryz.f185) []:=⟨_,v0 ao⟩
def xp(G:aw)(N:Nat)(L1:dj):gk 1 3 19 20 21 Tryz.f185 G N (·.ag.ag.ag.ax.ag.ax.ax) (cn L1 1 3 19 20 21) [(0,(bh (Cl G N)))]:=⟨_,v5 ao⟩
def s7(G:aw)(N:Nat):Nat->dj
 |0=>jc
 |n+1=>xp G N (s7 G N n)
def Ck(G:aw)(N:Nat):fU Tryz.f185 G N:=⟨_,t1 (ak (ak (ak (ak ((Cl G N).2) (ak (bD (b3 (λm=>(xp G N (s7 G N m)).2))) ao)) ao) ao) ao)⟩
def X0(N:Nat):=dZ Tryz.func185 λG=>(Ck G N).2
def Cn(G:aw)(N:Nat):et 3 Tryz.f186 G N (·.ag.ag.ag) (bg Tryz.f186) []:=⟨_,v1 ao⟩
def xq(G:aw)(N:Nat)(L1:c6):gj 3 15 16 Tryz.f186 G N (·.ag.ag.ax.ag.ax.ax) (bJ L1 3 15 16) [(0,(a8 (Cn G N) 3))]:=⟨_,v3 ao⟩
def s8(G:aw)(N:Nat):Nat->c6
 |0=>iq
 |n+1=>xq G N (s8 G N n)
def Cm(G:aw)(N:Nat):fU Tryz.f186 G N:=⟨_,t1 (ak (ak (ak ((Cn G N).2) (ak (bD (b3 (λm=>(xq G N (s8 G N m)).2))) ao)) ao) ao)⟩
def X1(N:Nat):=dZ Tryz.func186 λG=>(Cm G N).2
def s_(G:aw)(N:Nat):et 5 Tryz.f187 G N (·.ag.ag.ag) (bg Tryz.f187) []:=⟨_,v1 ao⟩
def Cp(G:aw)(N:Nat)(L1:dr):iz 0 1 5 8 9 10 Tryz.f187 G N (·.ag.ag.ax.ag.ax.ax.ag.ag.ag) (cy L1 0 1 5 8 9 10) [(0,(a8 (s_ G N) 5))]:=⟨_,v6 ao⟩
def s9(G:aw)(N:Nat)(L1:dr):iz 0 1 5 8 9 10 Tryz.f187 G N (·.ag.ag.ax.ag.ax.ax) (cy L1 0 1 5 8 9 10) [(0,(a8 (s_ G N) 5))]:=⟨_,v6 (ak (ak (ak ((Cp G N L1).2) ao) ao) ao)⟩
def qL(G:aw)(N:Nat):Nat->dr
 |0=>lO
 |n+1=>s9 G N (qL G N n)
def Co(G:aw)(N:Nat):fJ Tryz.f187 G N:=⟨_,t2 (ak (ak (ak ((s_ G N).2) (ak (bD (b3 (λm=>(s9 G N (qL G N m)).2))) ao)) ao) ao)⟩
def X2(N:Nat):=dc Tryz.func187 λG=>(Co G N).2
def qM(G:aw)(N:Nat):et 5 Tryz.f188 G N (·.ag.ag.ag) (bg Tryz.f188) []:=⟨_,v1 ao⟩
def o_(G:aw)(N:Nat)(L1:dr):iz 0 3 5 10 11 12 Tryz.f188 G N (·.ag.ag.ax.ag.ax.ax.ag.ag.ag) (cy L1 0 3 5 10 11 12) [(0,(a8 (qM G N) 5))]:=⟨_,v6 ao⟩
def Cr(G:aw)(N:Nat)(L1:dr)(L3:jC):uM 0 3 5 7 10 11 12 23 24 Tryz.f188 G N (·.ag.ag.ax.ag.ax.ax.ag.ag.ax.ax.ag.ag.ax.ax.ag.ag.ag) (rH L3 0 3 5 7 10 11 12 23 24) [(2,(cy (o_ G N L1) 0 3 5 10 11 12)),(1,(cy (o_ G N L1) 0 3 5 10 11 12)),(0,(a8 (qM G N) 5))]:=⟨_,v9 ao⟩
def xt(G:aw)(N:Nat)(L1:dr)(L3:jC):uM 0 3 5 7 10 11 12 23 24 Tryz.f188 G N (·.ag.ag.ax.ag.ax.ax.ag.ag.ax.ax.ag.ag.ax.ax) (rH L3 0 3 5 7 10 11 12 23 24) [(2,(cy (o_ G N L1) 0 3 5 10 11 12)),(1,(cy (o_ G N L1) 0 3 5 10 11 12)),(0,(a8 (qM G N) 5))]:=⟨_,v9 (ak (ak (ak ((Cr G N L1 L3).2) ao) ao) ao)⟩
def td(G:aw)(N:Nat)(L1:dr):Nat->jC
 |0=>za
 |n+1=>xt G N L1 (td G N L1 n)
def xr(G:aw)(N:Nat)(L1:dr):iz 0 3 5 10 11 12 Tryz.f188 G N (·.ag.ag.ax.ag.ax.ax) (cy L1 0 3 5 10 11 12) [(0,(a8 (qM G N) 5))]:=⟨_,v6 (ak (ak (ak ((o_ G N L1).2) (bD (ak (ak (bD (b3 (λm=>(xt G N L1 (td G N L1 m)).2))) ao) ao))) ao) ao)⟩
def tc(G:aw)(N:Nat):Nat->dr
 |0=>lO
 |n+1=>xr G N (tc G N n)
def Cq(G:aw)(N:Nat):fJ Tryz.f188 G N:=⟨_,t2 (ak (ak (ak ((qM G N).2) (ak (bD (b3 (λm=>(xr G N (tc G N m)).2))) ao)) ao) ao)⟩
def X3(N:Nat):=dc Tryz.func188 λG=>(Cq G N).2
def qN(G:aw)(N:Nat):et 3 Tryz.f189 G N (·.ag.ag.ag.ag.ag) (bg Tryz.f189) []:=⟨_,v1 ao⟩
def xw(G:aw)(N:Nat)(L1:dj):gk 0 3 4 14 15 Tryz.f189 G N (·.ag.ag.ag.ag.ax.ag.ax.ax.ag.ag.ag) (cn L1 0 3 4 14 15) [(0,(a8 (qN G N) 3))]:=⟨_,v5 ao⟩
def te(G:aw)(N:Nat)(L1:dj):kX 0 3 4 5 6 14 15 Tryz.f189 G N (·.ag.ag.ag.ag.ax.ag.ax.ax.ag.ag.ax.ax.ag.ag.ag) (cn (xw G N L1) 0 3 4 14 15) [(1,(cn (xw G N L1) 0 3 4 14 15)),(0,(a8 (qN G N) 3))]:=⟨_,rN ao⟩
def xu(G:aw)(N:Nat)(L1:dj):gk 0 3 4 14 15 Tryz.f189 G N (·.ag.ag.ag.ag.ax.ag.ax.ax) (cn L1 0 3 4 14 15) [(0,(a8 (qN G N) 3))]:=⟨λc b x4 d x15 H=>aU (bm P .lss 3 Z x15 d) λx16=>dF (D x16) (dW H (G 228 [c,x15] H) λa af=>aU (bm P .eql 3 Z a x15) λe=>dF (D e) (br P .len [31] [b] af λf=>fw af (iD P af 293 x4 a f) λah=>eK ah (D (.aD (ah).next 0 1 1 (D 1),.row Z 1 [[ae.aB]])) λg an=>dW an (ee P an [31,31] b g) λh aM=>te G N L1 c h x4 x15 a d x15 aM) (te G N L1 c b x4 x15 a d x15 af)) (qN G N b H),cr (ak (ak (ak ((xw G N L1).2) (bD (ak (ak (ak ((te G N L1).2) ao) ao) ao))) ao) ao)⟩
def pa(G:aw)(N:Nat):Nat->dj
 |0=>jc
 |n+1=>xu G N (pa G N n)
def Cs(G:aw)(N:Nat):fU Tryz.f189 G N:=⟨λa H=>aU (bm P .eql 253 C a ae.gI) λx8=>dF (D x8) (D (ae.aB,H)) (eK H (D (.map (H).next,.map [])) λd af=>aU (hC a) λx11=>aU (bN P 292 x11 0) λx12=>aU (aI P af 30 x12) λb=>br P .len [30] [b] af λc=>pa G N N a ae.aB d c (.int .i64 0) af),vC (ak (ak (ak (ak (ak ((qN G N).2) (ak (bD (b3 (λm=>(xu G N (pa G N m)).2))) ao)) ao) ao) ao) ao)⟩
def X4(N:Nat):=dZ Tryz.func189 λG=>(Cs G N).2
def xB(G:aw):ev Tryz.f190 G:=⟨_,λN=>t2 ao⟩
def X5(N:Nat):=dc Tryz.func190 λG=>(xB G).2 N
def Cw(G:aw)(N:Nat):et 7 Tryz.f191 G N (·.ag.ag.ag) (bg Tryz.f191) []:=⟨_,v1 ao⟩
def xC(G:aw)(N:Nat)(L1:dr):iz 2 3 7 10 11 12 Tryz.f191 G N (·.ag.ag.ax.ag.ax.ax) (cy L1 2 3 7 10 11 12) [(0,(a8 (Cw G N) 7))]:=⟨_,v6 ao⟩
def ti(G:aw)(N:Nat):Nat->dr
 |0=>lO
 |n+1=>xC G N (ti G N n)
def Cv(G:aw)(N:Nat):oq Tryz.f191 G N:=⟨_,t3 (ak (ak (ak ((Cw G N).2) (ak (bD (b3 (λm=>(xC G N (ti G N m)).2))) ao)) ao) ao)⟩
def X6(N:Nat):=g0 Tryz.func191 λG=>(Cv G N).2
def CI(G:aw)(N:Nat):g5 Tryz.f226 G N (·.ag.ag) (bg Tryz.f226) []:=⟨_,v0 ao⟩
def xI(G:aw)(N:Nat)(L1:b_):en 3 7 8 9 Tryz.f226 G N (·.ag.ax.ag.ax.ax) (bT L1 3 7 8 9) [(0,(bh (CI G N)))]:=⟨_,v4 ao⟩
def tt(G:aw)(N:Nat):Nat->b_
 |0=>fk
 |n+1=>xI G N (tt G N n)
def CH(G:aw)(N:Nat):fJ Tryz.f226 G N:=⟨_,t2 (ak (ak ((CI G N).2) (ak (bD (b3 (λm=>(xI G N (tt G N m)).2))) ao)) ao)⟩
def Yg(N:Nat):=dc Tryz.func226 λG=>(CH G N).2
def CJ(G:aw):iB Tryz.f227 G:=⟨_,λN=>t3 ao⟩
def Yh(N:Nat):=g0 Tryz.func227 λG=>(CJ G).2 N
def CL(G:aw)(N:Nat):et 1 Tryz.f228 G N (·.ag.ag.ag) (bg Tryz.f228) []:=⟨_,v1 ao⟩
def xJ(G:aw)(N:Nat)(L1:T2):g6 0 1 Tryz.f228 G N (·.ag.ag.ax.ax.ax) (bo L1 0 1) [(0,(a8 (CL G N) 1))]:=⟨_,v2 ao⟩
def tv(G:aw)(N:Nat):Nat->T2
 |0=>mu
 |n+1=>xJ G N (tv G N n)
def CK(G:aw)(N:Nat):fJ Tryz.f228 G N:=⟨_,t2 (ak (ak (ak ((CL G N).2) (bD (b3 (λm=>(xJ G N (tv G N m)).2)))) ao) ao)⟩
def Yi(N:Nat):=dc Tryz.func228 λG=>(CK G N).2
def CY(G:aw):ev Tryz.f253 G:=⟨_,λN=>t2 ao⟩
def Yx(N:Nat):=dc Tryz.func253 λG=>(CY G).2 N
end
end
section
open Go.a2
set_option maxRecDepth 2000
def dR(l:List Nat):List (List ae):=l.map λn=>[.int .i64 (n:Nat)]
def Oe(l:List Nat)(i n:Nat):(dR l).set i [.int .i64 (n:Nat)]=dR (l.set i n):=by simp[dR,List.map_set]
def AL{H:ad}{l:List Nat}{zD i:Nat}(g:H.get zD=D (.row Z 1 (dR l)))(a:i<l.length):aI P H 3 (.ptr zD i 0)=D (.int .i64 (aW l i:Nat)):=by
 rw[e_ aF g (e:=[.int .i64 (aW l i:Nat)]) (by simp[dR,ql a])];rfl
def yL{H:ad}{l:List Nat}{zD i:Nat}(g:H.get zD=D (.row Z 1 (dR l)))(a:i<l.length)(n:Nat):cD P H 3 (.ptr zD i 0) (.int .i64 n)=D (H.set zD (.row Z 1 (dR (l.set i n)))):=by
 rw[gf (n:=1) aF g (e:=[.int .i64 (aW l i:Nat)]) (by simp[dR,ql a]) rfl rfl bU,<-Oe];rfl
def r9{l:List Nat}{i n:Nat}(a:i<l.length)(k:Nat):aW (l.set i n) k=if k=i then n else aW l k:=by
 by_cases e:k=i
 ·subst e;rw[if_pos rfl];exact vO (by simp[a])
 ·rw[if_neg e];unfold aW;simp only[List.getD_eq_getElem?_getD];rw[List.getElem?_set_ne (Ne.symm e)]
structure kY(L bx:List Nat):Prop where
 len:bx.length=L.length
 le:∀i,aW bx i<=i
 same:∀i,aW L (aW bx i)=aW L i
 root:∀i,aW bx i=i->aW L i=i
def kY.start(n:Nat):kY (List.range n) (List.range n):=⟨rfl,λi=>by rw[qm];exact bC _,λi=>by simp only[qm],λi h=>h⟩
def kY.SP{L bx:List Nat}(u:kY L bx){a:Nat}(b:a<bx.length)(h:aW bx a≠a):kY L (bx.set a (aW bx (aW bx a))):=by
 have af:=u.le a;have ah:=u.le (aW bx a);refine⟨by rw[List.length_set];exact u.len,λi=> ?_,λi=> ?_,λi=> ?_⟩<;>rw[r9 b]<;>split
 ·omega
 ·exact u.le i
 ·next e=>rw[e,u.same,u.same]
 ·exact u.same i
 ·next e=>intro c;omega
 ·exact u.root i
def kY.join{L bx:List Nat}(u:kY L bx)(g:a2.Good L){a b:Nat}(c:a<L.length)(d:b<L.length)(q:aW L a≠aW L b):kY (gS L a b) (bx.set (max (aW L a) (aW L b)) (min (aW L a) (aW L b))):=by
 have n:=g.lt c;have o:=g.lt d;have j:=g.id a;have k:=g.id b;have al:=u.len;have hm:max (aW L a) (aW L b)<bx.length:=aa;refine⟨by rw[List.length_set,nG];exact u.len,λi=> ?_,λi=> ?_,λi=> ?_⟩<;>rw[r9 hm]
 ·split
  ·omega
  ·exact u.le i
 ·rw[j8 g c d,j8 g c d];split
  ·next e=>
   have l:aW L (min (aW L a) (aW L b))=aW L a\/aW L (min (aW L a) (aW L b))=aW L b:=by
    rcases Nat.le_total (aW L a) (aW L b)with h|h
    ·rw[Nat.min_eq_left h];exact .inl j
    ·rw[Nat.min_eq_right h];exact .inr k
   have f:aW L i=aW L a\/aW L i=aW L b:=by
    rw[e];rcases Nat.le_total (aW L a) (aW L b)with h|h
    ·rw[Nat.max_eq_right h];exact .inr k
    ·rw[Nat.max_eq_left h];exact .inl j
   rw[if_pos l,if_pos f]
  ·rw[u.same]
 ·rw[j8 g c d];split
  ·intro e;omega
  ·next e=>
   intro f;have m:=u.root i f;split
   ·next p=>omega
   ·exact m
structure eC(zD:Nat)(L:List Nat)(H:ad):Prop where
 g:a2.Good L
 f:H.get (zD+1)=some (.row false 1 [[.aD zD 0 L.length 1 (some L.length)]])
 u:∃bx,kY L bx/\H.get zD=some (.row false 1 (dR bx))
section
variable {zD:Nat}{L:List Nat}{H:ad}
def eC.lt(h:eC zD L H):zD+1<H.next:=ad.bE h.f
def eC.aE{H':ad}(h:eC zD L H)(m:av H H'):eC zD L H':=by
 obtain⟨bx,u,g⟩:=h.u;exact⟨h.g,m.get h.f,bx,u,m.get g⟩
def eC.ma(h:eC zD L H):aI P H 30 (.ptr (zD+1) 0 0)=D (.aD zD 0 L.length 1 (D L.length)):=by
 rw[e_ aF h.f rfl];rfl
def eC.set(h:eC zD L H){bx:List Nat}(u:kY L bx):eC zD L (H.set zD (.row Z 1 (dR bx))):=
 ⟨h.g,by rw[ad.cb aa];exact h.f,bx,u,ad.c8 (by have:=h.lt;omega)⟩
def Iz{a:Nat}(p:a<L.length){N:Nat}:∀(m b:Nat) (H:ad),b<m->eC zD L H->b<L.length->aW L b=aW L a->
  W (tv (aQ P aK) N m (.ptr (zD+1) 0 0) (.int .i64 b) H) λr H'=>r= .int .i64 (aW L a:Nat)/\eC zD L H'/\e8 (· =zD) H H'
 |0,_,_,hm,_,_,_=>aa
 |m+1,b,H,hm,h,f,j=>by
  obtain⟨bx,u,g⟩:=h.u;have c:b<bx.length:=by rw[u.len];exact f
  have eM:=AL g c;by_cases e:aW bx b=b
  ·have d:((aW bx b:Nat):Int)=((b:Nat):Int):=aa;have n:=u.root b e;simp-implicitDefEqProofs(disch:=try exact ai)only[tv,xJ,aj,aJ,aC,aL,h.ma,fX b6 f,eM,d,bne_self_eq_false,CL];exact aG.2 ⟨by rw[<-j,n],h,.refl _ _⟩
  ·have d:(((aW bx b:Nat):Int)==((b:Nat):Int))=false:=beq_eq_false_iff_ne.2 λh=>e (by exact_mod_cast h)
   have l:(((aW bx b:Nat):Int) != ((b:Nat):Int))=true:=by simp only[bne,d,Bool.not_false]
   have w:=u.le b;have s:aW bx b<bx.length:=aa;have aq:aW bx b<L.length:=aa;have x:=u.le (aW bx b);have v:=u.SP c e;have af:=h.set v;have t:zD<H.next:=by have:=h.lt;omega
   have k:=AL (ad.c8 (b:= .row Z 1 (dR (bx.set b (aW bx (aW bx b))))) t) (i:=b) (by rw[List.length_set];exact c);rw[r9 c,if_pos rfl]at k;simp-implicitDefEqProofs(disch:=try exact ai)only[tv,xJ,aj,aJ,aC,aL,h.ma,fX b6 f,fX b6 aq,eM,l,AL g s,yL g c,af.ma,k];have o:aW L (aW bx (aW bx b))=aW L a:=by rw[u.same,u.same,j]
   exact(Iz p (N:=N) m (aW bx (aW bx b)) (H.set zD (.row Z 1 (dR (bx.set b (aW bx (aW bx b)))))) aa af aa o).mono λr H' q=>⟨q.1,q.2.1,((e8.refl (· =zD) H).m7 (.inl rfl) _).trans q.2.2⟩
def AN(h:eC zD L H){a:Nat}(b:a<L.length):W (aQ P aK 228 [.ptr (zD+1) 0 0,.int .i64 a] H) λr H'=>r= .int .i64 (aW L a:Nat)/\eC zD L H'/\e8 (· =zD) H H':=by
 refine Yi (a+1) ?_;have c:bm P .eql 253 C (.ptr (zD+1) 0 0) .gI=D (.bool Z):=aF;have d:¬(a:Int)<0:=aa;have e:¬(L.length:Int)<=(a:Int):=aa;simp-implicitDefEqProofs(disch:=try exact ai)only[CK,aj,aJ,aC,aL,sa,c,d,e,decide_false,h.ma];exact Iz b _ _ _ aa h b rfl
def R4(h:eC zD L H){a b:Nat}(c:a<L.length)(d:b<L.length)(w:L.length<=1000000):W (aQ P aK 227 [.ptr (zD+1) 0 0,.int .i64 a,.int .i64 b] H) λr H'=>r= .bool (decide (aW L a≠aW L b))/\eC zD (gS L a b) H'/\e8 (· =zD) H H':=by
 refine Yh 0 ?_;simp-implicitDefEqProofs(disch:=try exact ai)only[CJ,aj];refine aZ (AN h c) ?_;rintro _ H1 ⟨rfl,af,k⟩;refine⟨k.1,?_⟩;simp-implicitDefEqProofs(disch:=try exact ai)only[aj];refine aZ (AN af d) ?_;rintro _ s ⟨rfl,ah,l⟩;refine⟨l.1,?_⟩;have m:=k.trans l;have cJ:¬((aW L a:Nat):Int)<0:=aa;have n:¬((aW L b:Nat):Int)<0:=aa;by_cases e:aW L a=aW L b
 ·have j:(((aW L a:Nat):Int)==((aW L b:Nat):Int))=true:=by simp[e]
  simp-implicitDefEqProofs(disch:=try exact ai)only[aj,aC,cJ,n,decide_false,j];exact aG.2 ⟨by simp[e],by rw[vx e];exact ah,m⟩
 ·have j:(((aW L a:Nat):Int)==((aW L b:Nat):Int))=false:=beq_eq_false_iff_ne.2 λh=>e (by exact_mod_cast h)
  obtain⟨bx,u,g⟩:=ah.u;have t:=h.g.lt c;have v:=h.g.lt d;have al:=u.len;have q:=u.join h.g c d e;have o:max (aW L a) (aW L b)<L.length:=aa;have p:∀(H0:ad),bL P H0 .max [3,3] [.int .i64 (aW L a:Nat),.int .i64 (aW L b:Nat)]=D (.int .i64 ((max (aW L a) (aW L b):Nat):Int)):=λH0=>by
   show D (ae.int .i64 (if((aW L a:Nat):Int)<((aW L b:Nat):Int)then _ else _))=_
   congr 2;split<;>omega
  have lA:∀(H0:ad),bL P H0 .min [3,3] [.int .i64 (aW L a:Nat),.int .i64 (aW L b:Nat)]=D (.int .i64 ((min (aW L a) (aW L b):Nat):Int)):=λH0=>by
   show D (ae.int .i64 (if((aW L b:Nat):Int)<((aW L a:Nat):Int)then _ else _))=_
   congr 2;split<;>omega
  have st:=yL g (i:=max (aW L a) (aW L b)) aa (min (aW L a) (aW L b));simp-implicitDefEqProofs(disch:=try exact ai)only[br,aj,aJ,aC,aL,cJ,n,decide_false,j,ah.ma,fX b6 o,st,p,lA];exact aG.2 ⟨by simp[e],⟨h.g.join c d,by rw[ad.cb aa,nG];exact ah.f,_,q,ad.c8 (by have:=ah.lt;omega)⟩,m.m7 (.inl rfl) _⟩
def IZ(l n:Nat)(aH:n<=1000000000):f_ (g9 P ⟨.leaf,l⟩ 30 (.int .i64 n) (.int .i64 n)) l=D (.aD l 0 n 1 (D n),.row Z 1 (dR (List.replicate n 0))):=by
 rw[qo (t:=30) (e:=3) (esz:=1) (z:= .int .i64 0) (b:=8) aF aF aF aF rfl rfl bU bU l n aH];simp[dR,ae.cells]
def Jc{n:Nat}(aH:n<=10000){N:Nat}:∀(j k m:Nat) (bx:List Nat) (H:ad),k+j=n->j<m->bx.length=n->(∀i,i<k->aW bx i=i)->H.get (zD+1)=D (.row Z 1 [[.aD zD 0 n 1 (D n)]])->H.get zD=D (.row Z 1 (dR bx))->
  W (s8 (aQ P aK) N m (.ptr (zD+1) 0 0) (.int .i64 n) (.int .i64 k) H) λr H'=>r= .ptr (zD+1) 0 0/\eC zD (List.range n) H'/\e8 (· =zD) H H'
 |_,_,0,_,_,_,hm,_,_,_,_=>aa
 |0,k,m+1,bx,H,f,_,c,al,a,g=>by
  have b:¬(k:Int)<(n:Int):=aa;have e:bx=List.range n:=by
   apply List.ext_getElem?;intro i;by_cases d:i<n
   ·rw[ql aa,al i aa];simp[d]
   ·rw[List.getElem?_eq_none aa,List.getElem?_eq_none (by simp;omega)]
  subst e;simp-implicitDefEqProofs(disch:=try exact ai)only[s8,xq,aj,aC,b,decide_false,Cn];exact aG.2 ⟨rfl,⟨Hp n,by simpa using a,_,kY.start n,g⟩,.refl _ _⟩
 |j+1,k,m+1,bx,H,f,hm,c,al,a,g=>by
  have b:(k:Int)<(n:Int):=aa;have h:k<n:=aa;have ma:aI P H 30 (.ptr (zD+1) 0 0)=D (.aD zD 0 n 1 (D n)):=by rw[e_ aF a rfl];rfl
  have l:=ad.bE g;simp-implicitDefEqProofs(disch:=try exact ai)only[s8,xq,aj,aJ,aC,aL,b,decide_true,ma,fX b6 h,yL g (show k<bx.length by omega) k,cq (show k<=1000000000 by omega)];exact(Jc aH j (k+1) m _ _ aa aa (by rw[List.length_set];exact c) (λi d=>by
   rw[r9 aa];by_cases e:i=k
   ·rw[if_pos e];exact e.symm
   ·rw[if_neg e];exact al i aa) (by rw[ad.cb aa];exact a) (ad.c8 l)).mono λr H' q=>⟨q.1,q.2.1,((e8.refl (· =zD) H).m7 (.inl rfl) _).trans q.2.2⟩
def VF{n:Nat}(aH:n<=10000):W (aQ P aK 186 [.int .i64 n] H) λr H'=>r= .ptr (H.next+1) 0 0/\eC H.next (List.range n) H'/\av H H':=by
 refine X1 (n+1) ?_;have h:∀(H0:ad),bL P H0 .max [3,3] [.int .i64 (n:Nat),.int .i64 0]=D (.int .i64 (n:Nat)):=λH0=>by
  show D (ae.int .i64 (if(n:Int)<0 then _ else _))=_;rw[if_neg aa]
 have lA:∀(H0:ad),bL P H0 .min [3,3] [.int .i64 (n:Nat),.int .i64 10000]=D (.int .i64 (n:Nat)):=λH0=>by
  show D (ae.int .i64 (if(10000:Int)<(n:Int)then _ else _))=_
  congr 2;split<;>omega
 obtain⟨zD,b⟩:∃zD,zD=H.next:=⟨_,rfl⟩
 have d:=av.push H (.row Z 1 (dR (List.replicate n 0)));have c:=av.push (H.push (.row Z 1 (dR (List.replicate n 0)))) (.row Z 1 [[.aD zD 0 n 1 (D n)]]);have a:=ad.a_ (H.push (.row Z 1 (dR (List.replicate n 0)))) (.row Z 1 [[.aD zD 0 n 1 (D n)]]);have g:=c.get (ad.a_ H (.row Z 1 (dR (List.replicate n 0))));have e:fe (zD+1) (.agg [.aD zD 0 n 1 (D n)])=D (.ptr (zD+1) 0 0,.row Z 1 [[.aD zD 0 n 1 (D n)]]):=rfl;have ma:aI P ((H.push (.row Z 1 (dR (List.replicate n 0)))).push (.row Z 1 [[.aD zD 0 n 1 (D n)]])) 30 (.ptr (zD+1) 0 0)=D (.aD zD 0 n 1 (D n)):=by
  simp only[ad.dm,<-b]at a;rw[e_ aF a rfl];rfl
 simp only[ad.dm,<-b]at a g;simp-implicitDefEqProofs(disch:=try exact ai)only[Cm,br,aj,aJ,u0,aL,sa,ad.dm,h,lA,IZ _ n (show n<=1000000000 by omega),<-b,e,ma];exact(Jc aH n 0 _ _ _ aa aa (by simp) (λi j=>aa) a g).mono λr H' q=>⟨q.1,q.2.1,by
  have:=q.2.2.1;have af:=d.1;have ah:=c.1;omega,λk f=>by
  rw[q.2.2.2 k (by simp;omega) (by simp;omega),c.2 k (by simp;omega),d.2 k f]⟩
def Mm{ok:Nat->Prop}(z:∀k,ok k->k≠zD){l:List Nat}{a:Nat}(o:l[0]? =D a)(al:l.length<=1000000000){lv:ae}{N:Nat}:∀(j k m:Nat) (L:List Nat) (H:ad) (b:Bool),k+j=l.length->j<m->eC zD L H->L.length<=1000000->(∀x∈l,x<L.length)->aO aT H ok (aX l) lv->
  W (qL (aQ P aK) N m (.ptr (zD+1) 0 0) lv (.bool b) lv (.int .i64 l.length) (.int .i64 k) H) λr H'=>∃b',r= .bool b'/\eC zD (j6 L a (l.drop k)) H'/\e8 (· =zD) H H'/\(b'=C->b=C\/ht (j6 L a (l.drop k))<ht L)/\(b'=Z->b=Z/\j6 L a (l.drop k)=L)
 |_,_,0,_,_,_,_,hm,_,_,_,_=>aa
 |0,k,m+1,L,H,b,q,_,h,d,aA,i=>by
  have s:¬(k:Int)<(l.length:Int):=aa;simp-implicitDefEqProofs(disch:=try exact ai)only[qL,s9,aj,aC,s,decide_false,s_];rw[List.drop_of_length_le aa];exact aG.2 ⟨b,rfl,h,.refl _ _,λe=> .inl e,λe=>⟨e,rfl⟩⟩
 |j+1,k,m+1,L,H,b,q,hm,h,d,aA,i=>by
  have s:(k:Int)<(l.length:Int):=aa;have t:k<l.length:=aa;have on:=Mm z o al (lv:=lv) (N:=N) j (k+1) m;obtain⟨p,i1,i2⟩:=i.int (j:=(k:Int)) (a:=((l[k]:Nat):Int)) aa (by simp[aX,t]);obtain⟨R,i3,i4⟩:=i.int (j:=0) (a:=((a:Nat):Int)) aa (by simp[aX,o]);have f:a<L.length:=aA a (List.mem_of_getElem? o);have aq:l[k]<L.length:=aA _ (List.getElem_mem t);rw[List.drop_eq_getElem_cons t,j6];generalize l[k]=c at*;have Q:=vz h.g f aq;simp-implicitDefEqProofs(disch:=try exact ai)only[qL,s9,aj,aC,s,decide_true,i1,i2,i3,i4];refine aZ (R4 h f aq d) ?_;rintro _ H1 ⟨rfl,af,n⟩;refine⟨n.1,?_⟩;have E:∀x∈l,x<(gS L a c).length:=λx aN=>by rw[nG];exact aA x aN
  have B:aO aT H1 ok (aX l) lv:=i.keep (.mut n λk q e=>z k q e);have G:=vy (bs:=l.drop (k+1)) af.g (by rw[nG];exact f) λx aN=>E x (List.mem_of_mem_drop aN)
  by_cases e:aW L a=aW L c
  ·have M:=vx e;rw[M]at af G ⊢;simp-implicitDefEqProofs(disch:=try exact ai)only[aj,aC,e,ne_eq,not_true,decide_false,Cp,cq (show k<=1000000000 by omega)];exact(on L H1 b aa aa af d aA B).mono λr H' ⟨b',u,v,w,K,y⟩=>⟨b',u,v,n.trans w,K,y⟩
  ·simp-implicitDefEqProofs(disch:=try exact ai)only[aj,aC,e,ne_eq,not_false_eq_true,decide_true,Cp,cq (show k<=1000000000 by omega)];have O:=Jj h.g f aq e;have hle:=G.vY;exact(on _ H1 C aa aa af (by rw[nG];exact d) E B).mono λr H' ⟨b',u,v,w,K,y⟩=>⟨b',u,v,n.trans w,λ_=> .inr aa,λe=>absurd (y e).1 bU⟩
def Mn{ok:Nat->Prop}(g:∀k,ok k->k≠zD){l:List Nat}(al:l.length<=1000000000){lv:ae}{L:List Nat}(h:eC zD L H)(f:L.length<=1000000)(aA:∀x∈l,x<L.length)(d:aO aT H ok (aX l) lv):
  W (aQ P aK 187 [.ptr (zD+1) 0 0,lv] H) λr H'=>∃b,r= .bool b/\eC zD (oc L l) H'/\e8 (· =zD) H H'/\(b=C->ht (oc L l)<ht L)/\(b=Z->oc L l=L):=by
 refine X2 (l.length+1) ?_;have hlen:(aX l).length=l.length:=by simp[aX]
 have i:=d.len b6 (H0:=H);rw[hlen]at i;simp-implicitDefEqProofs(disch:=try exact ai)only[Co,br,d.len b6,hlen];cases c:l with
 |nil=>
  subst c;simp-implicitDefEqProofs(disch:=try exact ai)only[qL,s9,Nat.reduceAdd,aj,aJ,aC,List.length_nil,Int.ofNat_zero,Int.lt_irrefl,decide_false,s_];exact aG.2 ⟨Z,rfl,h,.refl _ _,(λe=>by cases e),λ_=>rfl⟩
 |cons a bs=>
  rw[<-c];refine(Mm g (l:=l) (a:=a) (by rw[c];rfl) al l.length 0 _ L H Z aa aa h f aA d).mono λr H' ⟨b',j,m,n,o,p⟩=>⟨b',j,?_,n,?_,?_⟩
  all_goals rw[List.drop_zero,c,TS]at*
  ·exact m
  ·exactλe=>(o e).resolve_left bU
  ·exactλe=>(p e).2
end
end
section
open Go.a2
set_option maxRecDepth 2000
noncomputable def eS(L:List Nat)(i:Nat):List Nat:=cY i λs=>aW L s=s
noncomputable def fN(L:List Nat)(r:Nat):Nat:=(eS L r).length
noncomputable def cA(L:List Nat):List (List Nat):=(eS L L.length).map λr=>cY L.length λs=>aW L s=r
def oj:ek ae:=⟨1,λ_ _ v cs=>cs=[v]/\v.one=C,by rintro _ _ v _ ⟨rfl,h⟩;exact⟨rfl,by simp[h]⟩,λ_ h=>h⟩
def JU:Plain oj:=λh=>h
def iK(f:Nat->Nat)(R:List Nat):List (ae×ae):=R.map λr=>(.int .i64 (r:Nat),.int .i64 (f r:Nat))
def TW(a b:Nat):nH (TypeDesc.int .i64) (.int .i64 (a:Nat)) (.int .i64 (b:Nat))=D (decide (a=b)):=by
 have:nH (TypeDesc.int .i64) (.int .i64 (a:Nat)) (.int .i64 (b:Nat))=D (((a:Nat):Int)==((b:Nat):Int)):=rfl;rw[this];by_cases e:a=b
 ·simp[e]
 ·rw[decide_eq_false e,beq_eq_false_iff_ne.2 λh=>e (by exact_mod_cast h)]
def zo(f:Nat->Nat)(r:Nat):∀(R:List Nat) (i:Nat),(r∉R->mD (TypeDesc.int .i64) (.int .i64 (r:Nat)) (iK f R) i=D I)/\(r∈R->∃j,mD (TypeDesc.int .i64) (.int .i64 (r:Nat)) (iK f R) i=D (D (j,.int .i64 (f r:Nat))))
 |[],i=>⟨λ_=>rfl,λh=>by simp at h⟩
 |e::es,i=>by
  obtain⟨af,ah⟩:=zo f r es (i+1);simp only[iK,List.map_cons,mD,TW]at af ah ⊢;by_cases he:r=e
  ·rw[decide_eq_true he];exact⟨λh=>absurd (by rw[he];simp) h,λ_=>⟨i,by rw[he]⟩⟩
  ·rw[decide_eq_false he];exact⟨λh=>af λhm=>h (by simp[hm]),λh=>ah (by simpa [he]using h)⟩
def Mx:P.underlying 293=D (.map 3 3):=aF
def My:P.underlying 3=D (.int .i64):=aF
def z3:e2 P 3=D (.int .i64 0):=aF
def AS{H:ad}{M:Nat}{f:Nat->Nat}{R:List Nat}(g:H.get M=D (.map (iK f R))){r:Nat}(au:r∈R):k2 P H 293 (.map M) (.int .i64 (r:Nat)) Z=D (.int .i64 (f r:Nat)):=by
 obtain⟨j,e⟩:=(zo f r R 0).2 au;simp[k2,Mx,My,z3,plainKey,g,e]
def acs{H:ad}{M:Nat}{f:Nat->Nat}{R:List Nat}(g:H.get M=D (.map (iK f R))){r:Nat}(au:r∉R):iD P H 293 (.map M) (.int .i64 (r:Nat)) (.int .i64 (f r:Nat))=D (H.set M (.map (iK f (R++[r])))):=by
 have e:iK f (R++[r])=iK f R++[(.int .i64 (r:Nat),.int .i64 (f r:Nat))]:=by simp[iK]
 simp[iD,Mx,My,plainKey,g,(zo f r R 0).1 au,e]
section
variable {zD M:Nat}{L R:List Nat}{i:Nat}{H:ad}{ov:ae}{dv:Nat->ae}
structure hN(zD M:Nat)(L R:List Nat)(i:Nat)(H:ad)(ov:ae)(dv:Nat->ae):Prop where
 fd:eC zD L H
 mp:H.get M=some (.map (iK (fN L) R))
 out:bq oj (M+1) bk H ((List.range R.length).map dv) ov
 l5:∀j r,R[j]? =some r->bq aT (M+1) bk H (aX (cY i λs=>aW L s=r)) (dv j)
 fL:∀j a K,j<R.length->a<R.length->c_ (dv j)=some K->c_ (dv a)=some K->j=a
 qq:∀j K,j<R.length->c_ (dv j)=some K->c_ ov≠some K
 fZ:zD+1<M
def hN.mlt(h:hN zD M L R i H ov dv):M<H.next:=ad.bE h.mp
def hN.frame{H':ad}(h:hN zD M L R i H ov dv)(fd:eC zD L H')(aP:∀k,M<=k->k<H.next->H'.get k=H.get k):hN zD M L R i H' ov dv:=
 ⟨fd,(aP M (bC _) h.mlt).trans h.mp,h.out.frame JU λK e=>aP K (by have:=(h.out.iP e).1;omega) (h.out.iP e).2,λj r a=>(h.l5 j r a).frame fP λK e=>aP K (by have:=((h.l5 j r a).iP e).1;omega) ((h.l5 j r a).iP e).2,h.fL,h.qq,h.fZ⟩
def hN.jm(h:hN zD M L R i H ov dv){j K:Nat}(a:j<R.length)(e:c_ (dv j)=D K):M+1<=K/\K<H.next:=(h.l5 j R[j] (by simp[a])).iP e
def Ku(L:List Nat)(i:Nat):eS L (i+1)=eS L i++(if aW L i=i then[i]else[]):=by
 unfold eS;rw[nS]
 congr 1
 by_cases h:aW L i=i<;>simp[h]
open Classical in
def j_(m:Nat)(p:Nat->Prop):(cY m p).length<=m:=by
 have:=List.length_filter_le (λs=>decide (p s)) (List.range m);rw[List.length_range]at this;exact this
def JS{m:Nat}{p:Nat->Prop}{j d r:Nat}(h:(cY m p)[j]? =D r)(bY:(cY m p)[d]? =D r):j=d:=by
 obtain⟨a,b⟩:=List.getElem?_eq_some_iff.1 h;obtain⟨b8,b'⟩:=List.getElem?_eq_some_iff.1 bY;have s:=List.pairwise_iff_getElem.1 (sr m p);rcases Nat.lt_trichotomy j d with c|c|c
 ·have:=s j d a b8 c;omega
 ·exact c
 ·have:=s d j b8 a c;omega
def hN.root(h:hN zD M L R i H ov dv)(U:i∉R)(S:R.length=fN L i)(G:cY i (λs=>aW L s=i)=[])(T:R.length<=1000000):
  ∃d H',ee P ((H.set M (.map (iK (fN L) (R++[i])))).push (.row Z 1 [[ae.aB]])) [31,31] ov (.aD H.next 0 1 1 (D 1))=D (d,H')/\H.next+1<=H'.next/\hN zD M L (R++[i]) i H' d (dd dv R.length .aB)/\(∀k,k<M->H'.get k=H.get k):=by
 have hm:=h.mlt;have w:∀k,k≠M->(H.set M (.map (iK (fN L) (R++[i])))).get k=H.get k:=λk m=>ad.cb (Ne.symm m)
 have O:bq oj (M+1) bk (H.set M (.map (iK (fN L) (R++[i])))) ((List.range R.length).map dv) ov:=h.out.frame JU λK e=>w K (by have:=(h.out.iP e).1;omega)
 obtain⟨d,H',a8,bo,bJ,bT,cn,cy⟩:=bq.pT (K:=oj) (ok:=bk) (ok':=bk) e4 O (by simp;omega) (av.refl _) (a:=ae.aB) (cs:=[.aB]) ⟨rfl,rfl⟩ (λ_ _=>trivial) (by simp;omega);have t:(H.set M (.map (iK (fN L) (R++[i])))).next=H.next:=by simp
 have low:∀k,k<M->H'.get k=H.get k:=λk m=>(bJ.2 k aa).trans (w k aa)
 have Q:∀k,M<k->k<H.next->c_ ov≠D k->H'.get k=H.get k:=λk m E al=>(cn k (by rw[t];exact E) λL n c e=>by rintro rfl;exact al (by rw[e];rfl)).trans (w k aa)
 have N:c_ d=c_ ov\/c_ d=D (H.next+1):=by
  rcases cy with e|⟨n,e⟩
  ·exact .inl (by rw[e])
  ·exact .inr (by rw[e,t];rfl)
 have nn:H.next+1<=H'.next:=by rw[t]at bT;omega
 rw[t]at a8;refine⟨d,H',a8,nn,⟨?_,?_,?_,?_,?_,?_,h.fZ⟩,low⟩
 ·obtain⟨bx,u,g⟩:=h.fd.u;have:=h.fZ;exact⟨h.fd.g,(low _ aa).trans h.fd.f,bx,u,(low _ aa).trans g⟩
 ·rw[bJ.2 M aa];exact ad.c8 hm
 ·have e:(List.range (R++[i]).length).map (dd dv R.length .aB)=(List.range R.length).map dv++[.aB]:=by
   have l:(List.range R.length).map (dd dv R.length .aB)=(List.range R.length).map dv:=List.map_congr_left λk m=>eo _ _ (by have:=List.mem_range.1 m;omega)
   rw[List.length_append,List.length_singleton,List.range_succ,List.map_append,l,List.map_singleton,gp]
  rw[e];exact bo
 ·intro j r b;by_cases e:j=R.length
  ·subst e;simp at b;subst b;rw[gp,G];exact bq.nil aT _ _ _
  ·have p:j<R.length:=by have:=(List.getElem?_eq_some_iff.1 b).1;simp at this;omega
   rw[List.getElem?_append_left p]at b;rw[eo _ _ e];exact(h.l5 j r b).frame fP λK v=>Q K (by have:=(h.jm p v).1;omega) (h.jm p v).2 (h.qq j K p v)
 ·intro j x K b B e o;simp at b B;by_cases q:j=R.length
  ·subst q;rw[gp]at e;cases e
  ·by_cases y:x=R.length
   ·subst y;rw[gp]at o;cases o
   ·rw[eo _ _ q]at e;rw[eo _ _ y]at o;exact h.fL j x K aa aa e o
 ·intro j K b e;simp at b;by_cases q:j=R.length
  ·subst q;rw[gp]at e;cases e
  ·rw[eo _ _ q]at e;rcases N with l|l
   ·rw[l];exact h.qq j K aa e
   ·rw[l];intro z;cases z;have:=(h.jm (by omega:j<R.length) e).2;omega
def hN.put(h:hN zD M L R i H ov dv){c:Nat}(aq:R[c]? =D (aW L i))(an:∀(j E r:Nat),R[j]? =D r->R[E]? =D r->j=E)(aw:i<=1000000):
  ∃O cap m H',ov= .aD O 0 R.length 1 cap/\c<R.length/\(∀H1,(∀k,M<=k->k<H.next->(∀q,c_ (dv c)=D q->k≠q)->H1.get k=H.get k)->aI P H1 30 (.ptr O c 0)=D (dv c))/\
   ee P (H.push (.row Z 1 [[.int .i64 (i:Nat)]])) [30,30] (dv c) (.aD H.next 0 1 1 (D 1))=D (m,H')/\H.next+1<=H'.next/\(∀k,k<H.next->(∀q,c_ (dv c)=D q->k≠q)->H'.get k=H.get k)/\
   ∃b,cD P H' 30 (.ptr O c 0) m=D (H'.set O b)/\hN zD M L R (i+1) (H'.set O b) ov (dd dv c m)/\M<O:=by
 have v:c<R.length:=(List.getElem?_eq_some_iff.1 aq).1;have hm:=h.mlt;have am:=h.l5 c _ aq;obtain⟨m,H',a8,bo,bJ,bT,cn,cy⟩:=bq.pT (K:=aT) (ok:=bk) (ok':=bk) b6 am aa (av.refl _) (a:=(i:Int)) (cs:=[.int .i64 (i:Nat)]) rfl (λ_ _=>trivial) (by
  have:=j_ i (λs=>aW L s=aW L i);simp[aX]at this ⊢;omega)
 have V:∀k,k<H.next->(∀q,c_ (dv c)=D q->k≠q)->H'.get k=H.get k:=λk z al=>cn k z λL n q e=>by rintro rfl;exact al _ (by rw[e];rfl) rfl
 rcases h.out.e9 with⟨_,e⟩|⟨O,els,cap,y,_,g,ae,cc,af⟩
 ·have:=congrArg List.length e;rw[List.length_map,List.length_range,List.length_nil]at this;omega
 simp only[List.length_map,List.length_range]at y ae cc;have Y:c_ ov=D O:=by rw[y];rfl
 have W:=h.out.iP Y;have T:∀j,j<R.length->els[j]? =D [dv j]:=λj d=>by
  obtain⟨cs,ap,rfl,_⟩:=af j (dv j) (by simp[d]);exact ap
 have G:∀j,j<R.length->∀q,c_ (dv j)=D q->O≠q:=λj d q aN e=>h.qq j q d aN (by rw[Y,e])
 have ah:=(V O W.2 λq aN=>G c v q aN).trans g;have v1:=bo.aD.one;have ab:=dx v1;have nn:H.next<=H'.next:=aa
 have low:∀k,k<M+1->H'.get k=H.get k:=λk z=>bJ.2 k z
 have B:∀k,k≠O->(H'.set O (.row Z 1 (els.set c [m]))).get k=H'.get k:=λk z=>ad.cb (Ne.symm z)
 have Q:c_ m=c_ (dv c)\/c_ m=D (H.next+1):=by
  rcases cy with e|⟨n,e⟩
  ·exact .inl (by rw[e])
  ·exact .inr (by rw[e];rfl)
 refine⟨O,cap,m,H',y,v,λH1 aj=> ?_,a8,bT,V,.row Z 1 (els.set c [m]),?_,⟨?_,?_,?_,?_,?_,?_,h.fZ⟩,aa⟩
 ·rw[e_ aF ((aj O aa W.2 (G c v)).trans g) (T c v)];rfl
 ·rw[gf (n:=1) aF ah (e:=[dv c]) (T c v) (by rw[ab];rfl) (by rw[ab];simp[v1]) bU,ab];rfl
 ·obtain⟨bx,u,ai⟩:=h.fd.u;have:=h.fZ;exact⟨h.fd.g,by rw[B _ aa];exact(low _ aa).trans h.fd.f,bx,u,by rw[B _ aa];exact(low _ aa).trans ai⟩
 ·rw[B _ aa,low _ aa];exact h.mp
 ·refine⟨.inr ⟨O,els.set c [m],cap,by rw[y];simp,trivial,ad.c8 aa,by simpa using ae,by simpa using cc,λj x d=> ?_⟩,λar n q e=>by rw[y]at e;cases e;exact W.1⟩;have w:j<R.length:=by have:=(List.getElem?_eq_some_iff.1 d).1;simpa using this
  simp[w]at d;subst d;by_cases q:j=c
  ·subst q;rw[gp];exact⟨[m],by rw[List.getElem?_set_self aa],rfl,v1⟩
  ·rw[eo _ _ q];exact⟨[dv j],by rw[List.getElem?_set_ne (Ne.symm q)];exact T j w,rfl,(h.l5 j R[j] (by simp[w])).aD.one⟩
 ·intro j r d;have w:j<R.length:=(List.getElem?_eq_some_iff.1 d).1;by_cases q:j=c
  ·subst q;rw[aq]at d;cases d;rw[gp];have U:aX (cY (i+1) λs=>aW L s=aW L i)=aX (cY i λs=>aW L s=aW L i)++[(i:Int)]:=by rw[nS];simp[aX]
   rw[U];exact bo.frame fP λK t=>B K (by
    rintro rfl;rcases Q with l|l
    ·rw[l]at t;exact G j v _ t rfl
    ·rw[l]at t;cases t;omega)
  ·rw[eo _ _ q];have au:aW L i≠r:=by
    rintro rfl;exact q (an j c _ d aq)
   have U:(cY (i+1) λs=>aW L s=r)=cY i λs=>aW L s=r:=by rw[nS];simp[au]
   rw[U];exact(h.l5 j r d).frame fP λK t=>by
    have ak:=h.jm w t;rw[B K λe=>G j w K t e.symm];exact V K ak.2 λp ao e=>q (h.fL j c K w v t (by rw[ao,e]))
 ·intro j E K d N e o;by_cases q:j=c<;>by_cases S:E=c
  ·rw[q,S]
  ·subst q;rw[gp]at e;rw[eo _ _ S]at o;rcases Q with l|l
   ·rw[l]at e;exact h.fL _ _ K d N e o
   ·rw[l]at e;cases e;have:=(h.jm N o).2;omega
  ·subst S;rw[eo _ _ q]at e;rw[gp]at o;rcases Q with l|l
   ·rw[l]at o;exact h.fL _ _ K d N e o
   ·rw[l]at o;cases o;have:=(h.jm d e).2;omega
  ·rw[eo _ _ q]at e;rw[eo _ _ S]at o;exact h.fL j E K d N e o
 ·intro j K d e;by_cases q:j=c
  ·subst q;rw[gp]at e;rcases Q with l|l
   ·rw[l]at e;exact h.qq j K d e
   ·rw[l]at e;cases e;rw[Y];intro ag;cases ag;omega
  ·rw[eo _ _ q]at e;exact h.qq j K d e
def wA(g:a2.Good L){r m:Nat}(au:aW L r=r)(hm:r<m):(eS L m)[fN L r]? =D r:=JR hm au
def o0{m r:Nat}:r∈eS L m↔r<m/\aW L r=r:=fB
def qy(m:Nat):(eS L m).length<=m:=j_ m _
def LA{N:Nat}(T:L.length<=1000000){H0:ad}(U:M=H0.next):∀(j k m:Nat) (H:ad) (ov:ae) (dv:Nat->ae),k+j=L.length->j<m->hN zD M L (eS L k) k H ov dv->e8 (· =zD) H0 H->
  W (pa (aQ P aK) N m (.ptr (zD+1) 0 0) ov (.map M) (.int .i64 L.length) (.int .i64 k) H) λr H'=>∃i,hN zD M L (eS L L.length) L.length H' r i/\e8 (· =zD) H0 H'
 |_,_,0,_,_,_,_,hm,_,_=>aa
 |0,k,m+1,H,ov,dv,Y,_,h,v=>by
  have l:¬(k:Int)<(L.length:Int):=aa;have e:k=L.length:=aa;subst e;simp-implicitDefEqProofs(disch:=try exact ai)only[pa,xu,aj,aC,l,decide_false,qN];exact aG.2 ⟨dv,h,v⟩
 |j+1,k,m+1,H,ov,dv,Y,hm,h,v=>by
  have l:(k:Int)<(L.length:Int):=aa;have ab:k<L.length:=aa;have on:=LA (N:=N) T U j (k+1) m;simp-implicitDefEqProofs(disch:=try exact ai)only[pa,xu,aj,aC,l,decide_true];refine aZ (AN h.fd ab) ?_;rintro _ H1 ⟨rfl,f1,u⟩;refine⟨u.1,?_⟩;have aO:=h.fZ;have af:=h.frame f1 λq aN al=>u.2 q al aa
  have w:=v.trans u;have rX:=h.fd.g.le k;have t:∀(a:ad) (c:ae) (hk:Nat->ae),hN zD M L (eS L (k+1)) k a c hk->e8 (· =zD) H0 a->
    W (te (aQ P aK) N (pa (aQ P aK) N m) (.ptr (zD+1) 0 0) c (.map M) (.int .i64 k) (.int .i64 (aW L k:Nat)) (.int .i64 L.length) (.int .i64 k) a) λr H'=>∃i,hN zD M L (eS L L.length) L.length H' r i/\e8 (· =zD) H0 H':=by
   intro a c hk ah B;have au:aW L (aW L k)=aW L k:=h.fd.g.id k;have aq:=wA (m:=k+1) h.fd.g au aa;obtain⟨O,cap,G,aH,d,y,eM,ap,nn,x,b,st,an,aL⟩:=ah.put aq (λj aP r=>JS) aa;have pp:=av.push a (.row Z 1 [[.int .i64 (k:Nat)]]);have n:aW L k∈eS L (k+1):=List.mem_of_getElem? aq;have ay:=AS ah.mp n;have az:=AS (pp.get ah.mp) n;have V:=ah.mlt;have ar:∀q,c_ (hk (fN L (aW L k)))=D q->M≠q:=λq aN e=>by have:=(ah.jm y aN).1;omega
   have aA:=AS ((x M V ar).trans ah.mp) n;have aw:=eM a λ_ _ _ _=>rfl
   have ax:=eM (a.push (.row Z 1 [[.int .i64 (k:Nat)]])) λq _ aN _=>pp.2 q aN
   have aM:cap=cap:=rfl;have ao:cm P 31 c (.int .i64 ((fN L (aW L k):Nat):Int))=D (.ptr O (fN L (aW L k)) 0):=by
    rw[d,nF e4 aa aa];simp
   have aE:ae.beq (hk (fN L (aW L k))) (hk (fN L (aW L k)))=true:=((ah.l5 _ _ aq).aD).rd;have aF:bF (D (hk (fN L (aW L k)))) (hk (fN L (aW L k)))=true:=by simp[bF,aE]
   simp-implicitDefEqProofs(disch:=try exact ai)only[te,xw,aj,aJ,aC,ay,az,aA,ao,aw,ax,ej,ap,st,aF,cq (show k<=1000000000 by omega)];refine on _ c _ aa aa an ?_;have aI:H0.next<=a.next:=B.1
   refine⟨by simp;omega,λq aN o=> ?_⟩;rw[ad.cb aa,x q aa λp ak e=>by have:=(ah.jm y ak).1;omega];exact B.2 q aN o
  by_cases e:aW L k=k
  ·have d:(((aW L k:Nat):Int)==((k:Nat):Int))=true:=by simp[e]
   have hlen:=af.out.aD.len (K:=oj) e4 (H0:=H1);rw[List.length_map,List.length_range]at hlen;have z:∀H0,bL P H0 .len [31] [ov]=D (.int .i64 ((fN L (aW L k):Nat):Int)):=λH0=>by
    have:=af.out.aD.len (K:=oj) e4 (H0:=H0);rw[List.length_map,List.length_range]at this;rw[this,e];rfl
   have ag:aW L k∉eS L k:=λhm=>by have:=(o0.1 hm).1;omega
   have up:=acs (f:=fN L) af.mp ag;have es:eS L (k+1)=eS L k++[k]:=by rw[Ku,if_pos e]
   obtain⟨G,a,Q,R,a3,a4⟩:=af.root (λhm=>by have:=(o0.1 hm).1;omega) rfl (by
    have:∀s,s∉cY k λs=>aW L s=k:=λs am=>by
     have:=fB.1 am;have:=h.fd.g.le s;omega
    exact List.eq_nil_iff_forall_not_mem.2 this) (by have:=qy (L:=L) k;omega)
   rw[e]at up;rw[e]at z;rw[e]at t;have E:(H1.set M (.map (iK (fN L) (eS L k++[k])))).next=H1.next:=by simp
   rw[e];simp only[na,GQ,beq_self_eq_true,MY,gP,br,z,M6];have S:((H1.set M (.map (iK (fN L) (eS L k++[k])))).push (.row Z 1 [[ae.aB]])).next<=a.next:=by rw[ad.dm,E];exact R
   rw[up,pA (by simp)];simp only[nb,E,Q];rw[y7 S];refine t a G _ (by rw[es];exact a3) ⟨by have:=w.1;omega,λq aN o=> ?_⟩;rw[a4 q aa];exact w.2 q aN o
  ·have d:(((aW L k:Nat):Int)==((k:Nat):Int))=false:=beq_eq_false_iff_ne.2 λh=>e (by exact_mod_cast h)
   have es:eS L (k+1)=eS L k:=by rw[Ku,if_neg e,List.append_nil]
   simp-implicitDefEqProofs(disch:=try exact ai)only[aj,aC,d];exact t H1 ov dv (by rw[es];exact af) w
def LB(h:eC zD L H)(y:L.length<=1000000):W (aQ P aK 189 [.ptr (zD+1) 0 0] H) λr H'=>eC zD L H'/\aO (b1 aT) H' (λk=>H.next<=k) ((cA L).map aX) r/\e8 (· =zD) H H':=by
 refine X4 (L.length+1) ?_;have u:bm P .eql 253 C (.ptr (zD+1) 0 0) .gI=D (.bool Z):=aF;have w:=h.lt;have m:=av.push H (.map []);have hlen:∀H0,bL P H0 .len [30] [.aD zD 0 L.length 1 (D L.length)]=D (.int .i64 L.length):=λH0=>hI (e:=3) aF _ _ _ _ _
 simp-implicitDefEqProofs(disch:=try exact ai)only[Cs,br,aj,aJ,aL,u,(h.aE m).ma,hlen];have af:hN zD H.next L (eS L 0) 0 (H.push (.map [])) .aB λ_=> .aB:=by
  have e:eS L 0=[]:=rfl;rw[e];exact⟨h.aE m,ad.a_ _ _,bq.nil oj _ _ _,λj r b=>by simp at b,λj Q K b=>by simp at b,λj K b=>by simp at b,w⟩
 refine(LA y rfl L.length 0 _ _ _ _ aa aa af (m.mut _)).mono ?_;rintro r H' ⟨d,ah,E⟩;refine⟨ah.fd,?_,E⟩;have e:(cA L).map aX=(eS L L.length).map λr=>aX (cY L.length λs=>aW L s=r):=by simp[cA,Function.comp_def]
 rw[e];rcases ah.out.e9 with⟨c,f⟩|⟨O,els,cap,c,_,g,o,cc,f⟩
 ·have:=congrArg List.length f;rw[List.length_map,List.length_range,List.length_nil]at this;rw[List.length_eq_zero_iff.1 this,c];exact .nil
 ·have N:=ah.out.iP (by rw[c];rfl:c_ r=D O);simp only[List.length_map,List.length_range]at c o;refine .inr (.inl ⟨O,0,cap,Z,els,by rw[c];simp[b1];rfl,aa,g,by simpa using o,λj x b=> ?_⟩);have l:j<(eS L L.length).length:=by have:=(List.getElem?_eq_some_iff.1 b).1;simpa using this
  obtain⟨cs,G,rfl,_⟩:=f j (d j) (by simp[l]);rw[List.getElem?_map,List.getElem?_eq_getElem l]at b;cases b;refine⟨[d j],by rw[Nat.zero_add];exact G,d j,rfl,?_⟩;have n:=ah.l5 j _ (List.getElem?_eq_getElem l);rcases n.e9 with z|⟨q,v,t,p,R,z3,z4,z5,M⟩
  ·exact .inl z
  ·refine .inr (.inl ⟨q,0,t,Z,v,p,?_,z3,by rw[Nat.zero_add];exact z4,λi a B=>by rw[Nat.zero_add];exact M i a B⟩);have:=n.low _ _ _ p;omega
