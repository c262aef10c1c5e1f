/-
  Texts of one proof, laid together: Te Tf Tg Th Ti Tj ShJ Tk Tl Tm.
-/
import Derived.Test.YtmhhnnklfcbgfaaGreatMO
set_option linter.unusedVariables false
set_option linter.unusedSimpArgs false
set_option linter.defProp false
open Option renaming some→A
open Bool renaming true→J,false→I
open Go.cw.af renaming int→D,bool→C
open Go.IntKind renaming i64→F
namespace Go.Proofs.YtmhhnnklfcbgfaaGreat
open Go.cw
open Nat (reduceAdd reduceLeDiff)
section
open Go.a_
set_option maxRecDepth 2000
section
variable {n m M:Nat}{ll:List Nat}{fls:List (List Nat)}{nv fv:af}{l:List bp}
structure qh(c:bp)(zX M:Nat)(ll:List Nat)(H:ae):Prop where
 g:H.get zX=some (.row false 4 [cU c])
 nl:zX∉ll
 k7:zX≠M
def qh.fy{c:bp}{zX M:Nat}{ll:List Nat}{H H':ae}(h:qh c zX M ll H)(f:iu M ll H H'):qh c zX M ll H':=⟨by rw[f.2 zX (ae.bq h.g) h.nl h.k7];exact h.g,h.nl,h.k7⟩
def l3.seq{B:Nat->List Bool}{t:Bool}{H H1 b:ae}{zF G K:(Nat->List Bool)->Prop}{a:Nat->List Bool}{t1:Bool}(z3:kS (n+m*8) t B t1 a)(z5:iu M ll H H1)(h:l3 n m M l ll fls nv fv a t1 H1 G b)(f:t1=I->G a->K B):l3 n m M l ll fls nv fv B t H K b:=by
 obtain⟨d,t2,g,i,c,j,k⟩:=h;exact⟨d,t2,g,i,z3.trans c,λe=>f (c.off e).1 (j e),z5.trans k⟩
theorem KW{a b f zX:Nat}(hm:m<=1000000)(G:a<n)(K:b<n)(aC:f<8)(aA:bp.load a b f∈l){N:Nat}:∀(j k q:Nat) (H:ae) (B:Nat->List Bool) (t:Bool),k+j=m->j<q->e7 n m M ll fls nv fv B t H->h0 n m l B->qh (.load a b f) zX M ll H->(t=I->∀z,z<k->di (B b) z=J->∀s,di (B (n+z*8+f)) s=J->di (B a) s=J)->
  W (td (aK P aG) N q (.ptr M 0 0) (.ptr zX 0 0) (D F (k:Nat)) H) λr H'=>r= .tuple []/\l3 n m M l ll fls nv fv B t H (λB=>kP n B (.load a b f)) H'
 |_,_,0,_,_,_,_,aJ,_,_,_,_=>ad
 |0,k,q+1,H,B,t,S,_,s,c,p,aP=>by
  have aa:¬(k:Int)<(m:Int):=ad;have o:eB (.ptr M 0 0)=A (.ptr M 0 0):=rfl;have i:∀H0,bE P H0 .len [204] [fv]=A (D F m):=λH0=>by rw[s.aC.len po,s.dD]
  refine c_ @td.eq_2 @vK.eq_1 o (ih s.bX) i ?_;refine aD.2 ⟨rfl,B,t,s,c,.refl _ _ _,λe z s1 d T=>aP e z ?_ d s1 T,.refl _ _ _⟩;have:=D8 d;rw[c.len]at this;omega
 |j+1,k,q+1,H,B,t,S,aJ,s,c,p,aP=>by
  have L:k<m:=ad;have o:eB (.ptr M 0 0)=A (.ptr M 0 0):=rfl;have i:∀H0,bE P H0 .len [204] [fv]=A (D F m):=λH0=>by rw[s.aC.len po,s.dD]
  obtain⟨af,L1,v,x,a3⟩:=s.node K;obtain⟨E,h⟩:=s.bit c.len a3 L;obtain⟨ah,L2,a4,a5,R⟩:=s.node G;obtain⟨ai,w,aj,L3,a1,bd,bn,bI,bY,_⟩:=s.ee L aC;have lc:=fZ p.g (k:=3) (a:=(a:Int)) (b:=(b:Int)) (f:=(f:Int)) rfl;have on:=KW (zX:=zX) hm G K aC aA (N:=N) j (k+1) q;have O:=fB (show k<=1000000000 by omega);cases u:di (B b) k with
  |false=>
   rw[u]at h;refine bh @td.eq_2 @vK.eq_1 @Gu.eq_1 o (ih s.bX) (ag i (ag lc (ag v (ag x (ag E (ag h O)))))) ?_;grind
  |true=>
   rw[u]at h;refine bh @td.eq_2 @vK.eq_1 o (ih s.bX) i (ag lc (ag v (ag x (ag E (ag h (ag a4 (ag a5 (ag a1 (ag bd (ag bn bI)))))))))) ?_;refine cK (vm hm R bY (λz d=> .load aA (c.snd b k u) d) s c) ?_;rintro _ H1 ⟨rfl,Q,t1,U,V,z3,z4,z5⟩;refine⟨z5.1,?_⟩;refine bG @Gu.eq_1 O ?_;refine(on H1 Q t1 ad ad U V (p.fy z5) λe z d Y=> ?_).mono ?_
   ·obtain⟨ab,rfl⟩:=z3.off e;grind
   ·rintro r H' ⟨rfl,y⟩;exact⟨rfl,.seq (zF:=λ_=>True) z3 z5 y λe g=>by rw[(z3.off e).2]at g;exact g⟩
theorem KY{a b f zX:Nat}(hm:m<=1000000)(G:a<n)(K:b<n)(aC:f<8)(aA:bp.store a b f∈l){N:Nat}:∀(j k q:Nat) (H:ae) (B:Nat->List Bool) (t:Bool),k+j=m->j<q->e7 n m M ll fls nv fv B t H->h0 n m l B->qh (.store a b f) zX M ll H->(t=I->∀z,z<k->di (B a) z=J->∀s,di (B b) s=J->di (B (n+z*8+f)) s=J)->
  W (te (aK P aG) N q (.ptr M 0 0) (.ptr zX 0 0) (D F (k:Nat)) H) λr H'=>r= .tuple []/\l3 n m M l ll fls nv fv B t H (λB=>kP n B (.store a b f)) H'
 |_,_,0,_,_,_,_,aJ,_,_,_,_=>ad
 |0,k,q+1,H,B,t,S,_,s,c,p,aP=>by
  have aa:¬(k:Int)<(m:Int):=ad;have o:eB (.ptr M 0 0)=A (.ptr M 0 0):=rfl;have i:∀H0,bE P H0 .len [204] [fv]=A (D F m):=λH0=>by rw[s.aC.len po,s.dD]
  refine c_ @te.eq_2 @vL.eq_1 o (ih s.bX) i ?_;refine aD.2 ⟨rfl,B,t,s,c,.refl _ _ _,λe z s1 d T=>aP e z ?_ d s1 T,.refl _ _ _⟩;have:=D8 d;rw[c.len]at this;omega
 |j+1,k,q+1,H,B,t,S,aJ,s,c,p,aP=>by
  have L:k<m:=ad;have o:eB (.ptr M 0 0)=A (.ptr M 0 0):=rfl;have i:∀H0,bE P H0 .len [204] [fv]=A (D F m):=λH0=>by rw[s.aC.len po,s.dD]
  obtain⟨af,L1,v,x,a3⟩:=s.node G;obtain⟨E,h⟩:=s.bit c.len a3 L;obtain⟨ah,L2,a4,a5,R⟩:=s.node K;obtain⟨ai,w,aj,L3,a1,bd,bn,bI,bY,_⟩:=s.ee L aC;have lc:=fZ p.g (k:=4) (a:=(a:Int)) (b:=(b:Int)) (f:=(f:Int)) rfl;have on:=KY (zX:=zX) hm G K aC aA (N:=N) j (k+1) q;have O:=fB (show k<=1000000000 by omega);cases u:di (B a) k with
  |false=>
   rw[u]at h;refine bh @te.eq_2 @vL.eq_1 @Gv.eq_1 o (ih s.bX) (ag i (ag lc (ag v (ag x (ag E (ag h O)))))) ?_;grind
  |true=>
   rw[u]at h;refine bh @te.eq_2 @vL.eq_1 o (ih s.bX) i (ag lc (ag v (ag x (ag E (ag h (ag a4 (ag a5 (ag a1 (ag bd (ag bn bI)))))))))) ?_;refine cK (vm hm bY R (λz d=> .store aA (c.snd a k u) d) s c) ?_;rintro _ H1 ⟨rfl,Q,t1,U,V,z3,z4,z5⟩;refine⟨z5.1,?_⟩;refine bG @Gv.eq_1 O ?_;refine(on H1 Q t1 ad ad U V (p.fy z5) λe z d Y=> ?_).mono ?_
   ·obtain⟨ab,rfl⟩:=z3.off e;grind
   ·rintro r H' ⟨rfl,y⟩;exact⟨rfl,.seq (zF:=λ_=>True) z3 z5 y λe g=>by rw[(z3.off e).2]at g;exact g⟩
theorem KX{a b zX:Nat}(hm:m<=1000000)(h:a<m)(E:b<m)(aA:bp.same a b∈l){N:Nat}:∀(j k q:Nat) (H:ae) (B:Nat->List Bool) (t:Bool),k+j=8->j<q->e7 n m M ll fls nv fv B t H->h0 n m l B->qh (.same a b) zX M ll H->(t=I->∀f,f<k->∀s,di (B (n+a*8+f)) s=J↔di (B (n+b*8+f)) s=J)->
  W (vM (aK P aG) N q (.ptr M 0 0) (.ptr zX 0 0) (D F (k:Nat)) H) λr H'=>r= .tuple []/\l3 n m M l ll fls nv fv B t H (λB=>kP n B (.same a b)) H'
 |_,_,0,_,_,_,_,aJ,_,_,_,_=>ad
 |0,k,q+1,H,B,t,ax,_,s,K,d,aP=>by
  obtain rfl:k=8:=ad;have i:eB (.ptr M 0 0)=A (.ptr M 0 0):=rfl;obtain⟨aE,w,aF,L1,p,u,a3,a4,a5,v⟩:=s.ee h (show 0<8 by omega);have lc:=fZ d.g (k:=5) (a:=(a:Int)) (b:=(b:Int)) (f:=0) rfl;have x:decide (((8:Nat):Int)<8)=false:=bZ;refine bh @vM.eq_2 @AX.eq_1 i (ih s.bX) lc (ag p (ag u (ag v x))) ?_;exact aD.2 ⟨rfl,B,t,s,K,.refl _ _ _,λe f z aC=>aP e f aC z,.refl _ _ _⟩
 |j+1,k,q+1,H,B,t,ax,aJ,s,K,d,aP=>by
  have c:k<8:=ad;have i:eB (.ptr M 0 0)=A (.ptr M 0 0):=rfl;obtain⟨aE,w,aF,L1,p,u,a3,a4,a5,v⟩:=s.ee h c;obtain⟨aV,a1,aY,L2,af,ai,ak,an,aq,aR⟩:=s.ee E c;have lc:=fZ d.g (k:=5) (a:=(a:Int)) (b:=(b:Int)) (f:=0) rfl;have x:decide ((k:Int)<8)=true:=al;have on:=KX (zX:=zX) hm h E aA (N:=N) j (k+1) q;have aH:=fB (show k<=1000000000 by omega);refine bh @vM.eq_2 @AX.eq_1 i (ih s.bX) lc (ag p (ag u (ag v (ag x (ag a3 (ag a4 (ag af (ag ai (ag ak an))))))))) ?_;refine cK (vm hm a5 aq (λz G=> .nG aA c G) s K) ?_;rintro _ H1 ⟨rfl,aN,t1,o,aM,z3,z4,z5⟩;refine⟨z5.1,?_⟩;have O:=d.fy z5;have ay:=fZ O.g (k:=5) (a:=(a:Int)) (b:=(b:Int)) (f:=0) rfl
  obtain⟨aT,a0,aU,aO,U,V,Y,aa,ab,_⟩:=o.ee h c;obtain⟨aX,a2,aZ,aQ,ah,aj,am,ap,ar,_⟩:=o.ee E c;refine bh i (ih o.bX) ay U V (ag Y (ag aa (ag ah (ag aj (ag am ap))))) ?_;refine cK (vm hm ar ab (λz G=> .same aA c G) o aM) ?_;rintro _ T ⟨rfl,S,t2,aI,aL,Q,a6,L⟩;refine⟨L.1,?_⟩;have R:=z3.trans Q;refine bP aH ?_;refine(on T S t2 ad ad aI aL (O.fy L) λe f aC z=> ?_).mono ?_
  ·obtain⟨aB,av⟩:=Q.off e;obtain⟨aS,aw⟩:=z3.off aB;subst av;subst aw;grind
  ·rintro r H' ⟨rfl,y⟩;exact⟨rfl,.seq (zF:=λ_=>True) R (z5.trans L) y λe g=>by rw[(R.off e).2]at g;exact g⟩
def Wa{c:bp}{B:Nat->List Bool}{t:Bool}{H:ae}(hm:m<=1000000)(aA:c∈l)(hw:c.wf n m)(s:e7 n m M ll fls nv fv B t H)(j:h0 n m l B):
  W (aK P aG 136 [.ptr M 0 0,.agg (cU c)] H) λr H'=>r= .tuple []/\l3 n m M l ll fls nv fv B t H (λB=>kP n B c) H':=by
 refine adX (m+9) ?_;have E:=au.push H (.row I 4 [cU c]);have aO:=ae.a2 H (.row I 4 [cU c]);have s1:=s.aB E;have x:eB (.ptr M 0 0)=A (.ptr M 0 0):=rfl;have d:qh c H.next M ll (H.push (.row I 4 [cU c])):=⟨aO,λh=>by
  obtain⟨i,aP,e⟩:=List.mem_iff_getElem.1 h;have:=ae.bq (s.row i H.next (List.getElem?_eq_some_iff.2 ⟨aP,e⟩));omega,by have:=s.lt;omega⟩
 have f0:iu M ll H (H.push (.row I 4 [cU c])):=Yw E;have fin:∀{r:af} {H':ae},r= .tuple []/\l3 n m M l ll fls nv fv B t (H.push (.row I 4 [cU c])) (λB=>kP n B c) H'->r= .tuple []/\l3 n m M l ll fls nv fv B t H (λB=>kP n B c) H':=λh=>
  ⟨h.1,.seq (zF:=λ_=>True) (.refl _ _ _) f0 h.2 λ_ g=>g⟩
 have L:(H.push (.row I 4 [cU c])).next=H.next+1:=rfl
 simp-implicitDefEqProofs(disch:=try exact aW)only[Qq,kM,ji];obtain⟨H1,G⟩:∃H1,H1=H.push (.row I 4 [cU c]):=⟨_,rfl⟩;obtain⟨zX,N⟩:∃zX,zX=H.next:=⟨_,rfl⟩
 rw[<-G]at s1 d fin ⊢;rw[<-N]at d ⊢;clear G f0 aO E L;cases c with
 |base a b=>
  have lc:=fZ d.g (k:=1) (a:=(a:Int)) (b:=(b:Int)) (f:=0) rfl;obtain⟨R,L1,p,q,a3⟩:=s1.node hw.1;obtain⟨u,o⟩:=s1.bit j.len a3 hw.2;have Q:a<n+m*8:=by have:=hw.1;omega
  cases v:di (B a) b with
  |true=>
   rw[v]at o;simp-implicitDefEqProofs(disch:=try exact aW)only[reduceAdd,reduceLeDiff,reduceIte,bB,x,lc,Int.reduceBEq,ih s1.bX,p,q,u,o,Bool.not_true];exact aD.2 (fin ⟨rfl,B,t,s1,j,.refl _ _ _,λ_=>v,.refl _ _ _⟩)
  |false=>
   rw[v]at o;obtain⟨s2,f2⟩:=s1.set (i:=b) a3;obtain⟨gb,f3⟩:=s2.tT J;have O:(B a)[b]? =A false:=by rw[qq (by rw[j.len];exact hw.2),v]
   simp-implicitDefEqProofs(disch:=try exact aW)only[reduceAdd,reduceLeDiff,reduceIte,bB,x,lc,Int.reduceBEq,ih s1.bX,p,q,u,o,Bool.not_false,s1.R5 j.len a3 hw.2,Iv s2.bX];exact aD.2 (fin ⟨rfl,_,J,gb,j.set hw.2 (.base aA),kS.set Q O,λe=>(by cases e),f2.trans f3⟩)
 |copy a b=>
  have lc:=fZ d.g (k:=2) (a:=(a:Int)) (b:=(b:Int)) (f:=0) rfl;obtain⟨R,L1,p,q,a3⟩:=s1.node hw.1;obtain⟨U,L2,u,o,K⟩:=s1.node hw.2;simp-implicitDefEqProofs(disch:=try exact aW)only[reduceAdd,reduceLeDiff,reduceIte,bB,x,lc,Int.reduceBEq,ih s1.bX,p,q,u,o];refine cK (vm hm a3 K (λz w=> .copy aA w) s1 j) ?_;rintro _ T ⟨rfl,y⟩;obtain⟨S,t1,V,Y,z3,z4,z5⟩:=id y;exact⟨z5.1,aD.2 (fin ⟨rfl,y⟩)⟩
 |load a b f=>
  have lc:=fZ d.g (k:=3) (a:=(a:Int)) (b:=(b:Int)) (f:=(f:Int)) rfl;simp-implicitDefEqProofs(disch:=try exact aW)only[reduceAdd,reduceLeDiff,reduceIte,bB,lc,Int.reduceBEq];exact(KW hm hw.1 hw.2.1 hw.2.2 aA m 0 (m+9) H1 B t ad ad s1 j d (λ_ z w=>ad)).mono λr H' h=>fin h
 |store a b f=>
  have lc:=fZ d.g (k:=4) (a:=(a:Int)) (b:=(b:Int)) (f:=(f:Int)) rfl;simp-implicitDefEqProofs(disch:=try exact aW)only[reduceAdd,reduceLeDiff,reduceIte,bB,lc,Int.reduceBEq];exact(KY hm hw.1 hw.2.1 hw.2.2 aA m 0 (m+9) H1 B t ad ad s1 j d (λ_ z w=>ad)).mono λr H' h=>fin h
 |same a b=>
  have lc:=fZ d.g (k:=5) (a:=(a:Int)) (b:=(b:Int)) (f:=0) rfl;simp-implicitDefEqProofs(disch:=try exact aW)only[reduceAdd,reduceLeDiff,reduceIte,bB,lc,Int.reduceBEq];exact(KX hm hw.1 hw.2 aA 8 0 (m+9) H1 B t ad ad s1 j d (λ_ z w=>ad)).mono λr H' h=>fin h
end
end
section
open Go.a_
set_option maxRecDepth 2000
section
variable {H:ae}
theorem yP(a b:Int):W (aK P aG 54 [D F a,D F b] H) λr H'=>r= C (decide (0<=a/\a<b))/\H'=H:=by
 refine afn 0 ?_;by_cases c:0<=a
 ·refine IF @HQ.eq_1 c @decide_true ?_;grind[aD]
 ·refine Sg @HQ.eq_1 c @decide_false false_and ?_;grind[aD]
def kY{n m:Nat}(h:n<m):W (aK P aG 54 [D F n,D F m] H) λr H'=>r= C J/\H'=H:=by
 refine(yP _ _).mono ?_;rintro r H' ⟨rfl,rfl⟩;exact⟨by rw[decide_eq_true];omega,rfl⟩
theorem adl{n m:Nat}{c:bp}(hw:c.wf n m):W (aK P aG 135 [D F n,D F m,D F 8,.agg (cU c)] H) λr H'=>r= C J/\au H H':=by
 refine adW 0 ?_;have g:=au.push H (.row I 4 [cU c]);have d:=ae.a2 H (.row I 4 [cU c]);by_cases e:∃a b,c= .same a b
 ·obtain⟨a,b,rfl⟩:=e;have l:=fZ d (k:=5) (a:=(a:Int)) (b:=(b:Int)) (f:=0) rfl;refine b3 @s_.eq_1 @ji l ?_;refine dK (yP _ _) ?_;simp-implicitDefEqProofs(disch:=try exact aW)only[tc,pS,reduceAdd,reduceLeDiff,reduceIte,bB,l,Int.reduceBEq];refine dK (kY hw.1) ?_;refine bP l ?_;refine ht (kY hw.2) ?_;refine bN ?_;grind[aD]
 cases c with
 |base a b=>
  have l:=fZ d (k:=1) (a:=(a:Int)) (b:=(b:Int)) (f:=0) rfl;refine b3 @s_.eq_1 @ji l ?_;refine dK (kY hw.1) ?_;simp-implicitDefEqProofs(disch:=try exact aW)only[tc,pS,reduceAdd,reduceLeDiff,reduceIte,bB,l,Int.reduceBEq];refine ht (kY hw.2) ?_;refine bN ?_;grind[aD]
 |copy a b=>
  have l:=fZ d (k:=2) (a:=(a:Int)) (b:=(b:Int)) (f:=0) rfl;refine b3 @s_.eq_1 @ji l ?_;refine dK (kY hw.1) ?_;simp-implicitDefEqProofs(disch:=try exact aW)only[tc,pS,reduceAdd,reduceLeDiff,reduceIte,bB,l,Int.reduceBEq];refine ht (kY hw.2) ?_;refine bN ?_;grind[aD]
 |load a b f=>
  have l:=fZ d (k:=3) (a:=(a:Int)) (b:=(b:Int)) (f:=(f:Int)) rfl;refine b3 @s_.eq_1 @ji l ?_;refine dK (kY hw.1) ?_;simp-implicitDefEqProofs(disch:=try exact aW)only[tc,pS,reduceAdd,reduceLeDiff,reduceIte,bB,l,Int.reduceBEq];refine ht (kY hw.2.1) ?_;refine bP l ?_;refine ht (kY (m:=8) hw.2.2) ?_;refine bN ?_;grind[aD]
 |store a b f=>
  have l:=fZ d (k:=4) (a:=(a:Int)) (b:=(b:Int)) (f:=(f:Int)) rfl;refine b3 @s_.eq_1 @ji l ?_;refine dK (kY hw.1) ?_;simp-implicitDefEqProofs(disch:=try exact aW)only[tc,pS,reduceAdd,reduceLeDiff,reduceIte,bB,l,Int.reduceBEq];refine ht (kY hw.2.1) ?_;refine bP l ?_;refine ht (kY (m:=8) hw.2.2) ?_;refine bN ?_;grind[aD]
 |same a b=>grind
theorem F4{met:List Bool}{L B:Nat}{c:Option Nat}(g:met.length<=100000){N:Nat}:∀(j k m:Nat) (H:ae) (l:List Int) (v:af),k+j=met.length->j<m->H.get L=A (.row I 1 (c6 met))->aY aN B bb H l v->L<B->B<=H.next->l.length<=k->
  W (tD (aK P aG) N m (.az L 0 met.length 1 c) v (.int .i64 (k:Nat)) H) λr H'=>aY aN B bb H' (l++iK (met.drop k) k) r/\cl B H H'
 |_,_,0,_,_,_,_,hm,_,_,_,_,_=>ad
 |0,k,m+1,H,l,v,w,_,aS,aw,_,_,_=>by
  have x:¬(k:Int)<(met.length:Int):=ad;simp-implicitDefEqProofs(disch:=try exact aW)only[tD,xc,Ch,reduceAdd,reduceLeDiff,reduceIte,bB,iF (by kernel_rfl:P.underlying 104=A (.slice 4)),x,decide_false];refine aD.2 ⟨?_,.refl _ _⟩;grind[iK]
 |j+1,k,m+1,H,l,v,w,hm,aS,aw,d,f,O=>by
  have y:k<met.length:=ad;obtain⟨p,n,b⟩:=(Ir aS c).bool (j:=(k:Int)) (a:=met[k]) ad al;have Q:=iF (H:=H) (by kernel_rfl:P.underlying 104=A (.slice 4));have i:=iF (H:= .empty) (by kernel_rfl:P.underlying 104=A (.slice 4));rw[List.drop_eq_getElem_cons y,iK];have o:=fB (show k<=1000000000 by omega);cases h:met[k]with
  |false=>
   rw[h]at b;refine bh @tD.eq_2 @xc.eq_1 @HR.eq_1 i n (ag b o) ?_;exact F4 g j (k+1) m H l v ad ad aS aw d f ad
  |true=>
   rw[h]at b;obtain⟨z,H',q,s,e,G,K⟩:=aw.jU (a:=(k:Int)) f ad;have hle:(H.push (.row I 1 [[.int .i64 (k:Int)]])).next<=H'.next:=by simp;omega
   refine bh @tD.eq_2 @xc.eq_1 @HR.eq_1 i n (ag b (ag @c2 (ag q o))) ?_;have u:H'.get L=A (.row I 1 (c6 met)):=by rw[e.2 L d];omega
   refine(F4 g j (k+1) m H' (l++[(k:Int)]) z ad ad u s d ad al).mono ?_;rintro r E ⟨M,t⟩;refine⟨?_,e.trans t⟩;grind
def F5{met:List Bool}{L m:Nat}{c:Option Nat}(hm:met.length=m)(b:m<=100000)(g:H.get L=A (.row I 1 (c6 met))):W (aK P aG 55 [.az L 0 m 1 c] H) λr H'=>aY aN H.next bb H' (iK met 0) r/\au H H':=by
 subst hm;refine afo (met.length+1) ?_;rw[Ri];refine(F4 b met.length 0 (met.length+1) H [] .ao ad ad g (aY.nil _ _ _ _) (ae.bq g) Nat.le.refl aX).mono ?_;rintro r H' ⟨a,d⟩;rw[List.drop_zero,List.nil_append]at a;exact⟨a,d.aB⟩
end
end
section
open Go.a_
set_option maxRecDepth 2000
def RV(l L m:Nat):gB P l 203 1 [(0,.az L 0 m 1 (A m))]=A (.az l 0 1 1 (A 1),.row I 1 [[.az L 0 m 1 (A m)]]):=mW sN l rfl rfl rfl
def ag2(l:Nat){v:af}(a:v.one=J):gB P l 204 1 [(0,v)]=A (.az l 0 1 1 (A 1),.row I 1 [[v]]):=(by grind[mW,po,dq])
section
variable {H:ae}{ok:Nat->Prop}{n m:Nat}{l:List bp}
theorem O9{lv:af}(a:gg n m l)(d:l.length<=1000000000){zA:Nat}{Q:af->ae->Prop}{N:Nat}:∀(j k q:Nat) (H:ae),k+j=l.length->j<q->aH cP H ok l lv->(∀H',au H H'->W (CG (aK P aG) N (D F n) (D F m) (D F 8) lv (.ptr zA 0 0) H') Q)->
  W (xG (aK P aG) N q (D F n) (D F m) (D F 8) lv (.ptr zA 0 0) (D F (k:Nat)) H) Q
 |_,_,0,_,_,aJ,_,_=>ad
 |0,k,q+1,H,e,_,aw,fin=>by
  have o:¬(k:Int)<(l.length:Int):=ad;refine b3 @xG.eq_2 @CC.eq_1 (aw.bg ik) ?_;exact fin H (.refl _)
 |j+1,k,q+1,H,e,aJ,aw,fin=>by
  have f:k<l.length:=ad;obtain⟨p,h,i⟩:=aw.y1 (j:=(k:Int)) (c:=l[k]) ad al;have on:=O9 a d (lv:=lv) (zA:=zA) (Q:=Q) (N:=N) j (k+1) q;refine c_ @xG.eq_2 @CC.eq_1 (aw.bg ik) h (i _ (au.refl _)) ?_;refine bw (adl (a _ (List.getElem_mem f))) λH1 b=> ?_
  refine bN ?_;exact on H1 ad ad (aw.aB b) λH' g=>fin H' (b.trans g)
theorem PY{B R:Nat}{ll:List Nat}{v:af}(h:aY (jc m) B ok H ll v)(M:B<=H.next)(w:R=H.next)(aw:ll.length<=1000000):
  ∃d H',eA P ((H.push (.row I 1 (c6 (List.replicate m I)))).push (.row I 1 [[.az R 0 m 1 (A m)]])) [203,203] v (.az (R+1) 0 1 1 (A 1))=A (d,H')/\aY (jc m) B (λk=>(k<R->ok k)/\k≠R) H' (ll++[R]) d/\R+2<=H'.next/\
  (∀k,k<R->(∀L n c,v= .az L 0 n 1 c->k≠L)->H'.get k=H.get k)/\H'.get R=A (.row I 1 (c6 (List.replicate m I))):=by
 subst w;have z:=au.push H (.row I 1 (c6 (List.replicate m I)));have s:=ae.a2 H (.row I 1 (c6 (List.replicate m I)));generalize u:H.push (.row I 1 (c6 (List.replicate m I)))=H1 at*;have cL:H1.next=H.next+1:=by rw[<-u];rfl
 have j:=au.push H1 (.row I 1 [[.az H.next 0 m 1 (A m)]]);have t:(H1.push (.row I 1 [[.az H.next 0 m 1 (A m)]])).get (H.next+1)=_:=cL▸ae.a2 H1 (.row I 1 [[.az H.next 0 m 1 (A m)]]);have N:(H1.push (.row I 1 [[.az H.next 0 m 1 (A m)]])).next=H.next+2:=by show H1.next+1=_;omega
 have G:=j.get s;generalize H1.push (.row I 1 [[.az H.next 0 m 1 (A m)]])=l at*;have p:=z.trans j;have ai:aY (jc m) B (λk=>(k<H.next->ok k)/\k≠H.next) l ll v:=h.keep λk b f g=>⟨⟨λ_=>f,by have:=ae.bq g;omega⟩,p.get g⟩
 obtain⟨d,H',o,q,r,i,E⟩:=ai.app sN (ok':=λk=>(k<H.next->ok k)/\k≠H.next) (okE:=λ_=>False) ad (lo.one (K:=jc m) (a:=H.next) (cs:=[.az H.next 0 m 1 (A m)]) (cap:=some 1) sN t rfl) (λ_ _ h=>h.elim) (λ_ _ h _=>h) ⟨λh=>ad,ad⟩ al;have x:∀L n c,v= .az L 0 n 1 c->L<H.next:=λL n c e=>h.eL.lt e
 refine⟨d,H',o,q,by have:=r.1;omega,λk f y=> ?_,?_⟩
 ·rw[i k ad y,p.2 k f]
 ·rw[i H.next ad (λL n c e=>by have:=x L n c e;omega)];omega
theorem ahT{H:ae}{M:Nat}{nv fv v:af}{t:Bool}(g:H.get M=A (.row I 3 [[nv,fv,C t]]))(b:v.one=J):cr P H 203 (.ptr M 0 0) v=A (H.set M (.row I 3 [[v,fv,C t]])):=by
 have a:=dq b;rw[e4 (n:=1) aF g rfl al al bZ,a];rfl
theorem ahU{H:ae}{M:Nat}{nv fv v:af}{t:Bool}(g:H.get M=A (.row I 3 [[nv,fv,C t]]))(b:v.one=J):cr P H 204 (.ptr M 0 1) v=A (H.set M (.row I 3 [[nv,v,C t]])):=by
 have a:=dq b;rw[e4 (n:=1) aF g rfl al al bZ,a];rfl
structure nN(m M:Nat)(ll:List Nat)(H:ae):Prop where
 row:∀L∈ll,M<L/\H.get L=some (.row false 1 (c6 (List.replicate m false)))
 cB:ll.Nodup
def nN.lt{M:Nat}{ll:List Nat}(s:nN m M ll H){L:Nat}(h:L∈ll):L<H.next:=ae.bq (s.row L h).2
structure Dv(m M:Nat)(ll:List Nat)(nv:af)(H:ae):Prop where
 bX:H.get M=some (.row false 3 [[nv,.ao,.bool true]])
 aw:aY (jc m) (M+1) (ju M ll) H ll nv
 r:nN m M ll H
theorem iO.h7{α:Type}{K:eS α}{l:List α}{v:af}(h:iO K ok H l v){L n:Nat}{c:Option Nat}(e:v= .az L 0 n K.esz c):ok L:=by
 rcases h with⟨rfl,_⟩|⟨L',els,cap,rfl,ai,_⟩
 ·cases e
 grind
theorem nN.step{M R:Nat}{ll:List Nat}(s:nN m M ll H){H':ae}(j:R=H.next)(i:M<R)(f:∀L∈ll,H'.get L=H.get L)(g:H'.get R=A (.row I 1 (c6 (List.replicate m I)))):nN m M (ll++[R]) H':=by
 refine⟨λL c=> ?_,?_⟩
 ·rcases List.mem_append.1 c with h|h
  ·exact⟨(s.row L h).1,by rw[f L h];exact(s.row L h).2⟩
  grind
 ·rw[List.nodup_append];refine⟨s.cB,aX,λa d b e=> ?_⟩;simp only[List.mem_singleton]at e;have:=s.lt d;omega
theorem O_{lv x8:af}{M:Nat}(hm:m<=1000000)(aL:n<=1000000){Q:af->ae->Prop}{N:Nat}:∀(j k q:Nat) (H:ae) (ll:List Nat) (nv:af),k+j=n->j<q->ll.length=k->Dv m M ll nv H->
  (∀(H':ae) (ll:List Nat) (nv:af),ll.length=n->Dv m M ll nv H'->cl M H H'->W (CH (aK P aG) N (D F n) (D F m) (D F 8) lv x8 (.ptr M 0 0) H') Q)->
  W (xF (aK P aG) N q (D F n) (D F m) (D F 8) lv x8 (.ptr M 0 0) (D F (k:Nat)) H) Q
 |_,_,0,_,_,_,_,aJ,_,_,_=>ad
 |0,k,q+1,H,ll,nv,y,_,aw,s,fin=>by
  have S:¬(k:Int)<(n:Int):=ad;refine bG @xF.eq_2 @CB.eq_1 ?_;exact fin H ll nv ad s (.refl _ _)
 |j+1,k,q+1,H,ll,nv,y,aJ,aw,s,fin=>by
  have on:=O_ (lv:=lv) (x8:=x8) (M:=M) hm aL (Q:=Q) (N:=N) j (k+1) q;have E:eB (.ptr M 0 0)=A (.ptr M 0 0):=rfl;have f:=ae.bq s.bX;obtain⟨d,H',v,p,w,i,R⟩:=PY s.aw ad rfl ad;have t:=au.push H (.row I 1 (c6 (List.replicate m I)));have G:=au.push (H.push (.row I 1 (c6 (List.replicate m I)))) (.row I 1 [[.az H.next 0 m 1 (A m)]]);have jW:∀L n c,nv= .az L 0 n 1 c->L∉ll/\L≠M:=λL n c e=>s.aw.eL.h7 e
  have x:H'.get M=A (.row I 3 [[nv,.ao,C J]]):=by
   rw[i M f (λL n c e=>al)];exact s.bX
  have K:bF (A nv) nv=true:=by simp[bF,s.aw.az.rd]
  have hle:H.next+1+1<=H'.next:=w
  refine bh @xF.eq_2 @CB.eq_1 E (ih s.bX) (λz=>sP z _ (show m<=1000000000 by omega)) (ag @RV (ag v (ag (ahT x p.az.one) (ag (ih (t.get s.bX)) (ag (ih (G.get (t.get s.bX))) K))))) ?_;have o:∀z,z≠M->(H'.set M (.row I 3 [[d,.ao,C J]])).get z=H'.get z:=λz a=>ae.b8 (Ne.symm a)
  have df:nN m M (ll++[H.next]) (H'.set M (.row I 3 [[d,.ao,C J]])):=by
   refine s.r.step rfl f (λL l=> ?_) ?_
   ·rw[o L (by have:=(s.r.row L l).1;omega)];exact i L (s.r.lt l) (λL' n c e h=>(jW L' n c e).1 (h▸l))
   grind
  have O:Dv m M (ll++[H.next]) d (H'.set M (.row I 3 [[d,.ao,C J]])):=by
   refine⟨ae.cH ad,p.keep λz b a g=>⟨?_,?_⟩,df⟩
   ·constructor
    ·intro h;rcases List.mem_append.1 h with h|h
     ·exact(a.1 (s.r.lt h)).1 h
     grind
    ·rintro rfl;exact(a.1 f).2 rfl
   ·rw[o z (by rintro rfl;exact(a.1 f).2 rfl)];exact g
  have pu:cl M H (H'.set M (.row I 3 [[d,.ao,C J]])):=⟨by simp;omega,λz a=>by
   rw[o z ad];exact i z ad (λL n c e=>by have:=s.aw.low L n c e;omega)⟩
  exact on _ _ d ad ad al O λu l2 B ah ai ax=>fin u l2 B ah ai (pu.trans ax)
end
end
section
open Go.a_
set_option maxRecDepth 2000
def LC{α:Type}:∀{fls:List (List α)} {t:Nat} {fs:List α},(∀fs∈fls,fs.length=8)->fls[t]? =A fs->∀f,f<8->fls.flatten[t*8+f]? =fs[f]?
 |[],t,fs,_,h,_,_=>al
 |g::fls,0,fs,hw,h,f,aC=>by
  grind
 |g::fls,t+1,fs,hw,h,f,aC=>by
  have aS:=hw g aX;rw[List.flatten_cons,List.getElem?_append_right ad,aS,show(t+1)*8+f-8=t*8+f by omega];exact LC al al f aC
def LD{α:Type}:∀{fls:List (List α)},(∀fs∈fls,fs.length=8)->fls.flatten.length=fls.length*8
 |[],_=>rfl
 |g::fls,hw=>by
  rw[List.flatten_cons,List.length_append,hw g aX,LD al,List.length_cons];omega
def aY.ag8{α:Type}{K:eS α}(c:Plain K){B:Nat}{ok:Nat->Prop}{H:ae}{l:List α}{v:af}(h:aY K B ok H l v):aH K H (λk=>ok k/\B<=k) l v:=by
 rcases h.eL with ah|⟨L,els,cap,a,d,e,i,m,f⟩
 ·exact .inl ah
 ·exact .inr (.inl ⟨L,0,cap,I,els,a,⟨d,h.low _ _ _ a⟩,e,ad,λj x b=>by
   obtain⟨cs,n,g⟩:=f j x b;exact⟨cs,al,c g⟩⟩)
section
variable {n m:Nat}{l:List bp}
structure yt(m M E0 E:Nat)(nl:List Nat)(fls:List (List Nat))(a:List Nat)(nv fv iv:af)(H:ae):Prop where
 bX:H.get M=some (.row false 3 [[nv,fv,.bool true]])
 aL:aH (jc m) H (λk=>ju M (nl++fls.flatten++a) k/\k<E0) nl nv
 aC:aY (bu (jc m)) E0 (λk=>ju M (nl++fls.flatten++a) k/\k<E) H fls fv
 aP:aY (jc m) E (ju M (nl++fls.flatten++a)) H a iv
 r:nN m M (nl++fls.flatten++a) H
 oK:∀fs∈fls,fs.length=8
 sO:M<E0
 K7:E0<=E
 su:E<=H.next
theorem O8{lv x8:af}{M E0 E i:Nat}{nl:List Nat}{fls:List (List Nat)}{nv fv:af}(hm:m<=1000000){L13:af->af->af->af->af->af->af->ae->O}{Q:af->ae->Prop}{N:Nat}:∀(j k q:Nat) (H:ae) (a:List Nat) (iv:af),k+j=8->j<q->a.length=k->yt m M E0 E nl fls a nv fv iv H->
  (∀(H':ae) (a:List Nat) (iv:af),a.length=8->yt m M E0 E nl fls a nv fv iv H'->cl M H H'->W (CI (aK P aG) N L13 (D F n) (D F m) (D F 8) lv x8 (.ptr M 0 0) (D F (i:Nat)) iv H') Q)->
  W (xE (aK P aG) N L13 q (D F n) (D F m) (D F 8) lv x8 (.ptr M 0 0) (D F (i:Nat)) iv (D F (k:Nat)) H) Q
 |_,_,0,_,_,_,_,aJ,_,_,_=>ad
 |0,k,q+1,H,a,iv,x,_,aw,s,fin=>by
  have K:¬(k:Int)<8:=ad;refine bG @xE.eq_2 @CA.eq_1 ?_;exact fin H a iv ad s (.refl _ _)
 |j+1,k,q+1,H,a,iv,x,aJ,aw,s,fin=>by
  have on:=O8 (lv:=lv) (x8:=x8) (M:=M) (E0:=E0) (E:=E) (i:=i) (nl:=nl) (fls:=fls) (nv:=nv) (fv:=fv) hm (L13:=L13) (Q:=Q) (N:=N) j (k+1) q;have l:=ae.bq s.bX;have R:=s.sO;have B:=s.K7;have G:=s.su;obtain⟨y,H',o,p,t,u,v⟩:=PY s.aP s.su rfl ad;have jW:∀L n c,iv= .az L 0 n 1 c->L∉nl++fls.flatten++a/\L≠M:=λL n c e=>s.aP.eL.h7 e
  have low:∀L n c,iv= .az L 0 n 1 c->E<=L:=s.aP.low;have hle:H.next+1+1<=H'.next:=t
  refine c_ @xE.eq_2 @CA.eq_1 (λz=>sP z _ (show m<=1000000000 by omega)) @RV o ?_;have f:nl++fls.flatten++(a++[H.next])=(nl++fls.flatten++a)++[H.next]:=al;have old:∀z,z<E->H'.get z=H.get z:=al;have S:∀z,z<E->ju M (nl++fls.flatten++a) z->ju M (nl++fls.flatten++(a++[H.next])) z:=λz d h=>⟨by
   rw[f];intro hm;rcases List.mem_append.1 hm with ah|ah
   ·exact h.1 ah
   grind,h.2⟩
  have T:yt m M E0 E nl fls (a++[H.next]) nv fv y H':=by
   refine⟨by rw[old M ad];exact s.bX,s.aL.keep λz b d g=>al,s.aC.keep λz b d g=>al,p.keep λz b d g=>⟨?_,g⟩,?_,s.oK,s.sO,s.K7,ad⟩
   ·constructor
    ·rw[f];intro h;rcases List.mem_append.1 h with h|h
     ·exact(d.1 (s.r.lt h)).1 h
     grind
    ·rintro rfl;exact(d.1 l).2 rfl
   ·rw[f];exact s.r.step rfl l (λL w=>u L (s.r.lt w) al) v
  grind[cl]
structure rT(m M E0:Nat)(nl:List Nat)(fls:List (List Nat))(nv fv:af)(H:ae):Prop where
 bX:H.get M=some (.row false 3 [[nv,fv,.bool true]])
 aL:aH (jc m) H (λk=>ju M (nl++fls.flatten) k/\k<E0) nl nv
 aC:aY (bu (jc m)) E0 (ju M (nl++fls.flatten)) H fls fv
 r:nN m M (nl++fls.flatten) H
 oK:∀fs∈fls,fs.length=8
 sO:M<E0
 su:E0<=H.next
theorem O6{lv x8:af}{M E0:Nat}{nl:List Nat}{nv:af}(hm:m<=1000000){Q:af->ae->Prop}{N:Nat}(w:8<N):∀(j k q:Nat) (H:ae) (fls:List (List Nat)) (fv:af),k+j=m->j<q->fls.length=k->rT m M E0 nl fls nv fv H->
  (∀(H':ae) (fls:List (List Nat)) (fv:af),fls.length=m->rT m M E0 nl fls nv fv H'->cl M H H'->W (rr (aK P aG) N (D F n) (D F m) (D F 8) lv x8 (.ptr M 0 0) H') Q)->
  W (xD (aK P aG) N q (D F n) (D F m) (D F 8) lv x8 (.ptr M 0 0) (D F (k:Nat)) H) Q
 |_,_,0,_,_,_,_,aJ,_,_,_=>ad
 |0,k,q+1,H,fls,fv,T,_,aw,s,fin=>by
  have ar:¬(k:Int)<(m:Int):=ad;refine bG @xD.eq_2 @Cz.eq_1 ?_;exact fin H fls fv ad s (.refl _ _)
 |j+1,k,q+1,H,fls,fv,T,aJ,aw,s,fin=>by
  have on:=O6 (lv:=lv) (x8:=x8) (M:=M) (E0:=E0) (nl:=nl) (nv:=nv) hm (Q:=Q) w j (k+1) q;have ay:=s.sO;have aq:=s.su;refine bG @xD.eq_2 @Cz.eq_1 ?_;have ak:yt m M E0 H.next nl fls [] nv fv .ao H:=by
   have e:nl++fls.flatten++[]=nl++fls.flatten:=List.append_nil _;refine⟨s.bX,by rw[e];exact s.aL,by rw[e];exact s.aC.keep λz b d g=>⟨⟨d,ae.bq g⟩,g⟩,aY.nil _ _ _ _,by rw[e];exact s.r,s.oK,s.sO,s.su,Nat.le.refl⟩
  refine O8 hm 8 0 N H [] .ao ad w rfl ak ?_;intro H1 f iv S s1 ab;have V:=ae.bq s1.bX;have aa:eB (.ptr M 0 0)=A (.ptr M 0 0):=rfl;have ap:=s1.su;have U:∀L n c,fv= .az L 0 n 1 c->L<H.next/\L≠M:=λL n c e=>by
   have:=s1.aC.eL.h7 e;exact⟨this.2,this.1.2⟩
  have low:∀L n c,fv= .az L 0 n 1 c->E0<=L:=s1.aC.low;have p:=au.push H1 (.row I 1 [[iv]]);have O:=ae.a2 H1 (.row I 1 [[iv]]);have an:=p.get s1.bX;obtain⟨i,H',t,v,y,E,am⟩:=(s1.aC.aB p).app po (K:=bu (jc m)) (okE:=λk=>ju M (nl++fls.flatten++f) k/\H.next<=k) (ok':=ju M (nl++fls.flatten++f)) (B:=E0) (by simp;omega)
   (lo.one (K:=bu (jc m)) (a:=f) (cs:=[iv]) (cap:=some 1) po O ⟨iv,rfl,(s1.aP.aB p).ag8 λh=>h⟩)
   (λz b d g=>⟨d.1,λL n c e=>by have:=U L n c e;have:=d.2;omega⟩) (λz b d _=>d.1)
   ⟨λh=>by have:=s1.r.lt h;simp at this;omega,by simp;omega⟩ (by simp;omega)
  have hle:=y.1;have av:H1.next+1<=H'.next:=fA hle
  have u:∀z,z<H1.next->(∀L n c,fv= .az L 0 n 1 c->z≠L)->H'.get z=H1.get z:=λz d h=>by rw[E z (by simp;omega) h,p.2 z d]
  have G:H'.get M=A (.row I 3 [[nv,fv,C J]]):=by
   rw[u M V (λL n c e=>al)];exact s1.bX
  replace t:eA P (H1.push (.row I 1 [[iv]])) [204,204] fv (.az H1.next 0 1 1 (A 1))=A (i,H'):=t;refine bh @CI.eq_1 @xw.eq_1 aa (ih s1.bX) (λz0=>ag2 z0 s1.aP.az.one) (ag t (ahU G v.az.one)) ?_;have o:∀z,z≠M->(H'.set M (.row I 3 [[nv,i,C J]])).get z=H'.get z:=λz d=>ae.b8 (Ne.symm d)
  have o8:nl++(fls++[f]).flatten=nl++fls.flatten++f:=by rw[List.flatten_append];simp
  have aj:rT m M E0 nl (fls++[f]) nv i (H'.set M (.row I 3 [[nv,i,C J]])):=by
   refine⟨ae.cH ad,?_,?_,?_,?_,s.sO,by simp;omega⟩
   ·rw[o8];refine s1.aL.keep λz b d g=>⟨d,?_⟩
    rw[o z d.1.2,u z (ae.bq g) (λL n c e=>al)];exact g
   ·rw[o8];exact v.keep λz b d g=>⟨d,by rw[o z d.2];exact g⟩
   ·rw[o8];refine⟨λL l=>⟨(s1.r.row L l).1,?_⟩,s1.r.cB⟩;rw[o L (by have:=(s1.r.row L l).1;omega),u L (s1.r.lt l) (λL' n c e h=>(s1.aC.eL.h7 e).1.1 (h▸l))];exact(s1.r.row L l).2
   ·intro fs R;rcases List.mem_append.1 R with h|h
    ·exact s.oK fs h
    ·simp only[List.mem_singleton]at h;rw[h];exact S
  have pu:cl M H (H'.set M (.row I 3 [[nv,i,C J]])):=ab.trans ⟨by simp;omega,λz d=>by
   grind⟩
  exact on _ _ i ad ad (by simp;omega) aj λx l2 Y ah ai ax=>fin x l2 Y ah ai (pu.trans ax)
end
end
section
open Go.a_
set_option maxRecDepth 2000
section
variable {n m:Nat}{l:List bp}
theorem rT.agm{M E0:Nat}{nl:List Nat}{fls:List (List Nat)}{nv fv:af}{H:ae}(s:rT m M E0 nl fls nv fv H)(aL:nl.length=n)(aC:fls.length=m):e7 n m M (nl++fls.flatten) fls nv fv (λ_=>List.replicate m I) J H:=by
 refine⟨s.bX,?_,s.aC.az,aC,λt fs h=>⟨s.oK fs (List.mem_of_getElem? h),λf a=> ?_⟩,λv L h=>(s.r.row L (List.mem_of_getElem? h)).2,s.r.cB,λh=>by have:=(s.r.row M h).1;omega,?_⟩
 ·rw[List.take_append_of_le_length ad,List.take_of_length_le ad];exact s.aL.keep (.le λk h=>h.1)
 ·rw[List.getElem?_append_right ad,<-LC s.oK h f a];grind
 ·rw[List.length_append,LD s.oK,aL,aC]
theorem Pd{lv x8:af}{M:Nat}{ll:List Nat}{fls:List (List Nat)}{nv fv:af}(hm:m<=1000000)(g:gg n m l)(v:l.length<=1000000000){L11:af->af->af->af->af->af->ae->O}{Q:af->ae->Prop}{N:Nat}:∀(j k q:Nat) (H:ae) (B:Nat->List Bool) (t:Bool),k+j=l.length->j<q->e7 n m M ll fls nv fv B t H->h0 n m l B->(t=I->∀c∈l.take k,kP n B c)->aH cP H (ju M ll) l lv->
  (∀(H':ae) (a:Nat->List Bool) (d:Bool),e7 n m M ll fls nv fv a d H'->h0 n m l a->kS (n+m*8) t B d a->(d=I->∀c∈l,kP n B c)->iu M ll H H'->W (L11 (D F n) (D F m) (D F 8) lv x8 (.ptr M 0 0) H') Q)->
  W (xC (aK P aG) N L11 q (D F n) (D F m) (D F 8) lv x8 (.ptr M 0 0) (D F (k:Nat)) H) Q
 |_,_,0,_,_,_,_,aJ,_,_,_,_,_=>ad
 |0,k,q+1,H,B,t,w,_,s,b,aP,aw,fin=>by
  have S:¬(k:Int)<(l.length:Int):=ad;refine b3 @xC.eq_2 @Cy.eq_1 (aw.bg ik) ?_;exact fin H B t s b (.refl _ _ _) al (.refl _ _ _)
 |j+1,k,q+1,H,B,t,w,aJ,s,b,aP,aw,fin=>by
  have f:k<l.length:=ad;obtain⟨p,x,y⟩:=aw.y1 (j:=(k:Int)) (c:=l[k]) ad al;have on:=Pd (lv:=lv) (x8:=x8) (M:=M) (ll:=ll) (fls:=fls) (nv:=nv) (fv:=fv) hm g v (L11:=L11) (Q:=Q) (N:=N) j (k+1) q;refine c_ @xC.eq_2 @Cy.eq_1 (aw.bg ik) x (y _ (au.refl _)) ?_;refine cK (Wa hm (List.getElem_mem f) (g _ (List.getElem_mem f)) s b) ?_;rintro _ H1 ⟨rfl,o,t1,L,R,z3,z4,z5⟩;refine⟨z5.1,?_⟩;refine bN ?_;refine on H1 o t1 ad ad L R (λe c aA=> ?_) (aw.keep z5.keep) λu r t2 z E i G K=>fin u r t2 z E (z3.trans i) (λe=> ?_) (z5.trans K)
  ·obtain⟨T,rfl⟩:=z3.off e;grind[List.take_succ_eq_append_getElem]
  ·have h:=G e;rw[(z3.off (i.off e).1).2]at h;exact h
theorem O7{lv x8:af}{M:Nat}{ll:List Nat}{fls:List (List Nat)}{nv fv:af}(hm:m<=1000000)(h:gg n m l)(g:l.length<=1000000000){Q:af->ae->Prop}{N:Nat}(f:l.length<N):∀(q:Nat) (H:ae) (B:Nat->List Bool) (t:Bool),((n+m*8)*m-kZ B (n+m*8))+(if t then 1 else 0)<q->e7 n m M ll fls nv fv B t H->h0 n m l B->(t=I->∀c∈l,kP n B c)->aH cP H (ju M ll) l lv->
  (∀(H':ae) (a:Nat->List Bool),e7 n m M ll fls nv fv a I H'->h0 n m l a->(∀c∈l,kP n a c)->iu M ll H H'->W (xx (aK P aG) N (D F n) (D F m) (D F 8) x8 (.ptr M 0 0) H') Q)->
  W (xB (aK P aG) N q (D F n) (D F m) (D F 8) lv x8 (.ptr M 0 0) H) Q
 |0,_,_,_,aJ,_,_,_,_,_=>ad
 |q+1,H,B,t,aJ,s,b,aP,aw,fin=>by
  have i:eB (.ptr M 0 0)=A (.ptr M 0 0):=rfl;cases t with
  |false=>
   refine cv @xB.eq_2 @Cx.eq_1 i (ih s.bX) ?_;exact fin H B s b (aP rfl) (.refl _ _ _)
  |true=>
   obtain⟨s1,f1⟩:=s.tT I;have on:=O7 (lv:=lv) (x8:=x8) (M:=M) (ll:=ll) (fls:=fls) (nv:=nv) (fv:=fv) hm h g (Q:=Q) f q;simp-implicitDefEqProofs(disch:=try exact aW)only[xB,Cx,reduceAdd,reduceLeDiff,reduceIte,bB,i,ih s.bX,Iv s.bX];refine Pd hm h g l.length 0 N _ B I ad f s1 b (λ_ c aA=>al) (aw.keep f1.keep) ?_;intro H1 d t1 w j z3 z4 z5;have hle:=Ej (B:=d) j.len (n+m*8);have x:=Ej (B:=B) b.len (n+m*8);have ax:=z3.le;simp only[if_true]at aJ;refine on H1 d t1 ?_ w j (λe=>by rw[(z3.off e).2];grind) ((aw.keep f1.keep).keep z5.keep) λo k p r u v=>fin o k p r u ((f1.trans z5).trans v)
   cases t1 with
   |false=>grind
   |true=>
    have:=z3.on rfl;grind
def aY.sd{α:Type}{K:eS α}{t e B:Nat}(y:fa t e 1){H H1:ae}{ls:List (List α)}{v w:af}{l:List α}(h:aY (bu K) B (B<= ·) H ls v)(i:B<=H.next)(p:au H H1)(hw:aH K H1 (H.next<= ·) l w)(aw:ls.length<=999999999):
  ∃b H',eA P (H1.push (.row I 1 [[w]])) [t,t] v (.az H1.next 0 1 1 (A 1))=A (b,H')/\aY (bu K) B (B<= ·) H' (ls++[l]) b/\cl B H H'/\H1.next+1<=H'.next:=by
 obtain⟨b,H',c,d,f,g,_⟩:=aY.sc (K:=bu K) y h i p (a:=l) (cs:=[w]) ⟨w,rfl,hw⟩ (ok':=(B<= ·)) ad aw;exact⟨b,H',c,d,f,g⟩
end
end
section
open Go.a_
set_option maxRecDepth 2000
def ag1(l:Nat){v:af}(a:v.one=J):gB P l 152 1 [(0,v)]=A (.az l 0 1 1 (A 1),.row I 1 [[v]]):=(by grind[mW,nr,dq])
def ahR{H:ae}{L:Nat}{u v w:af}(g:H.get L=A (.row I 2 [[u,v]]))(hw:w.one=J):cr P H 31 (.ptr L 0 0) w=A (H.set L (.row I 2 [[w,v]])):=by
 have a:=dq hw;rw[e4 (n:=1) aF g rfl al al bZ,a];rfl
def ahS{H:ae}{L:Nat}{u v w:af}(g:H.get L=A (.row I 2 [[u,v]]))(hw:w.one=J):cr P H 152 (.ptr L 0 1) w=A (H.set L (.row I 2 [[u,w]])):=by
 have a:=dq hw;rw[e4 (n:=1) aF g rfl al al bZ,a];rfl
section
variable {n m:Nat}{l:List bp}{M:Nat}{ll:List Nat}{fls:List (List Nat)}{nv fv:af}{B:Nat->List Bool}{H0:ae}
def pJ(B:Nat->List Bool)(k:Nat):List (List Int):=(List.range k).map λv=>iK (B v) 0
def oo(n:Nat)(B:Nat->List Bool)(t k:Nat):List (List Int):=(List.range k).map λf=>iK (B (n+t*8+f)) 0
def pK(n:Nat)(B:Nat->List Bool)(k:Nat):List (List (List Int)):=(List.range k).map λt=>oo n B t 8
theorem adq(B:Nat->List Bool)(k:Nat):pJ B (k+1)=pJ B k++[iK (B k) 0]:=by grind[pJ,List.range_succ]
theorem adp(n:Nat)(B:Nat->List Bool)(t k:Nat):oo n B t (k+1)=oo n B t k++[iK (B (n+t*8+k)) 0]:=by grind[oo,List.range_succ]
theorem adr(n:Nat)(B:Nat->List Bool)(k:Nat):pK n B (k+1)=pK n B k++[oo n B k 8]:=by grind[pK,List.range_succ]
theorem Pb{x8:af}{R:Nat}(hm:m<=100000)(aL:n<=1000000)(l:e7 n m M ll fls nv fv B I H0)(i:∀v,(B v).length=m)(G:R=H0.next){Q:af->ae->Prop}{N:Nat}:∀(j k q:Nat) (H:ae) (pv:af),k+j=n->j<q->au H0 H->H.get R=A (.row I 2 [[pv,.ao]])->aY (bu aN) (R+1) ((R+1)<= ·) H (pJ B k) pv->
  (∀(H':ae) (pv:af),au H0 H'->H'.get R=A (.row I 2 [[pv,.ao]])->aY (bu aN) (R+1) ((R+1)<= ·) H' (pJ B n) pv->W (CJ (aK P aG) N (D F m) (D F 8) x8 (.ptr M 0 0) (.ptr R 0 0) H') Q)->
  W (xA (aK P aG) N q (D F n) (D F m) (D F 8) x8 (.ptr M 0 0) (.ptr R 0 0) (D F (k:Nat)) H) Q
 |_,_,0,_,_,_,aJ,_,_,_,_=>ad
 |0,k,q+1,H,pv,K,_,p,g,h,fin=>by
  have aa:¬(k:Int)<(n:Int):=ad;refine bG @xA.eq_2 @Cw.eq_1 ?_;grind
 |j+1,k,q+1,H,pv,K,aJ,p,g,h,fin=>by
  have O:k<n:=ad;have S:eB (.ptr M 0 0)=A (.ptr M 0 0):=rfl;have on:=Pb (x8:=x8) (R:=R) hm aL l i G (Q:=Q) (N:=N) j (k+1) q;have s:=l.aB p;have ai:=ae.bq g;obtain⟨aj,L,u,x,a3⟩:=s.node O;refine bh @xA.eq_2 @Cw.eq_1 S (ih s.bX) u x ?_;refine e2 (F5 (i k) hm (s.row k L a3)) λw H1 t c=> ?_
  obtain⟨r,H',y,d,e,V⟩:=h.sd dP ad c (t.kJ fx) (by simp[pJ];omega);have f:=c.get g;have T:=au.push H1 (.row I 1 [[w]]);have E:H'.get R=A (.row I 2 [[pv,.ao]]):=by rw[e.2 R ad];exact g
  have U:bF (A pv) pv=true:=by simp[bF,h.az.rd]
  refine bh (fw f) (fw g) (fw (T.get f)) (λz0=>rH z0 t.az.one) y (ag (ahR E d.az.one) U) ?_;have o:∀z,z≠R->(H'.set R (.row I 2 [[r,.ao]])).get z=H'.get z:=λz a=>ae.b8 (Ne.symm a)
  have ab:=p.1;have ah:=c.1;refine on _ r ad ad ⟨by simp;omega,λz a=>by rw[o z ad,e.2 z ad,p.2 z a]⟩ (ae.cH ad) ?_ fin;rw[adq];exact d.keep λz b a Y=>⟨a,al⟩
def Pa{x8 pv qv:af}{R t:Nat}(hm:m<=100000)(aL:n<=1000000)(e:e7 n m M ll fls nv fv B I H0)(c:∀v,(B v).length=m)(x:R=H0.next)(ba:t<m){E:Nat}(u:R<E){L6:af->af->af->af->af->af->ae->O}{Q:af->ae->Prop}{N:Nat}:∀(j k q:Nat) (H:ae) (iv:af),k+j=8->j<q->au H0 H->E<=H.next->H.get R=A (.row I 2 [[pv,qv]])->aY (bu aN) E (E<= ·) H (oo n B t k) iv->
  (∀(H':ae) (iv:af),cl E H H'->aY (bu aN) E (E<= ·) H' (oo n B t 8) iv->W (CK (aK P aG) N L6 (D F m) (D F 8) x8 (.ptr M 0 0) (.ptr R 0 0) (D F (t:Nat)) iv H') Q)->
  W (xI (aK P aG) N L6 q (D F m) (D F 8) x8 (.ptr M 0 0) (.ptr R 0 0) (D F (t:Nat)) iv (D F (k:Nat)) H) Q
 |_,_,0,_,_,_,aJ,_,_,_,_,_=>ad
 |0,k,q+1,H,iv,y,_,p,d,g,h,fin=>by
  have aa:¬(k:Int)<8:=ad;refine bG @xI.eq_2 @CF.eq_1 ?_;obtain rfl:k=8:=ad;exact fin H iv (.refl _ _) h
 |j+1,k,q+1,H,iv,y,aJ,p,d,g,h,fin=>by
  have G:k<8:=ad;have S:eB (.ptr M 0 0)=A (.ptr M 0 0):=rfl;have on:=Pa (x8:=x8) (pv:=pv) (qv:=qv) (R:=R) (t:=t) hm aL e c x ba u (L6:=L6) (Q:=Q) (N:=N) j (k+1) q;have s:=e.aB p;obtain⟨aj,w0,ak,L,l,o,a3,a4,a5,_⟩:=s.ee ba G;refine bh @xI.eq_2 @CF.eq_1 S (ih s.bX) l (ag o (ag a3 a4)) ?_;refine e2 (F5 (c _) hm (s.row _ L a5)) λw H1 f T=> ?_
  obtain⟨U,H',r,b,a,V⟩:=h.sd dP d T (f.kJ fx) (by simp[oo];omega);refine bG (λz0=>rH z0 f.az.one) r ?_;have ab:=p.1;have Y:=a.1;rw[<-adp]at b;exact on H' U ad ad ⟨ad,λz K=>by rw[a.2 z ad,p.2 z K]⟩ ad (by rw[a.2 R ad];exact g) b λi i2 ah ai=>fin i i2 (a.trans ah) ai
theorem Pc{x8 pv:af}{R:Nat}(hm:m<=100000)(aL:n<=1000000)(u:e7 n m M ll fls nv fv B I H0)(i:∀v,(B v).length=m)(t:R=H0.next){lsn:List (List Int)}{Q:af->ae->Prop}{N:Nat}(s:8<N):∀(j k q:Nat) (H:ae) (E:Nat) (qv:af),k+j=m->j<q->au H0 H->R<E->E<=H.next->H.get R=A (.row I 2 [[pv,qv]])->aH (bu aN) H (λz=>R+1<=z/\z<E) lsn pv->aY (bu (bu aN)) E (E<= ·) H (pK n B k) qv->
  (∀(H':ae) (qv:af),au H0 H'->H'.get R=A (.row I 2 [[pv,qv]])->aH (bu aN) H' (λz=>R+1<=z) lsn pv->aH (bu (bu aN)) H' (λz=>R+1<=z) (pK n B m) qv->W (ru (aK P aG) N x8 (.ptr R 0 0) H') Q)->
  W (xH (aK P aG) N q (D F m) (D F 8) x8 (.ptr M 0 0) (.ptr R 0 0) (D F (k:Nat)) H) Q
 |_,_,0,_,_,_,_,aJ,_,_,_,_,_,_,_=>ad
 |0,k,q+1,H,E,qv,L,_,p,l,r,g,e,h,fin=>by
  have T:¬(k:Int)<(m:Int):=ad;refine bG @xH.eq_2 @CE.eq_1 ?_;obtain rfl:k=m:=ad;exact fin H qv p g (e.keep (.le ad)) (h.az.keep (.le ad))
 |j+1,k,q+1,H,E,qv,L,aJ,p,l,r,g,e,h,fin=>by
  have O:k<m:=ad;have on:=Pc (x8:=x8) (pv:=pv) (R:=R) hm aL u i t (lsn:=lsn) (Q:=Q) s j (k+1) q;refine bG @xH.eq_2 @CE.eq_1 ?_;refine Pa hm aL u i t O ad 8 0 N H .ao ad s p Nat.le.refl g (aY.nil _ _ _ _) ?_;intro H1 iv pu aP;have f:au H H1:=pu.aB;obtain⟨w,H',x,c,d,S⟩:=h.sd nr r f aP.az (by simp[pK];omega);have y:=f.get g;have G:H'.get R=A (.row I 2 [[pv,qv]]):=by rw[d.2 R ad];exact g
  refine bh @CK.eq_1 @xz.eq_1 (fw y) (λz0=>ag1 z0 aP.az.one) x (ahS G c.az.one) ?_;have o:∀z,z≠R->(H'.set R (.row I 2 [[pv,w]])).get z=H'.get z:=(by grind[ae.b8]);have U:=p.1;have V:=f.1;rw[<-adr]at c;refine on _ E w ad ad ⟨by simp;omega,λz a=>by rw[o z ad,d.2 z ad,p.2 z a]⟩ l (by simp;omega) (ae.cH ad) ?_ ?_ fin
  ·exact e.keep λz b a K=>⟨a,by rw[o z ad,d.2 z a.2];omega⟩
  ·exact c.keep λz b a K=>al
end
section
variable {n m:Nat}{l:List bp}{H:ae}{ok:Nat->Prop}
theorem ads{lv:af}(ab:gg n m l)(aL:n<=70000)(hm:m<=60)(aw:l.length<=800000000)(aM:aH cP H ok l lv):
  W (aK P aG 82 [D F n,D F m,D F 8,lv] H) λr H'=>∃pv,r= .tuple [pv,D F 0]/\Je H' (λL=>H.next<=L/\L<H'.next) (hb n m l) pv/\au H H':=by
 refine afA (l.length+n+m+(n+m*8)*m+100) ?_;generalize a7:l.length+n+m+(n+m*8)*m+100=N;obtain⟨zA,V⟩:∃zA,zA=H.next:=⟨_,rfl⟩
 have E:=au.push H (.row I 2 [[.ao,.ao]]);have cj:=ae.a2 H (.row I 2 [[.ao,.ao]]);have a9:(H.push (.row I 2 [[.ao,.ao]])).next=zA+1:=by rw[V];rfl
 rw[<-V]at cj;have aZ:∀(k:af->ae->O),e5 H [.ao,.ao] k=k (.ptr zA 0 0) (H.push (.row I 2 [[.ao,.ao]])):=(by grind[iL,iN]);simp only[Ro,aZ];have aa:=aM.below.keep (ok':=(· <zA)) λz b d g=>⟨ad,E.get g⟩
 generalize H.push (.row I 2 [[.ao,.ao]])=H1 at*;refine bN ?_;refine O9 ab ad l.length 0 N H1 ad ad aa ?_;intro a x;obtain⟨M,Y⟩:∃M,M=a.next:=⟨_,rfl⟩
 have ar:fj a.next (.agg [.ao,.ao,C J])=A (.ptr a.next 0 0,.row I 3 [[.ao,.ao,C J]]):=mg _ _ rfl
 have aS:=au.push a (.row I 3 [[.ao,.ao,C J]]);have bX:=ae.a2 a (.row I 3 [[.ao,.ao,C J]]);have k7:(a.push (.row I 3 [[.ao,.ao,C J]])).next=M+1:=by rw[Y];rfl
 have a5:zA+1<=M:=by have:=x.1;omega
 refine bG @CG.eq_1 ar ?_;rw[<-Y]at bX ⊢;have w:=x.trans aS;have aF:aH cP (a.push (.row I 3 [[.ao,.ao,C J]])) (· <zA) l lv:=aa.aB w;have ay:=w.get cj;generalize a.push (.row I 3 [[.ao,.ao,C J]])=ap at*;refine O_ ad ad n 0 N ap [] .ao ad ad rfl ⟨bX,aY.nil _ _ _ _,⟨λL h=>al,List.nodup_nil⟩⟩ ?_;intro s nl nv aN p aU;rw[CH];have aX:rT m M s.next nl [] nv .ao s:=by
  have e:nl++([]:List (List Nat)).flatten=nl:=List.append_nil _;refine⟨p.bX,by rw[e];exact p.aw.az.keep λz b d g=>⟨⟨d,ae.bq g⟩,g⟩,aY.nil _ _ _ _,by rw[e];exact p.r,λfs h=>al,ae.bq p.bX,Nat.le.refl⟩
 refine O6 ad ad m 0 N s [] .ao ad ad rfl aX ?_;intro G fls fv aE ak aV;have am:=ak.agm aN aE;have aj:∀L∈nl++fls.flatten,M<L:=λL h=>(ak.r.row L h).1
 obtain⟨ll,aJ⟩:∃ll,ll=nl++fls.flatten:=⟨_,rfl⟩;rw[<-aJ]at am aj;rw[rr];have o:=aU.trans aV;have ba:∀L∈ll,M<L:=aj;have aI:aH cP G (ju M ll) l lv:=aF.keep λz b (d:z<zA) g=>⟨⟨al,ad⟩,by rw[o.2 z ad];exact g⟩
 have aA:=(o.2 zA ad).trans ay;refine O7 ad ab ad ad N G _ J ?_ am (h0.start n m l) (λe=>by cases e) aI ?_
 ·grind
 intro c B an q Q u;have aC:c.get zA=A (.row I 2 [[.ao,.ao]]):=by rw[u.2 zA (ae.bq aA) al ad];omega
 obtain⟨R,j⟩:∃R,R=c.next:=⟨_,rfl⟩
 have aT:=au.push c (.row I 2 [[.ao,.ao]]);have U:=ae.a2 c (.row I 2 [[.ao,.ao]]);have a_:(c.push (.row I 2 [[.ao,.ao]])).next=R+1:=by rw[j];rfl
 rw[<-j]at U;have a0:∀(k:af->ae->O),e5 c [.ao,.ao] k=k (.ptr R 0 0) (c.push (.row I 2 [[.ao,.ao]])):=(by grind[iL,iN]);simp only[xx,a0];generalize c.push (.row I 2 [[.ao,.ao]])=aq at*;refine Pb ad ad an q.len j n 0 N aq .ao ad ad aT U (aY.nil _ _ _ _) ?_;intro K pv aR S aO;rw[CJ];refine Pc ad ad an q.len j ad m 0 N K K.next .ao ad ad aR (ae.bq S) Nat.le.refl S (aO.az.keep λz b d g=>⟨⟨d,ae.bq g⟩,g⟩) (aY.nil _ _ _ _) ?_
 intro i qv y av ai f9;have aP:=ae.bq aC;have T:i.get zA=A (.row I 2 [[.ao,.ao]]):=by rw[y.2 zA aP];omega
 have st:=yg T ai.one f9.one;have ax:(i.set zA (.row I 2 [[pv,qv]])).get zA=A (.row I 2 [[pv,qv]]):=ae.cH (ae.bq T);refine cv @ru.eq_1 (mE av) st (mE ax) ?_;have a4:=y.1;have a6:=x.1;have a1:=o.1;have a3:=u.1;have ah:dm i (λz=>R+1<=z) (i.set zA (.row I 2 [[pv,qv]])) (λL=>H.next<=L/\L<(i.set zA (.row I 2 [[pv,qv]])).next):=λz b (d:R+1<=z) g=>⟨⟨ad,by have:=ae.bq g;simpa using this⟩,by grind[ae.b8]⟩
 refine aD.2 ⟨_,rfl,⟨pv,qv,rfl,?_,?_⟩,?_⟩
 ·have e:(hb n m l).nodes.map aQ=pJ B n:=by
   simp only[hb,il,pJ,List.map_map];exact List.map_congr_left λv _=>(q.row Q v).symm
  rw[e];exact ai.keep ah
 ·have e:(hb n m l).fields.map (·.map aQ)=pK n B m:=by
   simp only[hb,il,pK,oo,List.map_map];refine List.map_congr_left λt _=> ?_
   simp only[Function.comp,List.map_map];exact List.map_congr_left λf _=>(q.row Q (n+t*8+f)).symm
  rw[e];exact f9.keep ah
 ·have a8:=E.1;refine⟨by simp;omega,λz d=> ?_⟩;rw[ae.b8 ad,y.2 z ad,u.2 z ad al ad,o.2 z ad,w.2 z ad,E.2 z d]
end
end
section
set_option maxRecDepth 100000
set_option maxHeartbeats 4000000
noncomputable section
def Gx(G:aq)(N:Nat):hJ Tryz.f13 G N (·.aa.aa.aa) (a8 Tryz.f13) []:=⟨_,v0 an⟩
def A5(G:aq)(N:Nat)(L1:b6):eh 0 1 5 Tryz.f13 G N (·.aa.aa.aj.aa.aj.aj) (bn L1 0 1 5) [(0,(br (Gx G N)))]:=⟨_,v3 an⟩
def vT(G:aq)(N:Nat):Nat->b6
 |0=>gD
 |n+1=>A5 G N (vT G N n)
def vt(G:aq)(N:Nat):fW Tryz.f13 G N:=⟨_,t2 (ak (ak (ak ((Gx G N).2) (ak (bj (bH (λm=>(A5 G N (vT G N m)).2))) an)) an) an)⟩
def adQ(N:Nat):=c1 Tryz.func13 λG=>(vt G N).2
def GQ(G:aq)(N:Nat):hJ Tryz.f17 G N (·.aa.aa.aa) (a8 Tryz.f17) []:=⟨_,v0 an⟩
def Bd(G:aq)(N:Nat)(L1:b6):eh 0 1 5 Tryz.f17 G N (·.aa.aa.aj.aa.aj.aj) (bn L1 0 1 5) [(0,(br (GQ G N)))]:=⟨_,v3 an⟩
def vZ(G:aq)(N:Nat):Nat->b6
 |0=>gD
 |n+1=>Bd G N (vZ G N n)
def vW(G:aq)(N:Nat):fW Tryz.f17 G N:=⟨_,t2 (ak (ak (ak ((GQ G N).2) (ak (bj (bH (λm=>(Bd G N (vZ G N m)).2))) an)) an) an)⟩
def aea(N:Nat):=c1 Tryz.func17 λG=>(vW G N).2
def HF(G:aq)(N:Nat):hJ Tryz.f31 G N (·.aa.aa) (a8 Tryz.f31) []:=⟨_,v0 an⟩
def BO(G:aq)(N:Nat)(L1:b6):eh 0 1 5 Tryz.f31 G N (·.aa.aj.aa.aj.aj) (bn L1 0 1 5) [(0,(br (HF G N)))]:=⟨_,v3 an⟩
def wT(G:aq)(N:Nat):Nat->b6
 |0=>gD
 |n+1=>BO G N (wT G N n)
def Q9(G:aq)(N:Nat):fW Tryz.f31 G N:=⟨_,t2 (ak (ak ((HF G N).2) (ak (bj (bH (λm=>(BO G N (wT G N m)).2))) an)) an)⟩
def ae_(N:Nat):=c1 Tryz.func31 λG=>(Q9 G N).2
def Gw(G:aq)(N:Nat):eJ 3 Tryz.f138 G N (·.aa.aa.aa) (a8 Tryz.f138) []:=⟨_,v1 an⟩
def A2(G:aq)(N:Nat)(L1:b6):eh 0 3 4 Tryz.f138 G N (·.aa.aa.aj.aa.aj.aj) (bn L1 0 3 4) [(0,(a1 (Gw G N) 3))]:=⟨_,v3 an⟩
def vS(G:aq)(N:Nat):Nat->b6
 |0=>gD
 |n+1=>A2 G N (vS G N n)
def Qs(G:aq)(N:Nat):fM Tryz.f138 G N:=⟨_,t1 (ak (ak (ak ((Gw G N).2) (ak (bj (bH (λm=>(A2 G N (vS G N m)).2))) an)) an) an)⟩
def adZ(N:Nat):=en Tryz.func138 λG=>(Qs G N).2
def A3(G:aq)(N:Nat):hJ Tryz.f139 G N (·.aa.aa.aa.aa) (a8 Tryz.f139) []:=⟨_,v0 an⟩
def A4(G:aq)(N:Nat)(L1:cg):dI 0 7 8 9 Tryz.f139 G N (·.aa.aa.aa.aj.aa.aj.aj.aa.aa) (bI L1 0 7 8 9) [(0,(br (A3 G N)))]:=⟨_,v4 an⟩
def tf(G:aq)(N:Nat)(L1:cg):dI 0 7 8 9 Tryz.f139 G N (·.aa.aa.aa.aj.aa.aj.aj) (bI L1 0 7 8 9) [(0,(br (A3 G N)))]:=⟨_,v4 (ak (ak ((A4 G N L1).2) an) an)⟩
def pT(G:aq)(N:Nat):Nat->cg
 |0=>fq
 |n+1=>tf G N (pT G N n)
def Qt(G:aq)(N:Nat):m_ Tryz.f139 G N:=⟨_,t3 (ak (ak (ak (ak ((A3 G N).2) (ak (bj (bH (λm=>(tf G N (pT G N m)).2))) an)) an) an) an)⟩
def ad0(N:Nat):=hC Tryz.func139 λG=>(Qt G N).2
def Qu(G:aq):eO Tryz.f140 G:=⟨_,λN=>t2 an⟩
def ad1(N:Nat):=c1 Tryz.func140 λG=>(Qu G).2 N
def Qw(G:aq):eO Tryz.f142 G:=⟨_,λN=>t2 an⟩
def ad3(N:Nat):=c1 Tryz.func142 λG=>(Qw G).2 N
def wq(G:aq)(N:Nat):eh 0 1 5 Tryz.f194 G N (·.aa.aa.aa) (a8 Tryz.f194) []:=⟨_,v3 an⟩
def tq(G:aq)(N:Nat)(L1:b6):eh 0 1 5 Tryz.f194 G N (·.aa.aa.aj.aj.aj) (bn L1 0 1 5) [(0,(bn (wq G N) 0 1 5))]:=⟨_,v3 an⟩
def rf(G:aq)(N:Nat):Nat->b6
 |0=>gD
 |n+1=>tq G N (rf G N n)
def Q0(G:aq)(N:Nat):fW Tryz.f194 G N:=⟨_,t2 (ak (ak (ak ((wq G N).2) (bj (bH (λm=>(tq G N (rf G N m)).2)))) an) an)⟩
def aez(N:Nat):=c1 Tryz.func194 λG=>(Q0 G N).2
end
end
section
open Go.a_
set_option maxRecDepth 2000
def aY.row{H:ae}{B:Nat}{aT:List Int}{b5:af}(h:aY aN B bb H aT b5):(aT=[]/\b5= .ao)\/∃L cap rest,b5= .az L 0 aT.length 1 cap/\B<=L/\H.get L=A (.row I 1 (dJ aT++rest)):=by
 rcases h.eL with⟨f,j⟩|⟨L,els,cap,rfl,_,g,hle,k,b⟩
 ·grind
 ·refine .inr ⟨L,cap,els.drop aT.length,rfl,h.low L _ _ rfl,?_⟩;have e:els=dJ aT++els.drop aT.length:=by
   apply List.ext_getElem?;intro i;by_cases aP:i<aT.length
   ·rw[List.getElem?_append_left (by grind[lB])];obtain⟨a,c,d⟩:=b i aT[i] al;rw[c,show a=[af.int F aT[i]]from d];grind[nZ]
   grind[lB]
  rw[<-e];exact g
theorem lj{l:List Nat}{i n:Nat}(h:l[i]? =A n):(aQ l)[i]? =A (n:Int):=by simp[aQ,h]
theorem g1(l:List Nat):(aQ l).length=l.length:=by simp[aQ]
theorem aiN(l:List Nat)(i n:Nat):(aQ l).set i (n:Int)=aQ (l.set i n):=by simp[aQ,List.map_set]
def abx(H0:ae)(a b:Nat):bE P H0 .min [3,3] [D F (a:Nat),D F (b:Nat)]=A (D F ((min a b:Nat):Int)):=by
 show A (af.int F (if(b:Int)<(a:Int)then(b:Int)else(a:Int)))=_;grind
structure eN(U zD:Nat)(lv:af)(L:List Nat)(H:ae):Prop where
 lJ:H.get U=some (.row false 1 [[lv]])
 lv:(L=[]/\lv= .ao)\/∃a rest,lv= .az zD 0 L.length 1 a/\H.get zD=some (.row false 1 (dJ (aQ L)++rest))/\zD≠U
section
variable {U zD:Nat}{lv:af}{L:List Nat}{H:ae}
def sL(g:H.get U=A (.row I 1 [[lv]])):aI P H 30 (.ptr U 0 0)=A lv:=by rw[e0 aF g rfl];rfl
theorem ahz{w:af}(g:H.get U=A (.row I 1 [[lv]]))(hw:w.one=J):cr P H 30 (.ptr U 0 0) w=A (H.set U (.row I 1 [[w]])):=by
 have a:=dq hw;rw[e4 (n:=1) aF g rfl al al bZ,a];rfl
theorem eN.mut{H':ae}{S:Nat->Prop}(s:eN U zD lv L H)(p:fK S H H')(ah:¬S U)(ai:¬S zD):eN U zD lv L H':=by
 refine⟨p.get s.lJ ah,?_⟩;rcases s.lv with h|⟨a,rest,b,c,d⟩
 ·grind
 ·exact .inr ⟨a,rest,b,p.get c ai,d⟩
theorem eN.aB{H':ae}(s:eN U zD lv L H)(p:au H H'):eN U zD lv L H':=s.mut (p.mut λ_=>False) (λh=>h) (λh=>h)
def eN.len(s:eN U zD lv L H)(H0:ae):bE P H0 .len [30] [lv]=A (D F L.length):=by
 rcases s.lv with⟨rfl,rfl⟩|⟨a,rest,rfl,_⟩
 ·exact len_nil b0.un
 ·exact iF b0.un _ _ _ _ _
theorem eN.at_(s:eN U zD lv L H){i:Nat}(aP:i<L.length):ct P 30 lv (D F (i:Nat))=A (.ptr zD i 0)/\aI P H 3 (.ptr zD i 0)=A (D F (aR L i:Nat)):=by
 rcases s.lv with⟨rfl,rfl⟩|⟨a,rest,rfl,g,_⟩
 ·grind
 ·refine⟨?_,?_⟩
  ·grind[pc,b0]
  ·have e:(dJ (aQ L)++rest)[i]? =A [D F (aR L i:Nat)]:=by
    grind[lB,g1,nZ,lj,pf]
   rw[e0 rO g e];rfl
theorem eN.set(s:eN U zD lv L H){i v:Nat}(aP:i<L.length):∃H',cr P H 3 (.ptr zD i 0) (D F (v:Nat))=A H'/\eN U zD lv (L.set i v) H'/\H'.next=H.next/\∀k,k≠zD->H'.get k=H.get k:=by
 rcases s.lv with⟨rfl,rfl⟩|⟨c,rest,rfl,g,b⟩
 ·grind
 ·have e:(dJ (aQ L)++rest)[i]? =A [D F (aR L i:Nat)]:=by
   grind[lB,g1,nZ,lj,pf]
  have a:(dJ (aQ L)++rest).set i [D F (v:Nat)]=dJ (aQ (L.set i v))++rest:=by
   grind[lB,g1,DY,aiN]
  refine⟨H.set zD (.row I 1 (dJ (aQ (L.set i v))++rest)),?_,⟨?_,(by grind[ae.cH,ae.bq])⟩,aX,(by grind[ae.b8])⟩
  ·rw[e4 Dk g e rfl rfl ad,<-a];rfl
  ·rw[ae.b8 b];exact s.lJ
theorem pj(s:eN U zD lv L H){i:Nat}(aP:i<L.length):W (aK P aG 140 [.ptr U 0 0,D F (i:Nat)] H) λr H'=>r= D F (aR L i:Nat)/\H'=H:=by
 refine ad1 0 ?_;have c:eB (.ptr U 0 0)=A (.ptr U 0 0):=rfl;obtain⟨a,b⟩:=s.at_ aP;refine bh @Qu.eq_1 c (sL s.lJ) s.len a b ?_;grind[aD]
structure je(b:Bool)(L:List Nat)(b':Bool)(L':List Nat):Prop where
 j:iP L L'
 on:b'=true->b=true\/hA L'<hA L
 off:b'=false->b=false/\L'=L
theorem je.refl{b:Bool}{L:List Nat}(g:a_.Good L):je b L b L:=⟨.refl g,.inl,λh=>⟨h,rfl⟩⟩
theorem je.trans{b b' g:Bool}{L L' f:List Nat}(h:je b L b' L')(k:je b' L' g f):je b L g f:=
 ⟨h.j.trans k.j,λe=>by
  have ah:=h.j.qY;have ai:=k.j.qY;rcases k.on e with i|i
  ·rcases h.on i with l|l
   ·grind
   omega
  omega,λe=>by
  obtain⟨a,b⟩:=k.off e;obtain⟨c,d⟩:=h.off a;grind⟩
theorem je.or{b b':Bool}{L L':List Nat}(h:je I L b' L'):je b L (b||b') L':=by
 refine⟨h.j,λe=> ?_,λe=> ?_⟩
 ·cases b with
  |true=>grind
  |false=>
   rcases h.on al with ah|ah
   ·grind
   omega
 ·cases b with
  |true=>cases e
  |false=>exact⟨rfl,(h.off al).2⟩
def lM(L:List Nat)(a b:Nat)(x:Nat):Nat:=if x=aR L a\/x=aR L b then min (aR L a) (aR L b)else x
theorem Nw{a b:Nat}(p:L.length<=100000){N:Nat}:∀(j k q:Nat) (H:ae),k+j=L.length->j<q->eN U zD lv ((L.take k).map (lM L a b)++L.drop k) H->
  W (pT (aK P aG) N q (.ptr U 0 0) (D F (aR L a:Nat)) (D F (aR L b:Nat)) (D F (k:Nat)) H) λr H'=>r= C J/\eN U zD lv (fP L a b) H'/\H'.next=H.next/\∀k,k≠zD->H'.get k=H.get k
 |_,_,0,_,_,aJ,_=>ad
 |0,k,q+1,H,w,_,s=>by
  obtain rfl:k=L.length:=ad;have aw:((L.take L.length).map (lM L a b)++L.drop L.length).length=L.length:=aX;have B:¬((L.length:Nat):Int)<((L.length:Nat):Int):=ad;have c:=s.len;rw[aw]at c;have d:eB (.ptr U 0 0)=A (.ptr U 0 0):=rfl;refine bh @pT.eq_2 @tf.eq_1 @A3.eq_1 d (sL s.lJ) c ?_;refine aD.2 ⟨rfl,?_,rfl,λ_ _=>rfl⟩;have e:fP L a b=(L.take L.length).map (lM L a b)++L.drop L.length:=by simp[fP,lM]
  grind
 |j+1,k,q+1,H,w,aJ,s=>by
  have n:k<L.length:=ad;have aw:((L.take k).map (lM L a b)++L.drop k).length=L.length:=al;have c:=s.len;rw[aw]at c;have d:eB (.ptr U 0 0)=A (.ptr U 0 0):=rfl;have tl:((L.take k).map (lM L a b)).length=k:=al;have t:aR ((L.take k).map (lM L a b)++L.drop k) k=L[k]:=zH (by
   grind)
  obtain⟨l,f⟩:=s.at_ (i:=k) ad;rw[t]at f;have on:=Nw (a:=a) (b:=b) p (N:=N) j (k+1) q;have E:(L.take (k+1)).map (lM L a b)++L.drop (k+1)=((L.take k).map (lM L a b)++L.drop k).set k (lM L a b L[k]):=by
   rw[List.set_append_right _ _ ad,tl,Nat.sub_self,List.drop_eq_getElem_cons n,List.set_cons_zero,List.take_succ_eq_append_getElem n,List.map_append,List.append_assoc];rfl
  have o:=fB (show k<=1000000000 by omega);by_cases h:L[k]=aR L a\/L[k]=aR L b
  ·have u:lM L a b L[k]=min (aR L a) (aR L b):=if_pos h;obtain⟨H',m,x,y,z⟩:=s.set (i:=k) (v:=min (aR L a) (aR L b)) ad;have ha:=λ(H0:ae)=>abx H0 (aR L a) (aR L b)
   have fin:W (A4 (aK P aG) N (pT (aK P aG) N q) (.ptr U 0 0) (D F (aR L a:Nat)) (D F (aR L b:Nat)) (D F (k:Nat)) H') λr g=>r= C J/\eN U zD lv (fP L a b) g/\g.next=H.next/\∀k,k≠zD->g.get k=H.get k:=by
    refine bG @A4.eq_1 o ?_;grind
   by_cases ah:L[k]=aR L a
   ·have d1:(((L[k]:Nat):Int)==((aR L a:Nat):Int))=true:=al;refine bh @pT.eq_2 @tf.eq_1 d (sL s.lJ) c (ag l (ag f (ag d1 (ag ha m)))) ?_;omega
   ·have ai:L[k]=aR L b:=ad;have d1:(((L[k]:Nat):Int)==((aR L a:Nat):Int))=false:=al;have d2:(((L[k]:Nat):Int)==((aR L b:Nat):Int))=true:=al;refine bh @pT.eq_2 @tf.eq_1 d (sL s.lJ) c (ag l (ag f (ag d1 (ag d2 (ag ha m))))) ?_;omega
  ·simp only[not_or]at h;have u:lM L a b L[k]=L[k]:=if_neg ad;have d1:(((L[k]:Nat):Int)==((aR L a:Nat):Int))=false:=al;have d2:(((L[k]:Nat):Int)==((aR L b:Nat):Int))=false:=al;refine bh @pT.eq_2 @tf.eq_1 @A4.eq_1 d (sL s.lJ) (ag c (ag l (ag f (ag d1 (ag d2 o))))) ?_;grind[List.drop_eq_getElem_cons]
theorem Nx(s:eN U zD lv L H)(g:a_.Good L)(i:L.length<=100000){a b:Nat}(c:a<L.length)(d:b<L.length):W (aK P aG 139 [.ptr U 0 0,D F (a:Nat),D F (b:Nat)] H) λr H'=>∃t,r= C t/\eN U zD lv (fP L a b) H'/\je I L t (fP L a b)/\H'.next=H.next/\∀k,k≠zD->H'.get k=H.get k:=by
 refine ad0 (L.length+1) ?_;simp-implicitDefEqProofs(disch:=try exact aW)only[Qt];refine dK (pj s c) ?_;refine dK (pj s d) ?_;have f:=uP g c d;by_cases e:aR L a=aR L b
 ·have d3:(((aR L a:Nat):Int)==((aR L b:Nat):Int))=true:=al;refine bP d3 ?_;refine aD.2 ⟨I,rfl,by grind[sH],⟨f,λh=>(by cases h),(by grind[sH])⟩,rfl,λ_ _=>rfl⟩
 ·have d3:(((aR L a:Nat):Int)==((aR L b:Nat):Int))=false:=al;refine bP d3 ?_;refine(Nw (a:=a) (b:=b) i L.length 0 (L.length+1) H ad ad (fA s)).mono ?_;rintro r H' ⟨rfl,j,l,z3⟩;exact⟨J,rfl,j,⟨f,λ_=> .inr (FB g c d e),λh=>(by cases h)⟩,l,z3⟩
end
end
section
open Go.a_
set_option maxRecDepth 2000
section
variable {H:ae}{ok:Nat->Prop}
theorem LN{n U:Nat}(aL:n<=10000){N:Nat}:∀(j k q:Nat) (H:ae) (lv:af),k+j=n->j<q->H.get U=A (.row I 1 [[lv]])->aY aN (U+1) bb H (aQ (List.range k)) lv->
  W (vS (aK P aG) N q (D F (n:Nat)) (.ptr U 0 0) (D F (k:Nat)) H) λr H'=>r= .ptr U 0 0/\cl U H H'/\∃lv,H'.get U=A (.row I 1 [[lv]])/\aY aN (U+1) bb H' (aQ (List.range n)) lv
 |_,_,0,_,_,_,aJ,_,_=>ad
 |0,k,q+1,H,lv,m,_,g,h=>by
  have w:¬(k:Int)<(n:Int):=ad;refine b3 @vS.eq_2 @A2.eq_1 @Gw.eq_1 ?_;obtain rfl:k=n:=ad;exact aD.2 ⟨rfl,.refl _ _,lv,g,h⟩
 |j+1,k,q+1,H,lv,m,aJ,g,h=>by
  have p:eB (.ptr U 0 0)=A (.ptr U 0 0):=rfl;have E4:=ae.bq g;have on:=LN aL (U:=U) (N:=N) j (k+1) q;obtain⟨d,H',f,b,c,i,v⟩:=h.jU (a:=(k:Int)) ad (by simp[aQ];omega);have l:H'.get U=A (.row I 1 [[lv]]):=by rw[c.2 U ad];exact g
  have hle:H.next+1<=H'.next:=i
  refine bh @vS.eq_2 @A2.eq_1 p (sL g) @c2 (ag f (ahz l b.az.one)) ?_;have o:∀z,z≠U->(H'.set U (.row I 1 [[d]])).get z=H'.get z:=(by grind[ae.b8]);have e:aQ (List.range (k+1))=aQ (List.range k)++[(k:Int)]:=by grind[List.range_succ,aQ]
  refine(on _ d ad ad (ae.cH ad) (by rw[e];exact b.p6 (λh=>h) _)).mono ?_;rintro r u ⟨rfl,s,t⟩;exact⟨rfl,cl.trans ⟨by simp;omega,λz x=>by rw[o z ad,c.2 z ad]⟩ s,t⟩
theorem Yt{n:Nat}(aL:n<=10000):W (aK P aG 138 [D F (n:Nat)] H) λr H'=>∃zD lv,r= .ptr H.next 0 0/\eN H.next zD lv (List.range n) H'/\H.next<=zD/\zD<H'.next/\au H H':=by
 refine adZ (n+1) ?_;have j:fj H.next (.agg [.ao])=A (.ptr H.next 0 0,.row I 1 [[.ao]]):=mg _ _ rfl
 have h:=au.push H (.row I 1 [[.ao]]);have lJ:=ae.a2 H (.row I 1 [[.ao]]);refine bG @Qs.eq_1 j ?_;refine(LN aL n 0 (n+1) _ .ao ad ad lJ (aY.nil _ _ _ _)).mono ?_;rintro r H' ⟨rfl,i,lv,c,z3⟩;have g:au H H':=⟨by have:=h.1;have:=i.1;omega,λl aw=>by rw[i.2 l aw,h.2 l aw]⟩;rcases z3.row with⟨d,e⟩|⟨zD,k,rest,d,e,f⟩
 ·have m:List.range n=[]:=by
   cases ar:List.range n with
   |nil=>rfl
   |cons a b=>grind[aQ]
  exact⟨H.next,lv,rfl,⟨c,.inl ⟨m,e⟩⟩,Nat.le.refl,ae.bq c,g⟩
 ·exact⟨zD,lv,rfl,⟨c,.inr ⟨k,rest,by rw[d,g1],f,ad⟩⟩,ad,ae.bq f,g⟩
theorem P5{l:List Nat}{lv:af}{n:Nat}(aw:∀a∈l,a<n)(c:l.length<=1000000)(h:aH aN H ok (aQ l) lv){N:Nat}:∀(j k q:Nat),k+j=l.length->j<q->
  W (wo (aK P aG) N q lv (D F (n:Nat)) (D F (k:Nat)) H) λr H'=>r= C J/\H'=H
 |_,_,0,_,aJ=>ad
 |0,k,q+1,d,_=>by
  have i:¬(k:Int)<(l.length:Int):=ad;have b:∀H0,bE P H0 .len [30] [lv]=A (D F l.length):=λH0=>by rw[h.len b0,g1]
  refine cv @wo.eq_2 @Bu.eq_1 @G8.eq_1 b ?_;grind[aD]
 |j+1,k,q+1,d,aJ=>by
  have e:k<l.length:=ad;have b:∀H0,bE P H0 .len [30] [lv]=A (D F l.length):=λH0=>by rw[h.len b0,g1]
  obtain⟨p,f,g⟩:=h.int (j:=(k:Int)) (a:=(l[k]:Int)) ad (by grind[lj]);refine c_ @wo.eq_2 @Bu.eq_1 b f g ?_;refine dK (kY (aw _ (List.getElem_mem e))) ?_;refine bN ?_;exact P5 aw c h j (k+1) q ad ad
def P6{l:List Nat}{lv:af}{n:Nat}(aw:∀a∈l,a<n)(b:l.length<=1000000)(h:aH aN H ok (aQ l) lv):W (aK P aG 193 [lv,D F (n:Nat)] H) λr H'=>r= C J/\H'=H:=by
 refine aey (l.length+1) ?_;rw[QZ];exact P5 aw b h l.length 0 _ ad ad
theorem aH.pg{l:List (List Nat)}{v:af}(h:aH (bu aN) H ok (l.map aQ) v){j:Int}{a:List Nat}(b:0<=j)(c:l[j.toNat]? =A a):∃p w,ct P 31 v (D F j)=A p/\(∀H',au H H'->aI P H' 30 p=A w)/\aH aN H ok (aQ a) w:=by
 obtain⟨L,i,ro,els,cs,ah,_,ai,ax,w,rfl,aM⟩:=h.at_ (K:=bu aN) dP b (a:=aQ a) al;exact⟨_,w,ah,λH' p=>by rw[e0 yn (p.get ai) ax];rfl,aM⟩
theorem aH.lists{l:List (List (List Nat))}{v:af}(h:aH (bu (bu aN)) H ok (l.map (·.map aQ)) v){j:Int}{a:List (List Nat)}(b:0<=j)(c:l[j.toNat]? =A a):∃p w,ct P 152 v (D F j)=A p/\(∀H',au H H'->aI P H' 31 p=A w)/\aH (bu aN) H ok (a.map aQ) w:=by
 obtain⟨L,i,ro,els,cs,ah,_,ai,ax,w,rfl,aM⟩:=h.at_ (K:=bu (bu aN)) nr b (a:=a.map aQ) al;exact⟨_,w,ah,λH' p=>by rw[e0 Sk (p.get ai) ax];rfl,aM⟩
section
variable {m:Nat}{p:c8}{nv fv:af}{zX:Nat}
theorem Sc(b:fJ m p)(aO:H.get zX=A (.row I 2 [[nv,fv]]))(aL:aH (bu aN) H ok (p.nodes.map aQ) nv){Q:af->ae->Prop}{N:Nat}(fin:W (A1 (aK P aG) N (.ptr zX 0 0) (D F (m:Nat)) H) Q):∀(j k q:Nat),k+j=p.nodes.length->j<q->
  W (vR (aK P aG) N q (.ptr zX 0 0) (D F (m:Nat)) (D F (k:Nat)) H) Q
 |_,_,0,_,aJ=>ad
 |0,k,q+1,f,_=>by
  have h:¬(k:Int)<(p.nodes.length:Int):=ad;have c:∀H0,bE P H0 .len [31] [nv]=A (D F p.nodes.length):=λH0=>by rw[aL.len dP,List.length_map]
  refine cv @vR.eq_2 @A0.eq_1 (fw aO) c ?_;omega
 |j+1,k,q+1,f,aJ=>by
  have g:k<p.nodes.length:=ad;have i:=b.nn;have c:∀H0,bE P H0 .len [31] [nv]=A (D F p.nodes.length):=λH0=>by rw[aL.len dP,List.length_map]
  obtain⟨l,w,d,e,a3⟩:=aL.pg (j:=(k:Int)) (a:=p.nodes[k]) ad al;have hm:=List.getElem_mem g;refine bh @vR.eq_2 @A0.eq_1 (fw aO) c d (e _ (au.refl _)) ?_;refine dK (P6 (b.nodes _ hm) (by have:=b.nl _ hm;omega) a3) ?_;refine bN ?_;exact Sc b aO aL fin j (k+1) q ad ad
theorem Sb(b:fJ m p)(aO:H.get zX=A (.row I 2 [[nv,fv]]))(aC:aH (bu (bu aN)) H ok (p.fields.map (·.map aQ)) fv){s:Nat}(r:s<m){L2:af->af->af->ae->O}{Q:af->ae->Prop}{N:Nat}(fin:W (vO (aK P aG) N L2 (.ptr zX 0 0) (D F (m:Nat)) (D F (s:Nat)) H) Q):∀(j k q:Nat),k+j=8->j<q->
  W (vQ (aK P aG) N L2 q (.ptr zX 0 0) (D F (m:Nat)) (D F (s:Nat)) (D F (k:Nat)) H) Q
 |_,_,0,_,aJ=>ad
 |j,k,q+1,c,aJ=>by
  have t:s<p.fields.length:=by rw[b.len];omega
  obtain⟨x,w,d,e,a3⟩:=aC.lists (j:=(s:Int)) (a:=p.fields[s]) ad al;have hm:=List.getElem_mem t;have n:=b.wid _ hm;have g:∀H0,bE P H0 .len [31] [w]=A (D F 8):=λH0=>by rw[a3.len dP,List.length_map,n];rfl
  match j,c,aJ with
  |0,c,_=>
   have v:¬(k:Int)<8:=ad;refine bh @vQ.eq_2 @AZ.eq_1 (fw aO) d (e _ (au.refl _)) g ?_;omega
  |j+1,c,aJ=>
   have o:k<p.fields[s].length:=ad;obtain⟨y,u,h,i,l⟩:=a3.pg (j:=(k:Int)) (a:=p.fields[s][k]) ad al;have f:=List.getElem_mem o;refine bh @vQ.eq_2 @AZ.eq_1 (fw aO) d (e _ (au.refl _)) (ag g (ag h (i _ (au.refl _)))) ?_;refine dK (P6 (b.ee _ hm _ f) (by have:=b.dD _ hm _ f;omega) l) ?_;refine bN ?_;exact Sb b aO aC r fin j (k+1) q ad ad
theorem Sd(b:fJ m p)(aO:H.get zX=A (.row I 2 [[nv,fv]]))(aC:aH (bu (bu aN)) H ok (p.fields.map (·.map aQ)) fv){N:Nat}(c:8<N):∀(j k q:Nat),k+j=m->j<q->
  W (vP (aK P aG) N q (.ptr zX 0 0) (D F (m:Nat)) (D F (k:Nat)) H) λr H'=>r= C J/\H'=H
 |_,_,0,_,aJ=>ad
 |0,k,q+1,s,_=>by
  have z:¬(k:Int)<(m:Int):=ad;refine b3 @vP.eq_2 @AY.eq_1 @vN.eq_1 ?_;grind[aD]
 |j+1,k,q+1,s,aJ=>by
  have B:=b.hm;have u:k<p.fields.length:=by rw[b.len];omega
  have t:0<p.fields.length:=ad;obtain⟨E,w,d,e,a3⟩:=aC.lists (j:=(k:Int)) (a:=p.fields[k]) ad al;obtain⟨G,y,f,g,h⟩:=aC.lists (j:=0) (a:=p.fields[0]) ad al;have n:=b.wid _ (List.getElem_mem u);have o:=b.wid _ (List.getElem_mem t);have v:∀H0,bE P H0 .len [31] [w]=A (D F 8):=λH0=>by rw[a3.len dP,List.length_map,n];rfl
  have x:∀H0,bE P H0 .len [31] [y]=A (D F 8):=λH0=>by rw[h.len dP,List.length_map,o];rfl
  have i:((8:Int) != 8)=false:=bZ;have l:decide ((8:Int)<8)=false:=bZ;refine bh @vP.eq_2 @AY.eq_1 (fw aO) d (e _ (au.refl _)) (ag v (ag f (ag (g _ (au.refl _)) (ag x (ag i l))))) ?_;refine Sb b aO aC ad ?_ 8 0 N ad c;refine bP @vO.eq_1 ?_;exact Sd b aO aC c j (k+1) q ad ad
end
theorem aib{m:Nat}{p:c8}{nv fv:af}(a:fJ m p)(aL:aH (bu aN) H ok (p.nodes.map aQ) nv)(aC:aH (bu (bu aN)) H ok (p.fields.map (·.map aQ)) fv):W (aK P aG 137 [.agg [nv,fv]] H) λr H'=>r= C J/\au H H':=by
 refine adY (p.nodes.length+m+10) ?_;have c:fj H.next (.agg [nv,fv])=A (.ptr H.next 0 0,.row I 2 [[nv,fv]]):=mg _ _ (by simp[aL.one,aC.one])
 have b:=au.push H (.row I 2 [[nv,fv]]);have aO:=ae.a2 H (.row I 2 [[nv,fv]]);have d:∀H0,bE P H0 .len [152] [fv]=A (D F m):=λH0=>by rw[aC.len nr,List.length_map,a.len]
 have hm:=a.hm;refine cv @Qr.eq_1 c (fw aO) d ?_;refine Sc a aO (aL.aB b) ?_ p.nodes.length 0 _ ad ad;rw[A1];refine(Sd a aO (aC.aB b) ad m 0 _ ad ad).mono ?_;grind
end
end
section
open Go.a_
set_option maxRecDepth 2000
def g3(zD:Nat)(H H':ae):Prop:=H.next<=H'.next/\∀k,k<H.next->k≠zD->H'.get k=H.get k
theorem g3.refl(zD:Nat)(H:ae):g3 zD H H:=⟨Nat.le.refl,λ_ _ _=>rfl⟩
theorem g3.trans{zD:Nat}{H1 a b:ae}(h:g3 zD H1 a)(k:g3 zD a b):g3 zD H1 b:=⟨Nat.le_trans h.1 k.1,λz c ah=>(k.2 z (Nat.lt_of_lt_of_le c h.1) ah).trans (h.2 z c ah)⟩
def EA{zD:Nat}{H H':ae}(p:au H H'):g3 zD H H':=⟨p.1,λz a _=>p.2 z a⟩
theorem g3.get{zD:Nat}{H H':ae}(h:g3 zD H H'){l:Nat}{b:bz}(a:H.get l=A b)(c:l≠zD):H'.get l=A b:=by rw[h.2 l (ae.bq a) c];omega
def g3.keep{zD:Nat}{H H':ae}{ok:Nat->Prop}(h:g3 zD H H')(c:∀k,ok k->k≠zD):dm H ok H' ok:=λk b a g=>⟨a,h.get g (c k a)⟩
section
variable {U zD m:Nat}{lv:af}{p:c8}
def NW{L:List Nat}(h:dN m p L){a b:Nat}(e:a<m)(f:b<m)(t:bR p a b):dN m p (fP L a b):=by
 have c:a<L.length:=by rw[h.len];omega
 have d:b<L.length:=by rw[h.len];omega
 exact⟨(ob _ _ _).trans h.len,h.hM.join c d,MQ h.hM c d (bR.jO p).eqv h.sub t⟩
def PB{L:List Nat}(g:a_.Good L){a b:Nat}(c:a<L.length)(d:b<L.length):ed (fP L a b) a b:=(Ag g c d).2 (.inr ⟨.inl rfl,.inr rfl⟩)
theorem Sv{x1 x2:af}{l:List Nat}{ov:af}{ok:Nat->Prop}{f:Nat}(hm:m<=60)(aw:∀a∈l,a<m)(R:l.length<=1000000)(ba:∀a∈l,∀b∈l,bR p a b)(w:∀k,ok k->k≠zD){L1:af->af->af->af->af->ae->O}{Q:af->ae->Prop}{N:Nat}:∀(j k q:Nat) (H:ae) (L:List Nat) (b:Bool),k+j=l.length\/(j=0/\l.length<=k)->1<=k->j<q->eN U zD lv L H->dN m p L->aH aN H ok (aQ l) ov->(∀i a c,i<k->l[0]? =A a->l[i]? =A c->ed L a c)->
  (∀(H':ae) (L':List Nat) (b':Bool),eN U zD lv L' H'->dN m p L'->je b L b' L'->(∀a∈l,∀c∈l,ed L' a c)->g3 zD H H'->W (q7 (aK P aG) N L1 (.ptr U 0 0) x1 x2 (C b') (D F (f:Nat)) H') Q)->
  W (th (aK P aG) N L1 q (.ptr U 0 0) x1 x2 (C b) (D F (f:Nat)) ov (D F (k:Nat)) H) Q
 |_,_,0,_,_,_,_,_,aJ,_,_,_,_,_=>ad
 |0,k,q+1,H,L,b,T,ah,_,s,d,aZ,ar,fin=>by
  have aq:¬(k:Int)<(l.length:Int):=ad;have r:∀H0,bE P H0 .len [30] [ov]=A (D F l.length):=λH0=>by rw[aZ.len b0,g1]
  refine b3 @th.eq_2 @A8.eq_1 r ?_;refine fin H L b s d (.refl d.hM) (λa e c aA=> ?_) (.refl _ _);obtain⟨i,aP,rfl⟩:=List.mem_iff_getElem.1 e;obtain⟨i2,ap,rfl⟩:=List.mem_iff_getElem.1 aA;have o:0<l.length:=ad;have u:=ar i l[0] l[i] ad al al;have g:=ar i2 l[0] l[i2] ad al al;exact(mN L).trans ((mN L).symm u) g
 |j+1,k,q+1,H,L,b,T,ah,aJ,s,d,aZ,ar,fin=>by
  have y:k<l.length:=ad;have o:0<l.length:=ad;have r:∀H0,bE P H0 .len [30] [ov]=A (D F l.length):=λH0=>by rw[aZ.len b0,g1]
  obtain⟨av,G,K⟩:=aZ.int (j:=0) (a:=(l[0]:Int)) ad (by grind[lj]);obtain⟨ax,M,n⟩:=aZ.int (j:=(k:Int)) (a:=(l[k]:Int)) ad (by grind[lj]);have on:=Sv (x1:=x1) (x2:=x2) (l:=l) (ov:=ov) (ok:=ok) (f:=f) hm aw R ba w (L1:=L1) (Q:=Q) (N:=N) j (k+1) q;have B:=List.getElem_mem o;have mk:=List.getElem_mem y;have ab:=fB (show k<=1000000000 by omega);have v:l[0]<L.length:=by rw[d.len];grind
  have x:l[k]<L.length:=by rw[d.len];grind
  refine bh @th.eq_2 @A8.eq_1 r G K (ag M n) ?_;refine cK (Nx s d.hM (by rw[d.len];omega) v x) ?_;rintro _ H1 ⟨t,rfl,u,g,z3,z4⟩;refine⟨ad,?_⟩;have fy:g3 zD H H1:=⟨ad,λz _ Y=>z4 z Y⟩;have aa:=NW d (aw _ B) (aw _ mk) (ba _ B _ mk);have V:∀i a c,i<k+1->l[0]? =A a->l[i]? =A c->ed (fP L l[0] l[k]) a c:=by
   intro i a c aP e aA;rcases Nat.lt_or_eq_of_le (Nat.le_of_lt_succ aP)with h|rfl
   ·exact g.j.le _ _ (ar i a c h e aA)
   ·simp[o]at e;simp[y]at aA;subst e;subst aA;exact PB d.hM v x
  have go:∀b',je b L b' (fP L l[0] l[k])->W (Gy (aK P aG) N L1 (th (aK P aG) N L1 q) (.ptr U 0 0) x1 x2 (C b') (D F (f:Nat)) ov (D F (k:Nat)) H1) Q:=λb' S=>by
   refine bG @Gy.eq_1 ab ?_;exact on H1 _ b' ad ad ad u aa (aZ.keep (fy.keep w)) V λE L2 n ai aj ak am an=>fin E L2 n ai aj (S.trans ak) am (fy.trans an)
  have ay:=g.or (b:=b);cases t with
  |true=>
   refine bN ?_;grind
  |false=>
   refine bN ?_;grind
theorem Sw{av bv:af}{a b:List (List Nat)}{ok:Nat->Prop}(hm:m<=60)(v:a.length=8)(am:b.length=8)(R:∀l∈a,l.length<=60/\∀x∈l,x<m)(S:∀l∈b,l.length<=60/\∀x∈l,x<m)
  (ba:∀(k:Nat) (cq c:List Nat),a[k]? =A cq->b[k]? =A c->∀x∈cq++c,∀y∈cq++c,bR p x y) (u:∀k,ok k->k≠zD) {N:Nat} (ak:130<N):∀(j k q:Nat) (H:ae) (L:List Nat) (t:Bool),k+j=8->j<q->eN U zD lv L H->zD<H.next->dN m p L->aH (bu aN) H ok (a.map aQ) av->aH (bu aN) H ok (b.map aQ) bv->(∀(i:Nat) (cq c:List Nat),i<k->a[i]? =A cq->b[i]? =A c->∀x∈cq++c,∀y∈cq++c,ed L x y)->
  W (vU (aK P aG) N q (.ptr U 0 0) av bv (C t) (D F (k:Nat)) H) λr H'=>∃L' n,r= C n/\eN U zD lv L' H'/\dN m p L'/\je t L n L'/\(∀(i:Nat) (cq c:List Nat),a[i]? =A cq->b[i]? =A c->∀x∈cq++c,∀y∈cq++c,ed L' x y)/\g3 zD H H'
 |_,_,0,_,_,_,_,aJ,_,_,_,_,_,_=>ad
 |0,k,q+1,H,L,t,an,_,s,iC,g,f,B,ar=>by
  obtain rfl:k=8:=ad;have o:decide (((8:Nat):Int)<8)=false:=bZ;have E:∀H0,bE P H0 .len [31] [av]=A (D F 8):=λH0=>by rw[f.len dP,List.length_map,v];rfl
  refine c_ @vU.eq_2 @A7.eq_1 @tg.eq_1 E o ?_;exact aD.2 ⟨L,t,rfl,s,g,.refl g.hM,λi cq c e d=>ar i cq c al e d,.refl _ _⟩
 |j+1,k,q+1,H,L,t,an,aJ,s,iC,g,f,B,ar=>by
  have o:decide ((k:Int)<8)=true:=al;have E:∀H0,bE P H0 .len [31] [av]=A (D F 8):=λH0=>by rw[f.len dP,List.length_map,v];rfl
  have ap:k<a.length:=ad;have aq:k<b.length:=ad;obtain⟨a0,aF,aa,ab,a3⟩:=f.pg (j:=(k:Int)) (a:=a[k]) ad al;obtain⟨a2,G,ah,O,Q⟩:=B.pg (j:=(k:Int)) (a:=b[k]) ad al;have on:=Sw (a:=a) (b:=b) (av:=av) (bv:=bv) (ok:=ok) hm v am R S ba u (N:=N) ak j (k+1) q;have aU:=R _ (List.getElem_mem ap);have aV:=S _ (List.getElem_mem aq);have dO:=ba k a[k] b[k] al al;have aX:∀{cq c:List Nat},a[k]? =A cq->b[k]? =A c->cq=a[k]/\c=b[k]:=λe d=>by
   grind
  generalize a[k]=cq at*;generalize b[k]=c at*;obtain⟨v1,H1,a1,bd,bn,_,_⟩:=(aY.nil aN H.next bb H).ints (m:=aQ cq) (w:=aF) Nat.le.refl a3 (by grind[g1]);have T:au H H1:=bn.aB;obtain⟨v2,K,d1,d2,d3,_,_⟩:=bd.ints (m:=aQ c) (w:=G) bn.1 (Q.aB T) (by grind[g1]);have V:au H K:=(bn.trans d3).aB;have aT:=d3.1;have aS:=bn.1;have aA:bF (A G) G=true:=dF Q;rw[List.nil_append]at bd d2;have aC:aQ cq++aQ c=aQ (cq++c):=by simp[aQ]
  rw[aC]at d2;have ai:=O _ T;have aj:=O _ (au.refl _);refine bh @vU.eq_2 @A7.eq_1 E o aa (ag (ab _ (au.refl _)) (ag a1 (ag ah (ag ai (ag aj (ag d1 aA)))))) ?_;refine Sv (ok:=λz=>H.next<=z) hm (l:=cq++c) (λx aE=> ?_) al dO (λz aZ=>ad) ((cq++c).length-1) 1 N K L t ad ad al (s.aB V) g (d2.kJ fx) (λi x y aP e d=> ?_) ?_
  ·grind
  ·obtain rfl:i=0:=ad;rw[e]at d;cases d;exact rfl
  intro M L3 t3 aI aL Y a4 aM;have fy:g3 zD H M:=(EA V).trans aM;refine bP @q7.eq_1 ?_;refine(on M L3 t3 ad ad aI (by have:=fy.1;omega) aL (f.keep (fy.keep u)) (B.keep (fy.keep u)) (λi ax ay aP e d=> ?_)).mono ?_
  ·rcases Nat.lt_or_eq_of_le (Nat.le_of_lt_succ aP)with h|rfl
   ·exactλx aE y aw=>Y.j.le _ _ (ar i ax ay h e d x aE y aw)
   grind
  ·rintro r H' ⟨L',n,rfl,aO,aR,z3,z4,z5⟩;exact⟨L',n,rfl,aO,aR,Y.trans z3,z4,fy.trans z5⟩
def adv{av bv:af}{a b:List (List Nat)}{ok:Nat->Prop}{H:ae}{L:List Nat}(hm:m<=60)(g:a.length=8)(n:b.length=8)(f:∀l∈a,l.length<=60/\∀x∈l,x<m)(j:∀l∈b,l.length<=60/\∀x∈l,x<m)
  (ba:∀(k:Nat) (cq c:List Nat),a[k]? =A cq->b[k]? =A c->∀x∈cq++c,∀y∈cq++c,bR p x y) (e:∀k,ok k->k≠zD) (s:eN U zD lv L H) (iC:zD<H.next) (q:dN m p L) (h:aH (bu aN) H ok (a.map aQ) av) (o:aH (bu aN) H ok (b.map aQ) bv):
  W (aK P aG 141 [.ptr U 0 0,av,bv] H) λr H'=>∃L' d,r= C d/\eN U zD lv L' H'/\dN m p L'/\je I L d L'/\(∀(i:Nat) (cq c:List Nat),a[i]? =A cq->b[i]? =A c->∀x∈cq++c,∀y∈cq++c,ed L' x y)/\g3 zD H H':=by
 refine ad2 131 ?_;rw[Qv];exact Sw hm g n f j ba e ad 8 0 131 H L I ad ad s iC q h o ad
