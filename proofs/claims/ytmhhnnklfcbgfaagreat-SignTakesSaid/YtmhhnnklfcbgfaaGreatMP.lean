/-
  Texts of one proof, laid together: Te Tf Tg Th Ti Tj ShJ Tk Tl Tm.
-/
import Derived.Test.YtmhhnnklfcbgfaaGreatMO
set_option linter.unusedVariables false
set_option linter.unusedSimpArgs false
set_option linter.defProp false
open Option renaming some→A
open Bool renaming true→J,false→I
open Go.cv.af renaming int→D,bool→C
open Go.IntKind renaming i64→F
namespace Go.Proofs.YtmhhnnklfcbgfaaGreat
open Go.cv
open Nat (reduceAdd reduceLeDiff)
section
open Go.a2
set_option maxRecDepth 2000
section
variable {n m M:Nat}{ll:List Nat}{fls:List (List Nat)}{nv fv:af}{l:List bt}
structure qN(c:bt)(zX M:Nat)(ll:List Nat)(H:ae):Prop where
 g:H.get zX=some (.row false 4 [cZ c])
 nl:zX∉ll
 lx:zX≠M
def qN.ec{c:bt}{zX M:Nat}{ll:List Nat}{H H':ae}(h:qN c zX M ll H)(f:iL M ll H H'):qN c zX M ll H':=⟨by rw[f.2 zX (ae.bm h.g) h.nl h.lx];exact h.g,h.nl,h.lx⟩
def mw.seq{B:Nat->List Bool}{t:Bool}{H H1 b:ae}{zF G K:(Nat->List Bool)->Prop}{a:Nat->List Bool}{t1:Bool}(z3:k_ (n+m*8) t B t1 a)(z5:iL M ll H H1)(h:mw n m M l ll fls nv fv a t1 H1 G b)(f:t1=I->G a->K B):mw n m M l ll fls nv fv B t H K b:=by
 obtain⟨d,t2,g,i,c,j,k⟩:=h;exact⟨d,t2,g,i,z3.trans c,λe=>f (c.off e).1 (j e),z5.trans k⟩
theorem LX{a b f zX:Nat}(hm:m<=1000000)(G:a<n)(K:b<n)(aB:f<8)(aA:bt.load a b f∈l){N:Nat}:∀(j k q:Nat) (H:ae) (B:Nat->List Bool) (t:Bool),k+j=m->j<q->fe n m M ll fls nv fv B t H->ie n m l B->qN (.load a b f) zX M ll H->(t=I->∀z,z<k->dr (B b) z=J->∀s,dr (B (n+z*8+f)) s=J->dr (B a) s=J)->
  W (tN (aK P aD) N q (.ptr M 0 0) (.ptr zX 0 0) (D F (k:Nat)) H) λr H'=>r= .tuple []/\mw n m M l ll fls nv fv B t H (λB=>k7 n B (.load a b f)) H'
 |_,_,0,_,_,_,_,aH,_,_,_,_=>aa
 |0,k,q+1,H,B,t,S,_,s,c,p,aP=>by
  have ab:¬(k:Int)<(m:Int):=aa;have o:dS (.ptr M 0 0)=A (.ptr M 0 0):=rfl;have i:∀H0,bD P H0 .len [204] [fv]=A (D F m):=λH0=>by rw[s.aB.len pX,s.dz]
  refine dd @tN.eq_2 @wE.eq_1 o (iF s.bR) i ?_;refine aE.2 ⟨rfl,B,t,s,c,.refl _ _ _,λe z s1 d T=>aP e z ?_ d s1 T,.refl _ _ _⟩;have:=E1 d;rw[c.len]at this;omega
 |j+1,k,q+1,H,B,t,S,aH,s,c,p,aP=>by
  have L:k<m:=aa;have o:dS (.ptr M 0 0)=A (.ptr M 0 0):=rfl;have i:∀H0,bD P H0 .len [204] [fv]=A (D F m):=λH0=>by rw[s.aB.len pX,s.dz]
  obtain⟨af,L1,v,x,a3⟩:=s.node K;obtain⟨E,h⟩:=s.bit c.len a3 L;obtain⟨ah,L2,a4,a5,R⟩:=s.node G;obtain⟨ai,w,aj,L3,a6,bd,bo,bO,b3,_⟩:=s.er L aB;have lc:=gq p.g (k:=3) (a:=(a:Int)) (b:=(b:Int)) (f:=(f:Int)) rfl;have on:=LX (zX:=zX) hm G K aB aA (N:=N) j (k+1) q;have O:=e8 (show k<=1000000000 by omega);cases u:dr (B b) k with
  |false=>
   rw[u]at h;refine bb @tN.eq_2 @wE.eq_1 @Hn.eq_1 o (iF s.bR) (ag i (ag lc (ag v (ag x (ag E (ag h O)))))) ?_;grind
  |true=>
   rw[u]at h;refine bb @tN.eq_2 @wE.eq_1 o (iF s.bR) i (ag lc (ag v (ag x (ag E (ag h (ag a4 (ag a5 (ag a6 (ag bd (ag bo bO)))))))))) ?_;refine cB (vY hm R b3 (λz d=> .load aA (c.snd b k u) d) s c) ?_;rintro _ H1 ⟨rfl,Q,t1,U,V,z3,z4,z5⟩;refine⟨z5.1,?_⟩;refine bF @Hn.eq_1 O ?_;refine(on H1 Q t1 aa aa U V (p.ec z5) λe z d Y=> ?_).mono ?_
   ·obtain⟨ad,rfl⟩:=z3.off e;grind
   ·rintro r H' ⟨rfl,y⟩;exact⟨rfl,.seq (zF:=λ_=>True) z3 z5 y λe g=>by rw[(z3.off e).2]at g;exact g⟩
theorem LZ{a b f zX:Nat}(hm:m<=1000000)(G:a<n)(K:b<n)(aB:f<8)(aA:bt.store a b f∈l){N:Nat}:∀(j k q:Nat) (H:ae) (B:Nat->List Bool) (t:Bool),k+j=m->j<q->fe n m M ll fls nv fv B t H->ie n m l B->qN (.store a b f) zX M ll H->(t=I->∀z,z<k->dr (B a) z=J->∀s,dr (B b) s=J->dr (B (n+z*8+f)) s=J)->
  W (tO (aK P aD) N q (.ptr M 0 0) (.ptr zX 0 0) (D F (k:Nat)) H) λr H'=>r= .tuple []/\mw n m M l ll fls nv fv B t H (λB=>k7 n B (.store a b f)) H'
 |_,_,0,_,_,_,_,aH,_,_,_,_=>aa
 |0,k,q+1,H,B,t,S,_,s,c,p,aP=>by
  have ab:¬(k:Int)<(m:Int):=aa;have o:dS (.ptr M 0 0)=A (.ptr M 0 0):=rfl;have i:∀H0,bD P H0 .len [204] [fv]=A (D F m):=λH0=>by rw[s.aB.len pX,s.dz]
  refine dd @tO.eq_2 @wF.eq_1 o (iF s.bR) i ?_;refine aE.2 ⟨rfl,B,t,s,c,.refl _ _ _,λe z s1 d T=>aP e z ?_ d s1 T,.refl _ _ _⟩;have:=E1 d;rw[c.len]at this;omega
 |j+1,k,q+1,H,B,t,S,aH,s,c,p,aP=>by
  have L:k<m:=aa;have o:dS (.ptr M 0 0)=A (.ptr M 0 0):=rfl;have i:∀H0,bD P H0 .len [204] [fv]=A (D F m):=λH0=>by rw[s.aB.len pX,s.dz]
  obtain⟨af,L1,v,x,a3⟩:=s.node G;obtain⟨E,h⟩:=s.bit c.len a3 L;obtain⟨ah,L2,a4,a5,R⟩:=s.node K;obtain⟨ai,w,aj,L3,a6,bd,bo,bO,b3,_⟩:=s.er L aB;have lc:=gq p.g (k:=4) (a:=(a:Int)) (b:=(b:Int)) (f:=(f:Int)) rfl;have on:=LZ (zX:=zX) hm G K aB aA (N:=N) j (k+1) q;have O:=e8 (show k<=1000000000 by omega);cases u:dr (B a) k with
  |false=>
   rw[u]at h;refine bb @tO.eq_2 @wF.eq_1 @Ho.eq_1 o (iF s.bR) (ag i (ag lc (ag v (ag x (ag E (ag h O)))))) ?_;grind
  |true=>
   rw[u]at h;refine bb @tO.eq_2 @wF.eq_1 o (iF s.bR) i (ag lc (ag v (ag x (ag E (ag h (ag a4 (ag a5 (ag a6 (ag bd (ag bo bO)))))))))) ?_;refine cB (vY hm b3 R (λz d=> .store aA (c.snd a k u) d) s c) ?_;rintro _ H1 ⟨rfl,Q,t1,U,V,z3,z4,z5⟩;refine⟨z5.1,?_⟩;refine bF @Ho.eq_1 O ?_;refine(on H1 Q t1 aa aa U V (p.ec z5) λe z d Y=> ?_).mono ?_
   ·obtain⟨ad,rfl⟩:=z3.off e;grind
   ·rintro r H' ⟨rfl,y⟩;exact⟨rfl,.seq (zF:=λ_=>True) z3 z5 y λe g=>by rw[(z3.off e).2]at g;exact g⟩
theorem LY{a b zX:Nat}(hm:m<=1000000)(h:a<m)(E:b<m)(aA:bt.same a b∈l){N:Nat}:∀(j k q:Nat) (H:ae) (B:Nat->List Bool) (t:Bool),k+j=8->j<q->fe n m M ll fls nv fv B t H->ie n m l B->qN (.same a b) zX M ll H->(t=I->∀f,f<k->∀s,dr (B (n+a*8+f)) s=J↔dr (B (n+b*8+f)) s=J)->
  W (wG (aK P aD) N q (.ptr M 0 0) (.ptr zX 0 0) (D F (k:Nat)) H) λr H'=>r= .tuple []/\mw n m M l ll fls nv fv B t H (λB=>k7 n B (.same a b)) H'
 |_,_,0,_,_,_,_,aH,_,_,_,_=>aa
 |0,k,q+1,H,B,t,ax,_,s,K,d,aP=>by
  obtain rfl:k=8:=aa;have i:dS (.ptr M 0 0)=A (.ptr M 0 0):=rfl;obtain⟨aF,w,aG,L1,p,u,a3,a4,a5,v⟩:=s.er h (show 0<8 by omega);have lc:=gq d.g (k:=5) (a:=(a:Int)) (b:=(b:Int)) (f:=0) rfl;have x:decide (((8:Nat):Int)<8)=false:=b0;refine bb @wG.eq_2 @BA.eq_1 i (iF s.bR) lc (ag p (ag u (ag v x))) ?_;exact aE.2 ⟨rfl,B,t,s,K,.refl _ _ _,λe f z aB=>aP e f aB z,.refl _ _ _⟩
 |j+1,k,q+1,H,B,t,ax,aH,s,K,d,aP=>by
  have c:k<8:=aa;have i:dS (.ptr M 0 0)=A (.ptr M 0 0):=rfl;obtain⟨aF,w,aG,L1,p,u,a3,a4,a5,v⟩:=s.er h c;obtain⟨aV,a1,aX,L2,af,ai,ak,an,ap,aR⟩:=s.er E c;have lc:=gq d.g (k:=5) (a:=(a:Int)) (b:=(b:Int)) (f:=0) rfl;have x:decide ((k:Int)<8)=true:=al;have on:=LY (zX:=zX) hm h E aA (N:=N) j (k+1) q;have aI:=e8 (show k<=1000000000 by omega);refine bb @wG.eq_2 @BA.eq_1 i (iF s.bR) lc (ag p (ag u (ag v (ag x (ag a3 (ag a4 (ag af (ag ai (ag ak an))))))))) ?_;refine cB (vY hm a5 ap (λz G=> .n_ aA c G) s K) ?_;rintro _ H1 ⟨rfl,aN,t1,o,aM,z3,z4,z5⟩;refine⟨z5.1,?_⟩;have O:=d.ec z5;have ay:=gq O.g (k:=5) (a:=(a:Int)) (b:=(b:Int)) (f:=0) rfl
  obtain⟨aT,a0,aU,aO,U,V,Y,ab,ad,_⟩:=o.er h c;obtain⟨aW,a2,aZ,aQ,ah,aj,am,ao,ar,_⟩:=o.er E c;refine bb i (iF o.bR) ay U V (ag Y (ag ab (ag ah (ag aj (ag am ao))))) ?_;refine cB (vY hm ar ad (λz G=> .same aA c G) o aM) ?_;rintro _ T ⟨rfl,S,t2,aJ,aL,Q,a6,L⟩;refine⟨L.1,?_⟩;have R:=z3.trans Q;refine bK aI ?_;refine(on T S t2 aa aa aJ aL (O.ec L) λe f aB z=> ?_).mono ?_
  ·obtain⟨aC,au⟩:=Q.off e;obtain⟨aS,av⟩:=z3.off aC;subst au;subst av;grind
  ·rintro r H' ⟨rfl,y⟩;exact⟨rfl,.seq (zF:=λ_=>True) R (z5.trans L) y λe g=>by rw[(R.off e).2]at g;exact g⟩
def Xq{c:bt}{B:Nat->List Bool}{t:Bool}{H:ae}(hm:m<=1000000)(aA:c∈l)(hw:c.wf n m)(s:fe n m M ll fls nv fv B t H)(j:ie n m l B):
  W (aK P aD 136 [.ptr M 0 0,.agg (cZ c)] H) λr H'=>r= .tuple []/\mw n m M l ll fls nv fv B t H (λB=>k7 n B c) H':=by
 refine afb (m+9) ?_;have E:=aw.push H (.row I 4 [cZ c]);have aQ:=ae.a1 H (.row I 4 [cZ c]);have s1:=s.aC E;have x:dS (.ptr M 0 0)=A (.ptr M 0 0):=rfl;have d:qN c H.next M ll (H.push (.row I 4 [cZ c])):=⟨aQ,λh=>by
  obtain⟨i,aP,e⟩:=List.mem_iff_getElem.1 h;have:=ae.bm (s.row i H.next (List.getElem?_eq_some_iff.2 ⟨aP,e⟩));omega,by have:=s.lt;omega⟩
 have f0:iL M ll H (H.push (.row I 4 [cZ c])):=ZJ E;have fin:∀{r:af} {H':ae},r= .tuple []/\mw n m M l ll fls nv fv B t (H.push (.row I 4 [cZ c])) (λB=>k7 n B c) H'->r= .tuple []/\mw n m M l ll fls nv fv B t H (λB=>k7 n B c) H':=λh=>
  ⟨h.1,.seq (zF:=λ_=>True) (.refl _ _ _) f0 h.2 λ_ g=>g⟩
 have L:(H.push (.row I 4 [cZ c])).next=H.next+1:=rfl
 simp-implicitDefEqProofs(disch:=try exact aY)only[RJ,nq,ju];obtain⟨H1,G⟩:∃H1,H1=H.push (.row I 4 [cZ c]):=⟨_,rfl⟩;obtain⟨zX,N⟩:∃zX,zX=H.next:=⟨_,rfl⟩
 rw[<-G]at s1 d fin ⊢;rw[<-N]at d ⊢;clear G f0 aQ E L;cases c with
 |base a b=>
  have lc:=gq d.g (k:=1) (a:=(a:Int)) (b:=(b:Int)) (f:=0) rfl;obtain⟨R,L1,p,q,a3⟩:=s1.node hw.1;obtain⟨u,o⟩:=s1.bit j.len a3 hw.2;have Q:a<n+m*8:=by have:=hw.1;omega
  cases v:dr (B a) b with
  |true=>
   rw[v]at o;simp-implicitDefEqProofs(disch:=try exact aY)only[reduceAdd,reduceLeDiff,reduceIte,bB,x,lc,Int.reduceBEq,iF s1.bR,p,q,u,o,Bool.not_true];exact aE.2 (fin ⟨rfl,B,t,s1,j,.refl _ _ _,λ_=>v,.refl _ _ _⟩)
  |false=>
   rw[v]at o;obtain⟨s2,f2⟩:=s1.set (i:=b) a3;obtain⟨S,f3⟩:=s2.uH J;have O:(B a)[b]? =A false:=by rw[qX (by rw[j.len];exact hw.2),v]
   simp-implicitDefEqProofs(disch:=try exact aY)only[reduceAdd,reduceLeDiff,reduceIte,bB,x,lc,Int.reduceBEq,iF s1.bR,p,q,u,o,Bool.not_false,s1.Tc j.len a3 hw.2,Jt s2.bR];exact aE.2 (fin ⟨rfl,_,J,S,j.set hw.2 (.base aA),k_.set Q O,λe=>(by cases e),f2.trans f3⟩)
 |copy a b=>
  have lc:=gq d.g (k:=2) (a:=(a:Int)) (b:=(b:Int)) (f:=0) rfl;obtain⟨R,L1,p,q,a3⟩:=s1.node hw.1;obtain⟨V,L2,u,o,K⟩:=s1.node hw.2;simp-implicitDefEqProofs(disch:=try exact aY)only[reduceAdd,reduceLeDiff,reduceIte,bB,x,lc,Int.reduceBEq,iF s1.bR,p,q,u,o];refine cB (vY hm a3 K (λz w=> .copy aA w) s1 j) ?_;rintro _ U ⟨rfl,y⟩;obtain⟨T,t1,Y,ab,z3,z4,z5⟩:=id y;exact⟨z5.1,aE.2 (fin ⟨rfl,y⟩)⟩
 |load a b f=>
  have lc:=gq d.g (k:=3) (a:=(a:Int)) (b:=(b:Int)) (f:=(f:Int)) rfl;simp-implicitDefEqProofs(disch:=try exact aY)only[reduceAdd,reduceLeDiff,reduceIte,bB,lc,Int.reduceBEq];exact(LX hm hw.1 hw.2.1 hw.2.2 aA m 0 (m+9) H1 B t aa aa s1 j d (λ_ z w=>aa)).mono λr H' h=>fin h
 |store a b f=>
  have lc:=gq d.g (k:=4) (a:=(a:Int)) (b:=(b:Int)) (f:=(f:Int)) rfl;simp-implicitDefEqProofs(disch:=try exact aY)only[reduceAdd,reduceLeDiff,reduceIte,bB,lc,Int.reduceBEq];exact(LZ hm hw.1 hw.2.1 hw.2.2 aA m 0 (m+9) H1 B t aa aa s1 j d (λ_ z w=>aa)).mono λr H' h=>fin h
 |same a b=>
  have lc:=gq d.g (k:=5) (a:=(a:Int)) (b:=(b:Int)) (f:=0) rfl;simp-implicitDefEqProofs(disch:=try exact aY)only[reduceAdd,reduceLeDiff,reduceIte,bB,lc,Int.reduceBEq];exact(LY hm hw.1 hw.2 aA 8 0 (m+9) H1 B t aa aa s1 j d (λ_ z w=>aa)).mono λr H' h=>fin h
end
end
section
open Go.a2
set_option maxRecDepth 2000
section
variable {H:ae}
theorem zw(a b:Int):W (aK P aD 54 [D F a,D F b] H) λr H'=>r= C (decide (0<=a/\a<b))/\H'=H:=by
 refine agJ 0 ?_;by_cases c:0<=a
 ·refine D6 @IT.eq_1 c @decide_true ?_;grind[aE]
 ·refine To @IT.eq_1 c @decide_false false_and ?_;grind[aE]
def lh{n m:Nat}(h:n<m):W (aK P aD 54 [D F n,D F m] H) λr H'=>r= C J/\H'=H:=by
 refine(zw _ _).mono ?_;rintro r H' ⟨rfl,rfl⟩;exact⟨by rw[decide_eq_true];omega,rfl⟩
theorem aez{n m:Nat}{c:bt}(hw:c.wf n m):W (aK P aD 135 [D F n,D F m,D F 8,.agg (cZ c)] H) λr H'=>r= C J/\aw H H':=by
 refine afa 0 ?_;have g:=aw.push H (.row I 4 [cZ c]);have d:=ae.a1 H (.row I 4 [cZ c]);by_cases e:∃a b,c= .same a b
 ·obtain⟨a,b,rfl⟩:=e;have l:=gq d (k:=5) (a:=(a:Int)) (b:=(b:Int)) (f:=0) rfl;refine bT @tL.eq_1 @ju l ?_;refine dK (zw _ _) ?_;simp-implicitDefEqProofs(disch:=try exact aY)only[tM,qi,reduceAdd,reduceLeDiff,reduceIte,bB,l,Int.reduceBEq];refine dK (lh hw.1) ?_;refine bK l ?_;refine hY (lh hw.2) ?_;refine bM ?_;grind[aE]
 cases c with
 |base a b=>
  have l:=gq d (k:=1) (a:=(a:Int)) (b:=(b:Int)) (f:=0) rfl;refine bT @tL.eq_1 @ju l ?_;refine dK (lh hw.1) ?_;simp-implicitDefEqProofs(disch:=try exact aY)only[tM,qi,reduceAdd,reduceLeDiff,reduceIte,bB,l,Int.reduceBEq];refine hY (lh hw.2) ?_;refine bM ?_;grind[aE]
 |copy a b=>
  have l:=gq d (k:=2) (a:=(a:Int)) (b:=(b:Int)) (f:=0) rfl;refine bT @tL.eq_1 @ju l ?_;refine dK (lh hw.1) ?_;simp-implicitDefEqProofs(disch:=try exact aY)only[tM,qi,reduceAdd,reduceLeDiff,reduceIte,bB,l,Int.reduceBEq];refine hY (lh hw.2) ?_;refine bM ?_;grind[aE]
 |load a b f=>
  have l:=gq d (k:=3) (a:=(a:Int)) (b:=(b:Int)) (f:=(f:Int)) rfl;refine bT @tL.eq_1 @ju l ?_;refine dK (lh hw.1) ?_;simp-implicitDefEqProofs(disch:=try exact aY)only[tM,qi,reduceAdd,reduceLeDiff,reduceIte,bB,l,Int.reduceBEq];refine hY (lh hw.2.1) ?_;refine bK l ?_;refine hY (lh (m:=8) hw.2.2) ?_;refine bM ?_;grind[aE]
 |store a b f=>
  have l:=gq d (k:=4) (a:=(a:Int)) (b:=(b:Int)) (f:=(f:Int)) rfl;refine bT @tL.eq_1 @ju l ?_;refine dK (lh hw.1) ?_;simp-implicitDefEqProofs(disch:=try exact aY)only[tM,qi,reduceAdd,reduceLeDiff,reduceIte,bB,l,Int.reduceBEq];refine hY (lh hw.2.1) ?_;refine bK l ?_;refine hY (lh (m:=8) hw.2.2) ?_;refine bM ?_;grind[aE]
 |same a b=>grind
theorem GZ{met:List Bool}{L B:Nat}{c:Option Nat}(g:met.length<=100000){N:Nat}:∀(j k m:Nat) (H:ae) (l:List Int) (v:af),k+j=met.length->j<m->H.get L=A (.row I 1 (da met))->aZ aN B ba H l v->L<B->B<=H.next->l.length<=k->
  W (uo (aK P aD) N m (.az L 0 met.length 1 c) v (.int .i64 (k:Nat)) H) λr H'=>aZ aN B ba H' (l++iY (met.drop k) k) r/\cg B H H'
 |_,_,0,_,_,_,_,hm,_,_,_,_,_=>aa
 |0,k,m+1,H,l,v,w,_,aR,ar,_,_,_=>by
  have x:¬(k:Int)<(met.length:Int):=aa;simp-implicitDefEqProofs(disch:=try exact aY)only[uo,xV,C6,reduceAdd,reduceLeDiff,reduceIte,bB,hN (by kernel_rfl:P.underlying 104=A (.slice 4)),x,decide_false];refine aE.2 ⟨?_,.refl _ _⟩;grind[iY]
 |j+1,k,m+1,H,l,v,w,hm,aR,ar,d,f,O=>by
  have y:k<met.length:=aa;obtain⟨p,n,b⟩:=(Jp aR c).bool (j:=(k:Int)) (a:=met[k]) aa al;have Q:=hN (H:=H) (by kernel_rfl:P.underlying 104=A (.slice 4));have i:=hN (H:= .empty) (by kernel_rfl:P.underlying 104=A (.slice 4));rw[List.drop_eq_getElem_cons y,iY];have o:=e8 (show k<=1000000000 by omega);cases h:met[k]with
  |false=>
   rw[h]at b;refine bb @uo.eq_2 @xV.eq_1 @IU.eq_1 i n (ag b o) ?_;exact GZ g j (k+1) m H l v aa aa aR ar d f aa
  |true=>
   rw[h]at b;obtain⟨z,H',q,s,e,G,K⟩:=ar.j4 (a:=(k:Int)) f aa;have hle:(H.push (.row I 1 [[.int .i64 (k:Int)]])).next<=H'.next:=by simp;omega
   refine bb @uo.eq_2 @xV.eq_1 @IU.eq_1 i n (ag b (ag @c3 (ag q o))) ?_;have u:H'.get L=A (.row I 1 (da met)):=by rw[e.2 L d];omega
   refine(GZ g j (k+1) m H' (l++[(k:Int)]) z aa aa u s d aa al).mono ?_;rintro r E ⟨M,t⟩;refine⟨?_,e.trans t⟩;grind
def G0{met:List Bool}{L m:Nat}{c:Option Nat}(hm:met.length=m)(b:m<=100000)(g:H.get L=A (.row I 1 (da met))):W (aK P aD 55 [.az L 0 m 1 c] H) λr H'=>aZ aN H.next ba H' (iY met 0) r/\aw H H':=by
 subst hm;refine agK (met.length+1) ?_;rw[Sm];refine(GZ b met.length 0 (met.length+1) H [] .aq aa aa g (aZ.nil _ _ _ _) (ae.bm g) Nat.le.refl aW).mono ?_;rintro r H' ⟨a,d⟩;rw[List.drop_zero,List.nil_append]at a;exact⟨a,d.aC⟩
end
end
section
open Go.a2
set_option maxRecDepth 2000
def S1(l L m:Nat):gu P l 203 1 [(0,.az L 0 m 1 (A m))]=A (.az l 0 1 1 (A 1),.row I 1 [[.az L 0 m 1 (A m)]]):=ng tj l rfl rfl rfl
def ah9(l:Nat){v:af}(a:v.one=J):gu P l 204 1 [(0,v)]=A (.az l 0 1 1 (A 1),.row I 1 [[v]]):=(by grind[ng,pX,dn])
section
variable {H:ae}{ok:Nat->Prop}{n m:Nat}{l:List bt}
theorem Qs{lv:af}(a:gy n m l)(d:l.length<=1000000000){zA:Nat}{Q:af->ae->Prop}{N:Nat}:∀(j k q:Nat) (H:ae),k+j=l.length->j<q->aI cU H ok l lv->(∀H',aw H H'->W (Du (aK P aD) N (D F n) (D F m) (D F 8) lv (.ptr zA 0 0) H') Q)->
  W (yu (aK P aD) N q (D F n) (D F m) (D F 8) lv (.ptr zA 0 0) (D F (k:Nat)) H) Q
 |_,_,0,_,_,aH,_,_=>aa
 |0,k,q+1,H,e,_,ar,fin=>by
  have o:¬(k:Int)<(l.length:Int):=aa;refine bT @yu.eq_2 @Dr.eq_1 (ar.bf iG) ?_;exact fin H (.refl _)
 |j+1,k,q+1,H,e,aH,ar,fin=>by
  have f:k<l.length:=aa;obtain⟨p,h,i⟩:=ar.zM (j:=(k:Int)) (c:=l[k]) aa al;have on:=Qs a d (lv:=lv) (zA:=zA) (Q:=Q) (N:=N) j (k+1) q;refine dd @yu.eq_2 @Dr.eq_1 (ar.bf iG) h (i _ (aw.refl _)) ?_;refine bz (aez (a _ (List.getElem_mem f))) λH1 b=> ?_
  refine bM ?_;exact on H1 aa aa (ar.aC b) λH' g=>fin H' (b.trans g)
theorem Rf{B R:Nat}{ll:List Nat}{v:af}(h:aZ (jn m) B ok H ll v)(M:B<=H.next)(w:R=H.next)(ar:ll.length<=1000000):
  ∃d H',ej P ((H.push (.row I 1 (da (List.replicate m I)))).push (.row I 1 [[.az R 0 m 1 (A m)]])) [203,203] v (.az (R+1) 0 1 1 (A 1))=A (d,H')/\aZ (jn m) B (λk=>(k<R->ok k)/\k≠R) H' (ll++[R]) d/\R+2<=H'.next/\
  (∀k,k<R->(∀L n c,v= .az L 0 n 1 c->k≠L)->H'.get k=H.get k)/\H'.get R=A (.row I 1 (da (List.replicate m I))):=by
 subst w;have z:=aw.push H (.row I 1 (da (List.replicate m I)));have s:=ae.a1 H (.row I 1 (da (List.replicate m I)));generalize u:H.push (.row I 1 (da (List.replicate m I)))=H1 at*;have cX:H1.next=H.next+1:=by rw[<-u];rfl
 have j:=aw.push H1 (.row I 1 [[.az H.next 0 m 1 (A m)]]);have t:(H1.push (.row I 1 [[.az H.next 0 m 1 (A m)]])).get (H.next+1)=_:=cX▸ae.a1 H1 (.row I 1 [[.az H.next 0 m 1 (A m)]]);have N:(H1.push (.row I 1 [[.az H.next 0 m 1 (A m)]])).next=H.next+2:=by show H1.next+1=_;omega
 have G:=j.get s;generalize H1.push (.row I 1 [[.az H.next 0 m 1 (A m)]])=l at*;have p:=z.trans j;have ai:aZ (jn m) B (λk=>(k<H.next->ok k)/\k≠H.next) l ll v:=h.keep λk b f g=>⟨⟨λ_=>f,by have:=ae.bm g;omega⟩,p.get g⟩
 obtain⟨d,H',o,q,r,i,E⟩:=ai.app tj (ok':=λk=>(k<H.next->ok k)/\k≠H.next) (okE:=λ_=>False) aa (lN.one (K:=jn m) (a:=H.next) (cs:=[.az H.next 0 m 1 (A m)]) (cap:=some 1) tj t rfl) (λ_ _ h=>h.elim) (λ_ _ h _=>h) ⟨λh=>aa,aa⟩ al;have x:∀L n c,v= .az L 0 n 1 c->L<H.next:=λL n c e=>h.eS.lt e
 refine⟨d,H',o,q,by have:=r.1;omega,λk f y=> ?_,?_⟩
 ·rw[i k aa y,p.2 k f]
 ·rw[i H.next aa (λL n c e=>by have:=x L n c e;omega)];omega
theorem ai6{H:ae}{M:Nat}{nv fv v:af}{t:Bool}(g:H.get M=A (.row I 3 [[nv,fv,C t]]))(b:v.one=J):cz P H 203 (.ptr M 0 0) v=A (H.set M (.row I 3 [[v,fv,C t]])):=by
 have a:=dn b;rw[fb (n:=1) aG g rfl al al b0,a];rfl
theorem ai7{H:ae}{M:Nat}{nv fv v:af}{t:Bool}(g:H.get M=A (.row I 3 [[nv,fv,C t]]))(b:v.one=J):cz P H 204 (.ptr M 0 1) v=A (H.set M (.row I 3 [[nv,v,C t]])):=by
 have a:=dn b;rw[fb (n:=1) aG g rfl al al b0,a];rfl
structure oe(m M:Nat)(ll:List Nat)(H:ae):Prop where
 row:∀L∈ll,M<L/\H.get L=some (.row false 1 (da (List.replicate m false)))
 cA:ll.Nodup
def oe.lt{M:Nat}{ll:List Nat}(s:oe m M ll H){L:Nat}(h:L∈ll):L<H.next:=ae.bm (s.row L h).2
structure Ek(m M:Nat)(ll:List Nat)(nv:af)(H:ae):Prop where
 bR:H.get M=some (.row false 3 [[nv,.aq,.bool true]])
 ar:aZ (jn m) (M+1) (jE M ll) H ll nv
 r:oe m M ll H
theorem i_.ir{α:Type}{K:e0 α}{l:List α}{v:af}(h:i_ K ok H l v){L n:Nat}{c:Option Nat}(e:v= .az L 0 n K.esz c):ok L:=by
 rcases h with⟨rfl,_⟩|⟨L',els,cap,rfl,ai,_⟩
 ·cases e
 grind
theorem oe.step{M R:Nat}{ll:List Nat}(s:oe m M ll H){H':ae}(j:R=H.next)(i:M<R)(f:∀L∈ll,H'.get L=H.get L)(g:H'.get R=A (.row I 1 (da (List.replicate m I)))):oe m M (ll++[R]) H':=by
 refine⟨λL c=> ?_,?_⟩
 ·rcases List.mem_append.1 c with h|h
  ·exact⟨(s.row L h).1,by rw[f L h];exact(s.row L h).2⟩
  grind
 ·rw[List.nodup_append];refine⟨s.cA,aW,λa d b e=> ?_⟩;simp only[List.mem_singleton]at e;have:=s.lt d;omega
theorem Qt{lv x8:af}{M:Nat}(hm:m<=1000000)(aL:n<=1000000){Q:af->ae->Prop}{N:Nat}:∀(j k q:Nat) (H:ae) (ll:List Nat) (nv:af),k+j=n->j<q->ll.length=k->Ek m M ll nv H->
  (∀(H':ae) (ll:List Nat) (nv:af),ll.length=n->Ek m M ll nv H'->cg M H H'->W (Dv (aK P aD) N (D F n) (D F m) (D F 8) lv x8 (.ptr M 0 0) H') Q)->
  W (yt (aK P aD) N q (D F n) (D F m) (D F 8) lv x8 (.ptr M 0 0) (D F (k:Nat)) H) Q
 |_,_,0,_,_,_,_,aH,_,_,_=>aa
 |0,k,q+1,H,ll,nv,y,_,ar,s,fin=>by
  have S:¬(k:Int)<(n:Int):=aa;refine bF @yt.eq_2 @Dq.eq_1 ?_;exact fin H ll nv aa s (.refl _ _)
 |j+1,k,q+1,H,ll,nv,y,aH,ar,s,fin=>by
  have on:=Qt (lv:=lv) (x8:=x8) (M:=M) hm aL (Q:=Q) (N:=N) j (k+1) q;have E:dS (.ptr M 0 0)=A (.ptr M 0 0):=rfl;have f:=ae.bm s.bR;obtain⟨d,H',v,p,w,i,R⟩:=Rf s.ar aa rfl aa;have t:=aw.push H (.row I 1 (da (List.replicate m I)));have G:=aw.push (H.push (.row I 1 (da (List.replicate m I)))) (.row I 1 [[.az H.next 0 m 1 (A m)]]);have j6:∀L n c,nv= .az L 0 n 1 c->L∉ll/\L≠M:=λL n c e=>s.ar.eS.ir e
  have x:H'.get M=A (.row I 3 [[nv,.aq,C J]]):=by
   rw[i M f (λL n c e=>al)];exact s.bR
  have K:bG (A nv) nv=true:=by simp[bG,s.ar.az.rd]
  have hle:H.next+1+1<=H'.next:=w
  refine bb @yt.eq_2 @Dq.eq_1 E (iF s.bR) (λz=>tm z _ (show m<=1000000000 by omega)) (ag @S1 (ag v (ag (ai6 x p.az.one) (ag (iF (t.get s.bR)) (ag (iF (G.get (t.get s.bR))) K))))) ?_;have o:∀z,z≠M->(H'.set M (.row I 3 [[d,.aq,C J]])).get z=H'.get z:=λz a=>ae.b_ (Ne.symm a)
  have dc:oe m M (ll++[H.next]) (H'.set M (.row I 3 [[d,.aq,C J]])):=by
   refine s.r.step rfl f (λL l=> ?_) ?_
   ·rw[o L (by have:=(s.r.row L l).1;omega)];exact i L (s.r.lt l) (λL' n c e h=>(j6 L' n c e).1 (h▸l))
   grind
  have O:Ek m M (ll++[H.next]) d (H'.set M (.row I 3 [[d,.aq,C J]])):=by
   refine⟨ae.cO aa,p.keep λz b a g=>⟨?_,?_⟩,dc⟩
   ·constructor
    ·intro h;rcases List.mem_append.1 h with h|h
     ·exact(a.1 (s.r.lt h)).1 h
     grind
    ·rintro rfl;exact(a.1 f).2 rfl
   ·rw[o z (by rintro rfl;exact(a.1 f).2 rfl)];exact g
  have pu:cg M H (H'.set M (.row I 3 [[d,.aq,C J]])):=⟨by simp;omega,λz a=>by
   rw[o z aa];exact i z aa (λL n c e=>by have:=s.ar.low L n c e;omega)⟩
  exact on _ _ d aa aa al O λu l2 B ah ai ay=>fin u l2 B ah ai (pu.trans ay)
end
end
section
open Go.a2
set_option maxRecDepth 2000
def MR{α:Type}:∀{fls:List (List α)} {t:Nat} {fs:List α},(∀fs∈fls,fs.length=8)->fls[t]? =A fs->∀f,f<8->fls.flatten[t*8+f]? =fs[f]?
 |[],t,fs,_,h,_,_=>al
 |g::fls,0,fs,hw,h,f,aB=>by
  grind
 |g::fls,t+1,fs,hw,h,f,aB=>by
  have aR:=hw g aW;rw[List.flatten_cons,List.getElem?_append_right aa,aR,show(t+1)*8+f-8=t*8+f by omega];exact MR al al f aB
def MS{α:Type}:∀{fls:List (List α)},(∀fs∈fls,fs.length=8)->fls.flatten.length=fls.length*8
 |[],_=>rfl
 |g::fls,hw=>by
  rw[List.flatten_cons,List.length_append,hw g aW,MS al,List.length_cons];omega
def aZ.aif{α:Type}{K:e0 α}(c:Plain K){B:Nat}{ok:Nat->Prop}{H:ae}{l:List α}{v:af}(h:aZ K B ok H l v):aI K H (λk=>ok k/\B<=k) l v:=by
 rcases h.eS with ah|⟨L,els,cap,a,d,e,i,m,f⟩
 ·exact .inl ah
 ·exact .inr (.inl ⟨L,0,cap,I,els,a,⟨d,h.low _ _ _ a⟩,e,aa,λj x b=>by
   obtain⟨cs,n,g⟩:=f j x b;exact⟨cs,al,c g⟩⟩)
section
variable {n m:Nat}{l:List bt}
structure za(m M E0 E:Nat)(nl:List Nat)(fls:List (List Nat))(a:List Nat)(nv fv iv:af)(H:ae):Prop where
 bR:H.get M=some (.row false 3 [[nv,fv,.bool true]])
 aL:aI (jn m) H (λk=>jE M (nl++fls.flatten++a) k/\k<E0) nl nv
 aB:aZ (bp (jn m)) E0 (λk=>jE M (nl++fls.flatten++a) k/\k<E) H fls fv
 aP:aZ (jn m) E (jE M (nl++fls.flatten++a)) H a iv
 r:oe m M (nl++fls.flatten++a) H
 pg:∀fs∈fls,fs.length=8
 tk:M<E0
 Mg:E0<=E
 sX:E<=H.next
theorem Qr{lv x8:af}{M E0 E i:Nat}{nl:List Nat}{fls:List (List Nat)}{nv fv:af}(hm:m<=1000000){L13:af->af->af->af->af->af->af->ae->O}{Q:af->ae->Prop}{N:Nat}:∀(j k q:Nat) (H:ae) (a:List Nat) (iv:af),k+j=8->j<q->a.length=k->za m M E0 E nl fls a nv fv iv H->
  (∀(H':ae) (a:List Nat) (iv:af),a.length=8->za m M E0 E nl fls a nv fv iv H'->cg M H H'->W (Dw (aK P aD) N L13 (D F n) (D F m) (D F 8) lv x8 (.ptr M 0 0) (D F (i:Nat)) iv H') Q)->
  W (ys (aK P aD) N L13 q (D F n) (D F m) (D F 8) lv x8 (.ptr M 0 0) (D F (i:Nat)) iv (D F (k:Nat)) H) Q
 |_,_,0,_,_,_,_,aH,_,_,_=>aa
 |0,k,q+1,H,a,iv,x,_,ar,s,fin=>by
  have K:¬(k:Int)<8:=aa;refine bF @ys.eq_2 @Dp.eq_1 ?_;exact fin H a iv aa s (.refl _ _)
 |j+1,k,q+1,H,a,iv,x,aH,ar,s,fin=>by
  have on:=Qr (lv:=lv) (x8:=x8) (M:=M) (E0:=E0) (E:=E) (i:=i) (nl:=nl) (fls:=fls) (nv:=nv) (fv:=fv) hm (L13:=L13) (Q:=Q) (N:=N) j (k+1) q;have l:=ae.bm s.bR;have R:=s.tk;have B:=s.Mg;have G:=s.sX;obtain⟨y,H',o,p,t,u,v⟩:=Rf s.aP s.sX rfl aa;have j6:∀L n c,iv= .az L 0 n 1 c->L∉nl++fls.flatten++a/\L≠M:=λL n c e=>s.aP.eS.ir e
  have low:∀L n c,iv= .az L 0 n 1 c->E<=L:=s.aP.low;have hle:H.next+1+1<=H'.next:=t
  refine dd @ys.eq_2 @Dp.eq_1 (λz=>tm z _ (show m<=1000000000 by omega)) @S1 o ?_;have f:nl++fls.flatten++(a++[H.next])=(nl++fls.flatten++a)++[H.next]:=al;have old:∀z,z<E->H'.get z=H.get z:=al;have S:∀z,z<E->jE M (nl++fls.flatten++a) z->jE M (nl++fls.flatten++(a++[H.next])) z:=λz d h=>⟨by
   rw[f];intro hm;rcases List.mem_append.1 hm with ah|ah
   ·exact h.1 ah
   grind,h.2⟩
  have T:za m M E0 E nl fls (a++[H.next]) nv fv y H':=by
   refine⟨by rw[old M aa];exact s.bR,s.aL.keep λz b d g=>al,s.aB.keep λz b d g=>al,p.keep λz b d g=>⟨?_,g⟩,?_,s.pg,s.tk,s.Mg,aa⟩
   ·constructor
    ·rw[f];intro h;rcases List.mem_append.1 h with h|h
     ·exact(d.1 (s.r.lt h)).1 h
     grind
    ·rintro rfl;exact(d.1 l).2 rfl
   ·rw[f];exact s.r.step rfl l (λL w=>u L (s.r.lt w) al) v
  grind[cg]
structure sl(m M E0:Nat)(nl:List Nat)(fls:List (List Nat))(nv fv:af)(H:ae):Prop where
 bR:H.get M=some (.row false 3 [[nv,fv,.bool true]])
 aL:aI (jn m) H (λk=>jE M (nl++fls.flatten) k/\k<E0) nl nv
 aB:aZ (bp (jn m)) E0 (jE M (nl++fls.flatten)) H fls fv
 r:oe m M (nl++fls.flatten) H
 pg:∀fs∈fls,fs.length=8
 tk:M<E0
 sX:E0<=H.next
theorem Qp{lv x8:af}{M E0:Nat}{nl:List Nat}{nv:af}(hm:m<=1000000){Q:af->ae->Prop}{N:Nat}(w:8<N):∀(j k q:Nat) (H:ae) (fls:List (List Nat)) (fv:af),k+j=m->j<q->fls.length=k->sl m M E0 nl fls nv fv H->
  (∀(H':ae) (fls:List (List Nat)) (fv:af),fls.length=m->sl m M E0 nl fls nv fv H'->cg M H H'->W (r2 (aK P aD) N (D F n) (D F m) (D F 8) lv x8 (.ptr M 0 0) H') Q)->
  W (yr (aK P aD) N q (D F n) (D F m) (D F 8) lv x8 (.ptr M 0 0) (D F (k:Nat)) H) Q
 |_,_,0,_,_,_,_,aH,_,_,_=>aa
 |0,k,q+1,H,fls,fv,T,_,ar,s,fin=>by
  have au:¬(k:Int)<(m:Int):=aa;refine bF @yr.eq_2 @Dn.eq_1 ?_;exact fin H fls fv aa s (.refl _ _)
 |j+1,k,q+1,H,fls,fv,T,aH,ar,s,fin=>by
  have on:=Qp (lv:=lv) (x8:=x8) (M:=M) (E0:=E0) (nl:=nl) (nv:=nv) hm (Q:=Q) w j (k+1) q;have ax:=s.tk;have ap:=s.sX;refine bF @yr.eq_2 @Dn.eq_1 ?_;have ak:za m M E0 H.next nl fls [] nv fv .aq H:=by
   have e:nl++fls.flatten++[]=nl++fls.flatten:=List.append_nil _;refine⟨s.bR,by rw[e];exact s.aL,by rw[e];exact s.aB.keep λz b d g=>⟨⟨d,ae.bm g⟩,g⟩,aZ.nil _ _ _ _,by rw[e];exact s.r,s.pg,s.tk,s.sX,Nat.le.refl⟩
  refine Qr hm 8 0 N H [] .aq aa w rfl ak ?_;intro H1 f iv S s1 ad;have V:=ae.bm s1.bR;have ab:dS (.ptr M 0 0)=A (.ptr M 0 0):=rfl;have ao:=s1.sX;have U:∀L n c,fv= .az L 0 n 1 c->L<H.next/\L≠M:=λL n c e=>by
   have:=s1.aB.eS.ir e;exact⟨this.2,this.1.2⟩
  have low:∀L n c,fv= .az L 0 n 1 c->E0<=L:=s1.aB.low;have p:=aw.push H1 (.row I 1 [[iv]]);have O:=ae.a1 H1 (.row I 1 [[iv]]);have an:=p.get s1.bR;obtain⟨i,H',t,v,y,E,am⟩:=(s1.aB.aC p).app pX (K:=bp (jn m)) (okE:=λk=>jE M (nl++fls.flatten++f) k/\H.next<=k) (ok':=jE M (nl++fls.flatten++f)) (B:=E0) (by simp;omega)
   (lN.one (K:=bp (jn m)) (a:=f) (cs:=[iv]) (cap:=some 1) pX O ⟨iv,rfl,(s1.aP.aC p).aif λh=>h⟩)
   (λz b d g=>⟨d.1,λL n c e=>by have:=U L n c e;have:=d.2;omega⟩) (λz b d _=>d.1)
   ⟨λh=>by have:=s1.r.lt h;simp at this;omega,by simp;omega⟩ (by simp;omega)
  have hle:=y.1;have av:H1.next+1<=H'.next:=fH hle
  have u:∀z,z<H1.next->(∀L n c,fv= .az L 0 n 1 c->z≠L)->H'.get z=H1.get z:=λz d h=>by rw[E z (by simp;omega) h,p.2 z d]
  have G:H'.get M=A (.row I 3 [[nv,fv,C J]]):=by
   rw[u M V (λL n c e=>al)];exact s1.bR
  replace t:ej P (H1.push (.row I 1 [[iv]])) [204,204] fv (.az H1.next 0 1 1 (A 1))=A (i,H'):=t;refine bb @Dw.eq_1 @yl.eq_1 ab (iF s1.bR) (λz0=>ah9 z0 s1.aP.az.one) (ag t (ai7 G v.az.one)) ?_;have o:∀z,z≠M->(H'.set M (.row I 3 [[nv,i,C J]])).get z=H'.get z:=λz d=>ae.b_ (Ne.symm d)
  have pK:nl++(fls++[f]).flatten=nl++fls.flatten++f:=by rw[List.flatten_append];simp
  have aj:sl m M E0 nl (fls++[f]) nv i (H'.set M (.row I 3 [[nv,i,C J]])):=by
   refine⟨ae.cO aa,?_,?_,?_,?_,s.tk,by simp;omega⟩
   ·rw[pK];refine s1.aL.keep λz b d g=>⟨d,?_⟩
    rw[o z d.1.2,u z (ae.bm g) (λL n c e=>al)];exact g
   ·rw[pK];exact v.keep λz b d g=>⟨d,by rw[o z d.2];exact g⟩
   ·rw[pK];refine⟨λL l=>⟨(s1.r.row L l).1,?_⟩,s1.r.cA⟩;rw[o L (by have:=(s1.r.row L l).1;omega),u L (s1.r.lt l) (λL' n c e h=>(s1.aB.eS.ir e).1.1 (h▸l))];exact(s1.r.row L l).2
   ·intro fs R;rcases List.mem_append.1 R with h|h
    ·exact s.pg fs h
    ·simp only[List.mem_singleton]at h;rw[h];exact S
  have pu:cg M H (H'.set M (.row I 3 [[nv,i,C J]])):=ad.trans ⟨by simp;omega,λz d=>by
   grind⟩
  exact on _ _ i aa aa (by simp;omega) aj λx l2 Y ah ai ay=>fin x l2 Y ah ai (pu.trans ay)
end
end
section
open Go.a2
set_option maxRecDepth 2000
section
variable {n m:Nat}{l:List bt}
theorem sl.ahv{M E0:Nat}{nl:List Nat}{fls:List (List Nat)}{nv fv:af}{H:ae}(s:sl m M E0 nl fls nv fv H)(aL:nl.length=n)(aB:fls.length=m):fe n m M (nl++fls.flatten) fls nv fv (λ_=>List.replicate m I) J H:=by
 refine⟨s.bR,?_,s.aB.az,aB,λt fs h=>⟨s.pg fs (List.mem_of_getElem? h),λf a=> ?_⟩,λv L h=>(s.r.row L (List.mem_of_getElem? h)).2,s.r.cA,λh=>by have:=(s.r.row M h).1;omega,?_⟩
 ·rw[List.take_append_of_le_length aa,List.take_of_length_le aa];exact s.aL.keep (.le λk h=>h.1)
 ·rw[List.getElem?_append_right aa,<-MR s.pg h f a];grind
 ·rw[List.length_append,MS s.pg,aL,aB]
theorem Qx{lv x8:af}{M:Nat}{ll:List Nat}{fls:List (List Nat)}{nv fv:af}(hm:m<=1000000)(g:gy n m l)(v:l.length<=1000000000){L11:af->af->af->af->af->af->ae->O}{Q:af->ae->Prop}{N:Nat}:∀(j k q:Nat) (H:ae) (B:Nat->List Bool) (t:Bool),k+j=l.length->j<q->fe n m M ll fls nv fv B t H->ie n m l B->(t=I->∀c∈l.take k,k7 n B c)->aI cU H (jE M ll) l lv->
  (∀(H':ae) (a:Nat->List Bool) (d:Bool),fe n m M ll fls nv fv a d H'->ie n m l a->k_ (n+m*8) t B d a->(d=I->∀c∈l,k7 n B c)->iL M ll H H'->W (L11 (D F n) (D F m) (D F 8) lv x8 (.ptr M 0 0) H') Q)->
  W (yq (aK P aD) N L11 q (D F n) (D F m) (D F 8) lv x8 (.ptr M 0 0) (D F (k:Nat)) H) Q
 |_,_,0,_,_,_,_,aH,_,_,_,_,_=>aa
 |0,k,q+1,H,B,t,w,_,s,b,aP,ar,fin=>by
  have S:¬(k:Int)<(l.length:Int):=aa;refine bT @yq.eq_2 @Dm.eq_1 (ar.bf iG) ?_;exact fin H B t s b (.refl _ _ _) al (.refl _ _ _)
 |j+1,k,q+1,H,B,t,w,aH,s,b,aP,ar,fin=>by
  have f:k<l.length:=aa;obtain⟨p,x,y⟩:=ar.zM (j:=(k:Int)) (c:=l[k]) aa al;have on:=Qx (lv:=lv) (x8:=x8) (M:=M) (ll:=ll) (fls:=fls) (nv:=nv) (fv:=fv) hm g v (L11:=L11) (Q:=Q) (N:=N) j (k+1) q;refine dd @yq.eq_2 @Dm.eq_1 (ar.bf iG) x (y _ (aw.refl _)) ?_;refine cB (Xq hm (List.getElem_mem f) (g _ (List.getElem_mem f)) s b) ?_;rintro _ H1 ⟨rfl,o,t1,L,R,z3,z4,z5⟩;refine⟨z5.1,?_⟩;refine bM ?_;refine on H1 o t1 aa aa L R (λe c aA=> ?_) (ar.keep z5.keep) λu r t2 z E i G K=>fin u r t2 z E (z3.trans i) (λe=> ?_) (z5.trans K)
  ·obtain⟨T,rfl⟩:=z3.off e;grind[List.take_succ_eq_append_getElem]
  ·have h:=G e;rw[(z3.off (i.off e).1).2]at h;exact h
theorem Qq{lv x8:af}{M:Nat}{ll:List Nat}{fls:List (List Nat)}{nv fv:af}(hm:m<=1000000)(h:gy n m l)(g:l.length<=1000000000){Q:af->ae->Prop}{N:Nat}(f:l.length<N):∀(q:Nat) (H:ae) (B:Nat->List Bool) (t:Bool),((n+m*8)*m-lj B (n+m*8))+(if t then 1 else 0)<q->fe n m M ll fls nv fv B t H->ie n m l B->(t=I->∀c∈l,k7 n B c)->aI cU H (jE M ll) l lv->
  (∀(H':ae) (a:Nat->List Bool),fe n m M ll fls nv fv a I H'->ie n m l a->(∀c∈l,k7 n a c)->iL M ll H H'->W (ym (aK P aD) N (D F n) (D F m) (D F 8) x8 (.ptr M 0 0) H') Q)->
  W (yp (aK P aD) N q (D F n) (D F m) (D F 8) lv x8 (.ptr M 0 0) H) Q
 |0,_,_,_,aH,_,_,_,_,_=>aa
 |q+1,H,B,t,aH,s,b,aP,ar,fin=>by
  have i:dS (.ptr M 0 0)=A (.ptr M 0 0):=rfl;cases t with
  |false=>
   refine cu @yp.eq_2 @Dl.eq_1 i (iF s.bR) ?_;exact fin H B s b (aP rfl) (.refl _ _ _)
  |true=>
   obtain⟨s1,f1⟩:=s.uH I;have on:=Qq (lv:=lv) (x8:=x8) (M:=M) (ll:=ll) (fls:=fls) (nv:=nv) (fv:=fv) hm h g (Q:=Q) f q;simp-implicitDefEqProofs(disch:=try exact aY)only[yp,Dl,reduceAdd,reduceLeDiff,reduceIte,bB,i,iF s.bR,Jt s.bR];refine Qx hm h g l.length 0 N _ B I aa f s1 b (λ_ c aA=>al) (ar.keep f1.keep) ?_;intro H1 d t1 w j z3 z4 z5;have hle:=Fa (B:=d) j.len (n+m*8);have x:=Fa (B:=B) b.len (n+m*8);have ay:=z3.le;simp only[if_true]at aH;refine on H1 d t1 ?_ w j (λe=>by rw[(z3.off e).2];grind) ((ar.keep f1.keep).keep z5.keep) λo k p r u v=>fin o k p r u ((f1.trans z5).trans v)
   cases t1 with
   |false=>grind
   |true=>
    have:=z3.on rfl;grind
def aZ.qV{α:Type}{K:e0 α}{t e B:Nat}(y:fj t e 1){H H1:ae}{ls:List (List α)}{v w:af}{l:List α}(h:aZ (bp K) B (B<= ·) H ls v)(i:B<=H.next)(p:aw H H1)(hw:aI K H1 (H.next<= ·) l w)(ar:ls.length<=999999999):
  ∃b H',ej P (H1.push (.row I 1 [[w]])) [t,t] v (.az H1.next 0 1 1 (A 1))=A (b,H')/\aZ (bp K) B (B<= ·) H' (ls++[l]) b/\cg B H H'/\H1.next+1<=H'.next:=by
 obtain⟨b,H',c,d,f,g,_⟩:=aZ.sI (K:=bp K) y h i p (a:=l) (cs:=[w]) ⟨w,rfl,hw⟩ (ok':=(B<= ·)) aa ar;exact⟨b,H',c,d,f,g⟩
end
end
section
open Go.a2
set_option maxRecDepth 2000
def ah8(l:Nat){v:af}(a:v.one=J):gu P l 152 1 [(0,v)]=A (.az l 0 1 1 (A 1),.row I 1 [[v]]):=(by grind[ng,nO,dn])
def ai4{H:ae}{L:Nat}{u v w:af}(g:H.get L=A (.row I 2 [[u,v]]))(hw:w.one=J):cz P H 31 (.ptr L 0 0) w=A (H.set L (.row I 2 [[w,v]])):=by
 have a:=dn hw;rw[fb (n:=1) aG g rfl al al b0,a];rfl
def ai5{H:ae}{L:Nat}{u v w:af}(g:H.get L=A (.row I 2 [[u,v]]))(hw:w.one=J):cz P H 152 (.ptr L 0 1) w=A (H.set L (.row I 2 [[u,w]])):=by
 have a:=dn hw;rw[fb (n:=1) aG g rfl al al b0,a];rfl
section
variable {n m:Nat}{l:List bt}{M:Nat}{ll:List Nat}{fls:List (List Nat)}{nv fv:af}{B:Nat->List Bool}{H0:ae}
def p_(B:Nat->List Bool)(k:Nat):List (List Int):=(List.range k).map λv=>iY (B v) 0
def oY(n:Nat)(B:Nat->List Bool)(t k:Nat):List (List Int):=(List.range k).map λf=>iY (B (n+t*8+f)) 0
def qa(n:Nat)(B:Nat->List Bool)(k:Nat):List (List (List Int)):=(List.range k).map λt=>oY n B t 8
theorem aeH(B:Nat->List Bool)(k:Nat):p_ B (k+1)=p_ B k++[iY (B k) 0]:=by grind[p_,List.range_succ]
theorem aeG(n:Nat)(B:Nat->List Bool)(t k:Nat):oY n B t (k+1)=oY n B t k++[iY (B (n+t*8+k)) 0]:=by grind[oY,List.range_succ]
theorem aeI(n:Nat)(B:Nat->List Bool)(k:Nat):qa n B (k+1)=qa n B k++[oY n B k 8]:=by grind[qa,List.range_succ]
theorem Qv{x8:af}{R:Nat}(hm:m<=100000)(aL:n<=1000000)(l:fe n m M ll fls nv fv B I H0)(i:∀v,(B v).length=m)(G:R=H0.next){Q:af->ae->Prop}{N:Nat}:∀(j k q:Nat) (H:ae) (pv:af),k+j=n->j<q->aw H0 H->H.get R=A (.row I 2 [[pv,.aq]])->aZ (bp aN) (R+1) ((R+1)<= ·) H (p_ B k) pv->
  (∀(H':ae) (pv:af),aw H0 H'->H'.get R=A (.row I 2 [[pv,.aq]])->aZ (bp aN) (R+1) ((R+1)<= ·) H' (p_ B n) pv->W (Dx (aK P aD) N (D F m) (D F 8) x8 (.ptr M 0 0) (.ptr R 0 0) H') Q)->
  W (yo (aK P aD) N q (D F n) (D F m) (D F 8) x8 (.ptr M 0 0) (.ptr R 0 0) (D F (k:Nat)) H) Q
 |_,_,0,_,_,_,aH,_,_,_,_=>aa
 |0,k,q+1,H,pv,K,_,p,g,h,fin=>by
  have ab:¬(k:Int)<(n:Int):=aa;refine bF @yo.eq_2 @Dk.eq_1 ?_;grind
 |j+1,k,q+1,H,pv,K,aH,p,g,h,fin=>by
  have O:k<n:=aa;have S:dS (.ptr M 0 0)=A (.ptr M 0 0):=rfl;have on:=Qv (x8:=x8) (R:=R) hm aL l i G (Q:=Q) (N:=N) j (k+1) q;have s:=l.aC p;have ai:=ae.bm g;obtain⟨aj,L,u,x,a3⟩:=s.node O;refine bb @yo.eq_2 @Dk.eq_1 S (iF s.bR) u x ?_;refine e2 (G0 (i k) hm (s.row k L a3)) λw H1 t c=> ?_
  obtain⟨r,H',y,d,e,V⟩:=h.qV dJ aa c (t.kt fy) (by simp[p_];omega);have f:=c.get g;have T:=aw.push H1 (.row I 1 [[w]]);have E:H'.get R=A (.row I 2 [[pv,.aq]]):=by rw[e.2 R aa];exact g
  have U:bG (A pv) pv=true:=by simp[bG,h.az.rd]
  refine bb (fF f) (fF g) (fF (T.get f)) (λz0=>qB z0 t.az.one) y (ag (ai4 E d.az.one) U) ?_;have o:∀z,z≠R->(H'.set R (.row I 2 [[r,.aq]])).get z=H'.get z:=λz a=>ae.b_ (Ne.symm a)
  have ad:=p.1;have ah:=c.1;refine on _ r aa aa ⟨by simp;omega,λz a=>by rw[o z aa,e.2 z aa,p.2 z a]⟩ (ae.cO aa) ?_ fin;rw[aeH];exact d.keep λz b a Y=>⟨a,al⟩
def Qu{x8 pv qv:af}{R t:Nat}(hm:m<=100000)(aL:n<=1000000)(e:fe n m M ll fls nv fv B I H0)(c:∀v,(B v).length=m)(x:R=H0.next)(a_:t<m){E:Nat}(u:R<E){L6:af->af->af->af->af->af->ae->O}{Q:af->ae->Prop}{N:Nat}:∀(j k q:Nat) (H:ae) (iv:af),k+j=8->j<q->aw H0 H->E<=H.next->H.get R=A (.row I 2 [[pv,qv]])->aZ (bp aN) E (E<= ·) H (oY n B t k) iv->
  (∀(H':ae) (iv:af),cg E H H'->aZ (bp aN) E (E<= ·) H' (oY n B t 8) iv->W (Dy (aK P aD) N L6 (D F m) (D F 8) x8 (.ptr M 0 0) (.ptr R 0 0) (D F (t:Nat)) iv H') Q)->
  W (yw (aK P aD) N L6 q (D F m) (D F 8) x8 (.ptr M 0 0) (.ptr R 0 0) (D F (t:Nat)) iv (D F (k:Nat)) H) Q
 |_,_,0,_,_,_,aH,_,_,_,_,_=>aa
 |0,k,q+1,H,iv,y,_,p,d,g,h,fin=>by
  have ab:¬(k:Int)<8:=aa;refine bF @yw.eq_2 @Dt.eq_1 ?_;obtain rfl:k=8:=aa;exact fin H iv (.refl _ _) h
 |j+1,k,q+1,H,iv,y,aH,p,d,g,h,fin=>by
  have G:k<8:=aa;have S:dS (.ptr M 0 0)=A (.ptr M 0 0):=rfl;have on:=Qu (x8:=x8) (pv:=pv) (qv:=qv) (R:=R) (t:=t) hm aL e c x a_ u (L6:=L6) (Q:=Q) (N:=N) j (k+1) q;have s:=e.aC p;obtain⟨aj,w0,ak,L,l,o,a3,a4,a5,_⟩:=s.er a_ G;refine bb @yw.eq_2 @Dt.eq_1 S (iF s.bR) l (ag o (ag a3 a4)) ?_;refine e2 (G0 (c _) hm (s.row _ L a5)) λw H1 f T=> ?_
  obtain⟨U,H',r,b,a,V⟩:=h.qV dJ d T (f.kt fy) (by simp[oY];omega);refine bF (λz0=>qB z0 f.az.one) r ?_;have ad:=p.1;have Y:=a.1;rw[<-aeG]at b;exact on H' U aa aa ⟨aa,λz K=>by rw[a.2 z aa,p.2 z K]⟩ aa (by rw[a.2 R aa];exact g) b λi i2 ah ai=>fin i i2 (a.trans ah) ai
theorem Qw{x8 pv:af}{R:Nat}(hm:m<=100000)(aL:n<=1000000)(u:fe n m M ll fls nv fv B I H0)(i:∀v,(B v).length=m)(t:R=H0.next){lsn:List (List Int)}{Q:af->ae->Prop}{N:Nat}(s:8<N):∀(j k q:Nat) (H:ae) (E:Nat) (qv:af),k+j=m->j<q->aw H0 H->R<E->E<=H.next->H.get R=A (.row I 2 [[pv,qv]])->aI (bp aN) H (λz=>R+1<=z/\z<E) lsn pv->aZ (bp (bp aN)) E (E<= ·) H (qa n B k) qv->
  (∀(H':ae) (qv:af),aw H0 H'->H'.get R=A (.row I 2 [[pv,qv]])->aI (bp aN) H' (λz=>R+1<=z) lsn pv->aI (bp (bp aN)) H' (λz=>R+1<=z) (qa n B m) qv->W (r3 (aK P aD) N x8 (.ptr R 0 0) H') Q)->
  W (yv (aK P aD) N q (D F m) (D F 8) x8 (.ptr M 0 0) (.ptr R 0 0) (D F (k:Nat)) H) Q
 |_,_,0,_,_,_,_,aH,_,_,_,_,_,_,_=>aa
 |0,k,q+1,H,E,qv,L,_,p,l,r,g,e,h,fin=>by
  have T:¬(k:Int)<(m:Int):=aa;refine bF @yv.eq_2 @Ds.eq_1 ?_;obtain rfl:k=m:=aa;exact fin H qv p g (e.keep (.le aa)) (h.az.keep (.le aa))
 |j+1,k,q+1,H,E,qv,L,aH,p,l,r,g,e,h,fin=>by
  have O:k<m:=aa;have on:=Qw (x8:=x8) (pv:=pv) (R:=R) hm aL u i t (lsn:=lsn) (Q:=Q) s j (k+1) q;refine bF @yv.eq_2 @Ds.eq_1 ?_;refine Qu hm aL u i t O aa 8 0 N H .aq aa s p Nat.le.refl g (aZ.nil _ _ _ _) ?_;intro H1 iv pu aP;have f:aw H H1:=pu.aC;obtain⟨w,H',x,c,d,S⟩:=h.qV nO r f aP.az (by simp[qa];omega);have y:=f.get g;have G:H'.get R=A (.row I 2 [[pv,qv]]):=by rw[d.2 R aa];exact g
  refine bb @Dy.eq_1 @yn.eq_1 (fF y) (λz0=>ah8 z0 aP.az.one) x (ai5 G c.az.one) ?_;have o:∀z,z≠R->(H'.set R (.row I 2 [[pv,w]])).get z=H'.get z:=(by grind[ae.b_]);have U:=p.1;have V:=f.1;rw[<-aeI]at c;refine on _ E w aa aa ⟨by simp;omega,λz a=>by rw[o z aa,d.2 z aa,p.2 z a]⟩ l (by simp;omega) (ae.cO aa) ?_ ?_ fin
  ·exact e.keep λz b a K=>⟨a,by rw[o z aa,d.2 z a.2];omega⟩
  ·exact c.keep λz b a K=>al
end
section
variable {n m:Nat}{l:List bt}{H:ae}{ok:Nat->Prop}
theorem aeJ{lv:af}(ab:gy n m l)(aL:n<=70000)(hm:m<=60)(ar:l.length<=800000000)(aJ:aI cU H ok l lv):
  W (aK P aD 82 [D F n,D F m,D F 8,lv] H) λr H'=>∃pv,r= .tuple [pv,D F 0]/\Kd H' (λL=>H.next<=L/\L<H'.next) (ho n m l) pv/\aw H H':=by
 refine agW (l.length+n+m+(n+m*8)*m+100) ?_;generalize a6:l.length+n+m+(n+m*8)*m+100=N;obtain⟨zA,U⟩:∃zA,zA=H.next:=⟨_,rfl⟩
 have y:=aw.push H (.row I 2 [[.aq,.aq]]);have cp:=ae.a1 H (.row I 2 [[.aq,.aq]]);have a8:(H.push (.row I 2 [[.aq,.aq]])).next=zA+1:=by rw[U];rfl
 rw[<-U]at cp;have aW:∀(k:af->ae->O),fA H [.aq,.aq] k=k (.ptr zA 0 0) (H.push (.row I 2 [[.aq,.aq]])):=(by grind[kf,kh]);simp only[St,aW];have Y:=aJ.below.keep (ok':=(· <zA)) λz b d g=>⟨aa,y.get g⟩
 generalize H.push (.row I 2 [[.aq,.aq]])=H1 at*;refine bM ?_;refine Qs ab aa l.length 0 N H1 aa aa Y ?_;intro a w;obtain⟨M,V⟩:∃M,M=a.next:=⟨_,rfl⟩
 have ap:fl a.next (.agg [.aq,.aq,C J])=A (.ptr a.next 0 0,.row I 3 [[.aq,.aq,C J]]):=mH _ _ rfl
 have aR:=aw.push a (.row I 3 [[.aq,.aq,C J]]);have bR:=ae.a1 a (.row I 3 [[.aq,.aq,C J]]);have lx:(a.push (.row I 3 [[.aq,.aq,C J]])).next=M+1:=by rw[V];rfl
 have a4:zA+1<=M:=by have:=w.1;omega
 refine bF @Du.eq_1 ap ?_;rw[<-V]at bR ⊢;have u:=w.trans aR;have aF:aI cU (a.push (.row I 3 [[.aq,.aq,C J]])) (· <zA) l lv:=Y.aC u;have ax:=u.get cp;generalize a.push (.row I 3 [[.aq,.aq,C J]])=an at*;refine Qt aa aa n 0 N an [] .aq aa aa rfl ⟨bR,aZ.nil _ _ _ _,⟨λL h=>al,List.nodup_nil⟩⟩ ?_;intro q nl nv aM hq aT;rw[Dv];have aV:sl m M q.next nl [] nv .aq q:=by
  have e:nl++([]:List (List Nat)).flatten=nl:=List.append_nil _;refine⟨hq.bR,by rw[e];exact hq.ar.az.keep λz b d g=>⟨⟨d,ae.bm g⟩,g⟩,aZ.nil _ _ _ _,by rw[e];exact hq.r,λfs h=>al,ae.bm hq.bR,Nat.le.refl⟩
 refine Qp aa aa m 0 N q [] .aq aa aa rfl aV ?_;intro E fls fv aB aj aU;have ak:=aj.ahv aM aB;have ai:∀L∈nl++fls.flatten,M<L:=λL h=>(aj.r.row L h).1
 obtain⟨ll,aH⟩:∃ll,ll=nl++fls.flatten:=⟨_,rfl⟩;rw[<-aH]at ak ai;rw[r2];have o:=aT.trans aU;have a_:∀L∈ll,M<L:=ai;have aG:aI cU E (jE M ll) l lv:=aF.keep λz b (d:z<zA) g=>⟨⟨al,aa⟩,by rw[o.2 z aa];exact g⟩
 have ay:=(o.2 zA aa).trans ax;refine Qq aa ab aa aa N E _ J ?_ ak (ie.start n m l) (λe=>by cases e) aG ?_
 ·grind
 intro c B am p K s;have aA:c.get zA=A (.row I 2 [[.aq,.aq]]):=by rw[s.2 zA (ae.bm ay) al aa];omega
 obtain⟨R,j⟩:∃R,R=c.next:=⟨_,rfl⟩
 have aS:=aw.push c (.row I 2 [[.aq,.aq]]);have T:=ae.a1 c (.row I 2 [[.aq,.aq]]);have a9:(c.push (.row I 2 [[.aq,.aq]])).next=R+1:=by rw[j];rfl
 rw[<-j]at T;have aX:∀(k:af->ae->O),fA c [.aq,.aq] k=k (.ptr R 0 0) (c.push (.row I 2 [[.aq,.aq]])):=(by grind[kf,kh]);simp only[ym,aX];generalize c.push (.row I 2 [[.aq,.aq]])=ao at*;refine Qv aa aa am p.len j n 0 N ao .aq aa aa aS T (aZ.nil _ _ _ _) ?_;intro G pv aQ Q aN;rw[Dx];refine Qw aa aa am p.len j aa m 0 N G G.next .aq aa aa aQ (ae.bm Q) Nat.le.refl Q (aN.az.keep λz b d g=>⟨⟨d,ae.bm g⟩,g⟩) (aZ.nil _ _ _ _) ?_
 intro i qv x au ah f9;have aP:=ae.bm aA;have S:i.get zA=A (.row I 2 [[.aq,.aq]]):=by rw[x.2 zA aP];omega
 have st:=yZ S ah.one f9.one;have av:(i.set zA (.row I 2 [[pv,qv]])).get zA=A (.row I 2 [[pv,qv]]):=ae.cO (ae.bm S);refine cu @r3.eq_1 (m0 au) st (m0 av) ?_;have a3:=x.1;have a5:=w.1;have a0:=o.1;have a2:=s.1;have ad:du i (λz=>R+1<=z) (i.set zA (.row I 2 [[pv,qv]])) (λL=>H.next<=L/\L<(i.set zA (.row I 2 [[pv,qv]])).next):=λz b (d:R+1<=z) g=>⟨⟨aa,by have:=ae.bm g;simpa using this⟩,by grind[ae.b_]⟩
 refine aE.2 ⟨_,rfl,⟨pv,qv,rfl,?_,?_⟩,?_⟩
 ·have e:(ho n m l).nodes.map aO=p_ B n:=by
   simp only[ho,iH,p_,List.map_map];exact List.map_congr_left λv _=>(p.row K v).symm
  rw[e];exact ah.keep ad
 ·have e:(ho n m l).fields.map (·.map aO)=qa n B m:=by
   simp only[ho,iH,qa,oY,List.map_map];refine List.map_congr_left λt _=> ?_
   simp only[Function.comp,List.map_map];exact List.map_congr_left λf _=>(p.row K (n+t*8+f)).symm
  rw[e];exact f9.keep ad
 ·have a7:=y.1;refine⟨by simp;omega,λz d=> ?_⟩;rw[ae.b_ aa,x.2 z aa,s.2 z aa al aa,o.2 z aa,u.2 z aa,y.2 z d]
end
end
section
set_option maxRecDepth 100000
set_option maxHeartbeats 4000000
noncomputable section
def Hq(G:ao)(N:Nat):hX Tryz.f13 G N (·.ad.ad.ad) (a8 Tryz.f13) []:=⟨_,v0 an⟩
def BJ(G:ao)(N:Nat)(L1:b8):ew 0 1 5 Tryz.f13 G N (·.ad.ad.aj.ad.aj.aj) (bo L1 0 1 5) [(0,(bu (Hq G N)))]:=⟨_,v3 an⟩
def wN(G:ao)(N:Nat):Nat->b8
 |0=>gQ
 |n+1=>BJ G N (wN G N n)
def we(G:ao)(N:Nat):gn Tryz.f13 G N:=⟨_,t2 (ak (ak (ak ((Hq G N).2) (ak (bh (bH (λm=>(BJ G N (wN G N m)).2))) an)) an) an)⟩
def ae5(N:Nat):=c6 Tryz.func13 λG=>(we G N).2
def HH(G:ao)(N:Nat):hX Tryz.f17 G N (·.ad.ad.ad) (a8 Tryz.f17) []:=⟨_,v0 an⟩
def BR(G:ao)(N:Nat)(L1:b8):ew 0 1 5 Tryz.f17 G N (·.ad.ad.aj.ad.aj.aj) (bo L1 0 1 5) [(0,(bu (HH G N)))]:=⟨_,v3 an⟩
def wT(G:ao)(N:Nat):Nat->b8
 |0=>gQ
 |n+1=>BR G N (wT G N n)
def wQ(G:ao)(N:Nat):gn Tryz.f17 G N:=⟨_,t2 (ak (ak (ak ((HH G N).2) (ak (bh (bH (λm=>(BR G N (wT G N m)).2))) an)) an) an)⟩
def afo(N:Nat):=c6 Tryz.func17 λG=>(wQ G N).2
def ID(G:ao)(N:Nat):hX Tryz.f31 G N (·.ad.ad) (a8 Tryz.f31) []:=⟨_,v0 an⟩
def Cx(G:ao)(N:Nat)(L1:b8):ew 0 1 5 Tryz.f31 G N (·.ad.aj.ad.aj.aj) (bo L1 0 1 5) [(0,(bu (ID G N)))]:=⟨_,v3 an⟩
def xD(G:ao)(N:Nat):Nat->b8
 |0=>gQ
 |n+1=>Cx G N (xD G N n)
def Sh(G:ao)(N:Nat):gn Tryz.f31 G N:=⟨_,t2 (ak (ak ((ID G N).2) (ak (bh (bH (λm=>(Cx G N (xD G N m)).2))) an)) an)⟩
def agr(N:Nat):=c6 Tryz.func31 λG=>(Sh G N).2
def Hp(G:ao)(N:Nat):eP 3 Tryz.f138 G N (·.ad.ad.ad) (a8 Tryz.f138) []:=⟨_,v1 an⟩
def BG(G:ao)(N:Nat)(L1:b8):ew 0 3 4 Tryz.f138 G N (·.ad.ad.aj.ad.aj.aj) (bo L1 0 3 4) [(0,(a6 (Hp G N) 3))]:=⟨_,v3 an⟩
def wM(G:ao)(N:Nat):Nat->b8
 |0=>gQ
 |n+1=>BG G N (wM G N n)
def RL(G:ao)(N:Nat):f_ Tryz.f138 G N:=⟨_,t1 (ak (ak (ak ((Hp G N).2) (ak (bh (bH (λm=>(BG G N (wM G N m)).2))) an)) an) an)⟩
def afd(N:Nat):=eo Tryz.func138 λG=>(RL G N).2
def BH(G:ao)(N:Nat):hX Tryz.f139 G N (·.ad.ad.ad.ad) (a8 Tryz.f139) []:=⟨_,v0 an⟩
def BI(G:ao)(N:Nat)(L1:ck):dO 0 7 8 9 Tryz.f139 G N (·.ad.ad.ad.aj.ad.aj.aj.ad.ad) (bO L1 0 7 8 9) [(0,(bu (BH G N)))]:=⟨_,v4 an⟩
def tP(G:ao)(N:Nat)(L1:ck):dO 0 7 8 9 Tryz.f139 G N (·.ad.ad.ad.aj.ad.aj.aj) (bO L1 0 7 8 9) [(0,(bu (BH G N)))]:=⟨_,v4 (ak (ak ((BI G N L1).2) an) an)⟩
def qj(G:ao)(N:Nat):Nat->ck
 |0=>fB
 |n+1=>tP G N (qj G N n)
def RM(G:ao)(N:Nat):nA Tryz.f139 G N:=⟨_,t3 (ak (ak (ak (ak ((BH G N).2) (ak (bh (bH (λm=>(tP G N (qj G N m)).2))) an)) an) an) an)⟩
def afe(N:Nat):=hp Tryz.func139 λG=>(RM G N).2
def RN(G:ao):eQ Tryz.f140 G:=⟨_,λN=>t2 an⟩
def aff(N:Nat):=c6 Tryz.func140 λG=>(RN G).2 N
def RP(G:ao):eQ Tryz.f142 G:=⟨_,λN=>t2 an⟩
def afh(N:Nat):=c6 Tryz.func142 λG=>(RP G).2 N
def xa(G:ao)(N:Nat):ew 0 1 5 Tryz.f194 G N (·.ad.ad.ad) (a8 Tryz.f194) []:=⟨_,v3 an⟩
def tZ(G:ao)(N:Nat)(L1:b8):ew 0 1 5 Tryz.f194 G N (·.ad.ad.aj.aj.aj) (bo L1 0 1 5) [(0,(bo (xa G N) 0 1 5))]:=⟨_,v3 an⟩
def rR(G:ao)(N:Nat):Nat->b8
 |0=>gQ
 |n+1=>tZ G N (rR G N n)
def Sb(G:ao)(N:Nat):gn Tryz.f194 G N:=⟨_,t2 (ak (ak (ak ((xa G N).2) (bh (bH (λm=>(tZ G N (rR G N m)).2)))) an) an)⟩
def afO(N:Nat):=c6 Tryz.func194 λG=>(Sb G N).2
end
end
section
open Go.a2
set_option maxRecDepth 2000
def aZ.row{H:ae}{B:Nat}{aT:List Int}{b6:af}(h:aZ aN B ba H aT b6):(aT=[]/\b6= .aq)\/∃L cap rest,b6= .az L 0 aT.length 1 cap/\B<=L/\H.get L=A (.row I 1 (dP aT++rest)):=by
 rcases h.eS with⟨f,j⟩|⟨L,els,cap,rfl,_,g,hle,k,b⟩
 ·grind
 ·refine .inr ⟨L,cap,els.drop aT.length,rfl,h.low L _ _ rfl,?_⟩;have e:els=dP aT++els.drop aT.length:=by
   apply List.ext_getElem?;intro i;by_cases aP:i<aT.length
   ·rw[List.getElem?_append_left (by grind[lY])];obtain⟨a,c,d⟩:=b i aT[i] al;rw[c,show a=[af.int F aT[i]]from d];grind[oA]
   grind[lY]
  rw[<-e];exact g
theorem lJ{l:List Nat}{i n:Nat}(h:l[i]? =A n):(aO l)[i]? =A (n:Int):=by simp[aO,h]
theorem fI(l:List Nat):(aO l).length=l.length:=by simp[aO]
theorem aj3(l:List Nat)(i n:Nat):(aO l).set i (n:Int)=aO (l.set i n):=by simp[aO,List.map_set]
def acJ(H0:ae)(a b:Nat):bD P H0 .min [3,3] [D F (a:Nat),D F (b:Nat)]=A (D F ((min a b:Nat):Int)):=by
 show A (af.int F (if(b:Int)<(a:Int)then(b:Int)else(a:Int)))=_;grind
structure eV(U zD:Nat)(lv:af)(L:List Nat)(H:ae):Prop where
 l7:H.get U=some (.row false 1 [[lv]])
 lv:(L=[]/\lv= .aq)\/∃a rest,lv= .az zD 0 L.length 1 a/\H.get zD=some (.row false 1 (dP (aO L)++rest))/\zD≠U
section
variable {U zD:Nat}{lv:af}{L:List Nat}{H:ae}
def th(g:H.get U=A (.row I 1 [[lv]])):aJ P H 30 (.ptr U 0 0)=A lv:=by rw[eW aG g rfl];rfl
theorem aiM{w:af}(g:H.get U=A (.row I 1 [[lv]]))(hw:w.one=J):cz P H 30 (.ptr U 0 0) w=A (H.set U (.row I 1 [[w]])):=by
 have a:=dn hw;rw[fb (n:=1) aG g rfl al al b0,a];rfl
theorem eV.mut{H':ae}{S:Nat->Prop}(s:eV U zD lv L H)(p:fZ S H H')(ah:¬S U)(ai:¬S zD):eV U zD lv L H':=by
 refine⟨p.get s.l7 ah,?_⟩;rcases s.lv with h|⟨a,rest,b,c,d⟩
 ·grind
 ·exact .inr ⟨a,rest,b,p.get c ai,d⟩
theorem eV.aC{H':ae}(s:eV U zD lv L H)(p:aw H H'):eV U zD lv L H':=s.mut (p.mut λ_=>False) (λh=>h) (λh=>h)
def eV.len(s:eV U zD lv L H)(H0:ae):bD P H0 .len [30] [lv]=A (D F L.length):=by
 rcases s.lv with⟨rfl,rfl⟩|⟨a,rest,rfl,_⟩
 ·exact len_nil bV.un
 ·exact hN bV.un _ _ _ _ _
theorem eV.at_(s:eV U zD lv L H){i:Nat}(aP:i<L.length):ct P 30 lv (D F (i:Nat))=A (.ptr zD i 0)/\aJ P H 3 (.ptr zD i 0)=A (D F (aS L i:Nat)):=by
 rcases s.lv with⟨rfl,rfl⟩|⟨a,rest,rfl,g,_⟩
 ·grind
 ·refine⟨?_,?_⟩
  ·grind[nJ,bV]
  ·have e:(dP (aO L)++rest)[i]? =A [D F (aS L i:Nat)]:=by
    grind[lY,fI,oA,lJ,pR]
   rw[eW qG g e];rfl
theorem eV.set(s:eV U zD lv L H){i v:Nat}(aP:i<L.length):∃H',cz P H 3 (.ptr zD i 0) (D F (v:Nat))=A H'/\eV U zD lv (L.set i v) H'/\H'.next=H.next/\∀k,k≠zD->H'.get k=H.get k:=by
 rcases s.lv with⟨rfl,rfl⟩|⟨c,rest,rfl,g,b⟩
 ·grind
 ·have e:(dP (aO L)++rest)[i]? =A [D F (aS L i:Nat)]:=by
   grind[lY,fI,oA,lJ,pR]
  have a:(dP (aO L)++rest).set i [D F (v:Nat)]=dP (aO (L.set i v))++rest:=by
   grind[lY,fI,EP,aj3]
  refine⟨H.set zD (.row I 1 (dP (aO (L.set i v))++rest)),?_,⟨?_,(by grind[ae.cO,ae.bm])⟩,aW,(by grind[ae.b_])⟩
  ·rw[fb D_ g e rfl rfl aa,<-a];rfl
  ·rw[ae.b_ b];exact s.l7
theorem pU(s:eV U zD lv L H){i:Nat}(aP:i<L.length):W (aK P aD 140 [.ptr U 0 0,D F (i:Nat)] H) λr H'=>r= D F (aS L i:Nat)/\H'=H:=by
 refine aff 0 ?_;have c:dS (.ptr U 0 0)=A (.ptr U 0 0):=rfl;obtain⟨a,b⟩:=s.at_ aP;refine bb @RN.eq_1 c (th s.l7) s.len a b ?_;grind[aE]
structure jq(b:Bool)(L:List Nat)(b':Bool)(L':List Nat):Prop where
 j:ja L L'
 on:b'=true->b=true\/hO L'<hO L
 off:b'=false->b=false/\L'=L
theorem jq.refl{b:Bool}{L:List Nat}(g:a2.Good L):jq b L b L:=⟨.refl g,.inl,λh=>⟨h,rfl⟩⟩
theorem jq.trans{b b' g:Bool}{L L' f:List Nat}(h:jq b L b' L')(k:jq b' L' g f):jq b L g f:=
 ⟨h.j.trans k.j,λe=>by
  have ah:=h.j.rA;have ai:=k.j.rA;rcases k.on e with i|i
  ·rcases h.on i with l|l
   ·grind
   omega
  omega,λe=>by
  obtain⟨a,b⟩:=k.off e;obtain⟨c,d⟩:=h.off a;grind⟩
theorem jq.or{b b':Bool}{L L':List Nat}(h:jq I L b' L'):jq b L (b||b') L':=by
 refine⟨h.j,λe=> ?_,λe=> ?_⟩
 ·cases b with
  |true=>grind
  |false=>
   rcases h.on al with ah|ah
   ·grind
   omega
 ·cases b with
  |true=>cases e
  |false=>exact⟨rfl,(h.off al).2⟩
def l_(L:List Nat)(a b:Nat)(x:Nat):Nat:=if x=aS L a\/x=aS L b then min (aS L a) (aS L b)else x
theorem OG{a b:Nat}(p:L.length<=100000){N:Nat}:∀(j k q:Nat) (H:ae),k+j=L.length->j<q->eV U zD lv ((L.take k).map (l_ L a b)++L.drop k) H->
  W (qj (aK P aD) N q (.ptr U 0 0) (D F (aS L a:Nat)) (D F (aS L b:Nat)) (D F (k:Nat)) H) λr H'=>r= C J/\eV U zD lv (gg L a b) H'/\H'.next=H.next/\∀k,k≠zD->H'.get k=H.get k
 |_,_,0,_,_,aH,_=>aa
 |0,k,q+1,H,w,_,s=>by
  obtain rfl:k=L.length:=aa;have ar:((L.take L.length).map (l_ L a b)++L.drop L.length).length=L.length:=aW;have B:¬((L.length:Nat):Int)<((L.length:Nat):Int):=aa;have c:=s.len;rw[ar]at c;have d:dS (.ptr U 0 0)=A (.ptr U 0 0):=rfl;refine bb @qj.eq_2 @tP.eq_1 @BH.eq_1 d (th s.l7) c ?_;refine aE.2 ⟨rfl,?_,rfl,λ_ _=>rfl⟩;have e:gg L a b=(L.take L.length).map (l_ L a b)++L.drop L.length:=by simp[gg,l_]
  grind
 |j+1,k,q+1,H,w,aH,s=>by
  have n:k<L.length:=aa;have ar:((L.take k).map (l_ L a b)++L.drop k).length=L.length:=al;have c:=s.len;rw[ar]at c;have d:dS (.ptr U 0 0)=A (.ptr U 0 0):=rfl;have tl:((L.take k).map (l_ L a b)).length=k:=al;have t:aS ((L.take k).map (l_ L a b)++L.drop k) k=L[k]:=Ar (by
   grind)
  obtain⟨l,f⟩:=s.at_ (i:=k) aa;rw[t]at f;have on:=OG (a:=a) (b:=b) p (N:=N) j (k+1) q;have E:(L.take (k+1)).map (l_ L a b)++L.drop (k+1)=((L.take k).map (l_ L a b)++L.drop k).set k (l_ L a b L[k]):=by
   rw[List.set_append_right _ _ aa,tl,Nat.sub_self,List.drop_eq_getElem_cons n,List.set_cons_zero,List.take_succ_eq_append_getElem n,List.map_append,List.append_assoc];rfl
  have o:=e8 (show k<=1000000000 by omega);by_cases h:L[k]=aS L a\/L[k]=aS L b
  ·have u:l_ L a b L[k]=min (aS L a) (aS L b):=if_pos h;obtain⟨H',m,x,y,z⟩:=s.set (i:=k) (v:=min (aS L a) (aS L b)) aa;have hn:=λ(H0:ae)=>acJ H0 (aS L a) (aS L b)
   have fin:W (BI (aK P aD) N (qj (aK P aD) N q) (.ptr U 0 0) (D F (aS L a:Nat)) (D F (aS L b:Nat)) (D F (k:Nat)) H') λr g=>r= C J/\eV U zD lv (gg L a b) g/\g.next=H.next/\∀k,k≠zD->g.get k=H.get k:=by
    refine bF @BI.eq_1 o ?_;grind
   by_cases ah:L[k]=aS L a
   ·have d1:(((L[k]:Nat):Int)==((aS L a:Nat):Int))=true:=al;refine bb @qj.eq_2 @tP.eq_1 d (th s.l7) c (ag l (ag f (ag d1 (ag hn m)))) ?_;omega
   ·have ai:L[k]=aS L b:=aa;have d1:(((L[k]:Nat):Int)==((aS L a:Nat):Int))=false:=al;have d2:(((L[k]:Nat):Int)==((aS L b:Nat):Int))=true:=al;refine bb @qj.eq_2 @tP.eq_1 d (th s.l7) c (ag l (ag f (ag d1 (ag d2 (ag hn m))))) ?_;omega
  ·simp only[not_or]at h;have u:l_ L a b L[k]=L[k]:=if_neg aa;have d1:(((L[k]:Nat):Int)==((aS L a:Nat):Int))=false:=al;have d2:(((L[k]:Nat):Int)==((aS L b:Nat):Int))=false:=al;refine bb @qj.eq_2 @tP.eq_1 @BI.eq_1 d (th s.l7) (ag c (ag l (ag f (ag d1 (ag d2 o))))) ?_;grind[List.drop_eq_getElem_cons]
theorem OH(s:eV U zD lv L H)(g:a2.Good L)(i:L.length<=100000){a b:Nat}(c:a<L.length)(d:b<L.length):W (aK P aD 139 [.ptr U 0 0,D F (a:Nat),D F (b:Nat)] H) λr H'=>∃t,r= C t/\eV U zD lv (gg L a b) H'/\jq I L t (gg L a b)/\H'.next=H.next/\∀k,k≠zD->H'.get k=H.get k:=by
 refine afe (L.length+1) ?_;simp-implicitDefEqProofs(disch:=try exact aY)only[RM];refine dK (pU s c) ?_;refine dK (pU s d) ?_;have f:=vq g c d;by_cases e:aS L a=aS L b
 ·have d3:(((aS L a:Nat):Int)==((aS L b:Nat):Int))=true:=al;refine bK d3 ?_;refine aE.2 ⟨I,rfl,by grind[td],⟨f,λh=>(by cases h),(by grind[td])⟩,rfl,λ_ _=>rfl⟩
 ·have d3:(((aS L a:Nat):Int)==((aS L b:Nat):Int))=false:=al;refine bK d3 ?_;refine(OG (a:=a) (b:=b) i L.length 0 (L.length+1) H aa aa (fH s)).mono ?_;rintro r H' ⟨rfl,j,l,z3⟩;exact⟨J,rfl,j,⟨f,λ_=> .inr (Gw g c d e),λh=>(by cases h)⟩,l,z3⟩
end
end
section
open Go.a2
set_option maxRecDepth 2000
section
variable {H:ae}{ok:Nat->Prop}
theorem M0{n U:Nat}(aL:n<=10000){N:Nat}:∀(j k q:Nat) (H:ae) (lv:af),k+j=n->j<q->H.get U=A (.row I 1 [[lv]])->aZ aN (U+1) ba H (aO (List.range k)) lv->
  W (wM (aK P aD) N q (D F (n:Nat)) (.ptr U 0 0) (D F (k:Nat)) H) λr H'=>r= .ptr U 0 0/\cg U H H'/\∃lv,H'.get U=A (.row I 1 [[lv]])/\aZ aN (U+1) ba H' (aO (List.range n)) lv
 |_,_,0,_,_,_,aH,_,_=>aa
 |0,k,q+1,H,lv,m,_,g,h=>by
  have w:¬(k:Int)<(n:Int):=aa;refine bT @wM.eq_2 @BG.eq_1 @Hp.eq_1 ?_;obtain rfl:k=n:=aa;exact aE.2 ⟨rfl,.refl _ _,lv,g,h⟩
 |j+1,k,q+1,H,lv,m,aH,g,h=>by
  have p:dS (.ptr U 0 0)=A (.ptr U 0 0):=rfl;have FY:=ae.bm g;have on:=M0 aL (U:=U) (N:=N) j (k+1) q;obtain⟨d,H',f,b,c,i,v⟩:=h.j4 (a:=(k:Int)) aa (by simp[aO];omega);have l:H'.get U=A (.row I 1 [[lv]]):=by rw[c.2 U aa];exact g
  have hle:H.next+1<=H'.next:=i
  refine bb @wM.eq_2 @BG.eq_1 p (th g) @c3 (ag f (aiM l b.az.one)) ?_;have o:∀z,z≠U->(H'.set U (.row I 1 [[d]])).get z=H'.get z:=(by grind[ae.b_]);have e:aO (List.range (k+1))=aO (List.range k)++[(k:Int)]:=by grind[List.range_succ,aO]
  refine(on _ d aa aa (ae.cO aa) (by rw[e];exact b.qz (λh=>h) _)).mono ?_;rintro r u ⟨rfl,s,t⟩;exact⟨rfl,cg.trans ⟨by simp;omega,λz x=>by rw[o z aa,c.2 z aa]⟩ s,t⟩
theorem ZG{n:Nat}(aL:n<=10000):W (aK P aD 138 [D F (n:Nat)] H) λr H'=>∃zD lv,r= .ptr H.next 0 0/\eV H.next zD lv (List.range n) H'/\H.next<=zD/\zD<H'.next/\aw H H':=by
 refine afd (n+1) ?_;have j:fl H.next (.agg [.aq])=A (.ptr H.next 0 0,.row I 1 [[.aq]]):=mH _ _ rfl
 have h:=aw.push H (.row I 1 [[.aq]]);have l7:=ae.a1 H (.row I 1 [[.aq]]);refine bF @RL.eq_1 j ?_;refine(M0 aL n 0 (n+1) _ .aq aa aa l7 (aZ.nil _ _ _ _)).mono ?_;rintro r H' ⟨rfl,i,lv,c,z3⟩;have g:aw H H':=⟨by have:=h.1;have:=i.1;omega,λl ar=>by rw[i.2 l ar,h.2 l ar]⟩;rcases z3.row with⟨d,e⟩|⟨zD,k,rest,d,e,f⟩
 ·have m:List.range n=[]:=by
   cases au:List.range n with
   |nil=>rfl
   |cons a b=>grind[aO]
  exact⟨H.next,lv,rfl,⟨c,.inl ⟨m,e⟩⟩,Nat.le.refl,ae.bm c,g⟩
 ·exact⟨zD,lv,rfl,⟨c,.inr ⟨k,rest,by rw[d,fI],f,aa⟩⟩,aa,ae.bm f,g⟩
theorem Ro{l:List Nat}{lv:af}{n:Nat}(ar:∀a∈l,a<n)(c:l.length<=1000000)(h:aI aN H ok (aO l) lv){N:Nat}:∀(j k q:Nat),k+j=l.length->j<q->
  W (w_ (aK P aD) N q lv (D F (n:Nat)) (D F (k:Nat)) H) λr H'=>r= C J/\H'=H
 |_,_,0,_,aH=>aa
 |0,k,q+1,d,_=>by
  have i:¬(k:Int)<(l.length:Int):=aa;have b:∀H0,bD P H0 .len [30] [lv]=A (D F l.length):=λH0=>by rw[h.len bV,fI]
  refine cu @w_.eq_2 @Ca.eq_1 @H3.eq_1 b ?_;grind[aE]
 |j+1,k,q+1,d,aH=>by
  have e:k<l.length:=aa;have b:∀H0,bD P H0 .len [30] [lv]=A (D F l.length):=λH0=>by rw[h.len bV,fI]
  obtain⟨p,f,g⟩:=h.int (j:=(k:Int)) (a:=(l[k]:Int)) aa (by grind[lJ]);refine dd @w_.eq_2 @Ca.eq_1 b f g ?_;refine dK (lh (ar _ (List.getElem_mem e))) ?_;refine bM ?_;exact Ro ar c h j (k+1) q aa aa
def Rp{l:List Nat}{lv:af}{n:Nat}(ar:∀a∈l,a<n)(b:l.length<=1000000)(h:aI aN H ok (aO l) lv):W (aK P aD 193 [lv,D F (n:Nat)] H) λr H'=>r= C J/\H'=H:=by
 refine afN (l.length+1) ?_;rw[Sa];exact Ro ar b h l.length 0 _ aa aa
theorem aI.pS{l:List (List Nat)}{v:af}(h:aI (bp aN) H ok (l.map aO) v){j:Int}{a:List Nat}(b:0<=j)(c:l[j.toNat]? =A a):∃p w,ct P 31 v (D F j)=A p/\(∀H',aw H H'->aJ P H' 30 p=A w)/\aI aN H ok (aO a) w:=by
 obtain⟨L,i,ro,els,cs,ah,_,ai,ay,w,rfl,aM⟩:=h.at_ (K:=bp aN) dJ b (a:=aO a) al;exact⟨_,w,ah,λH' p=>by rw[eW sg (p.get ai) ay];rfl,aM⟩
theorem aI.lists{l:List (List (List Nat))}{v:af}(h:aI (bp (bp aN)) H ok (l.map (·.map aO)) v){j:Int}{a:List (List Nat)}(b:0<=j)(c:l[j.toNat]? =A a):∃p w,ct P 152 v (D F j)=A p/\(∀H',aw H H'->aJ P H' 31 p=A w)/\aI (bp aN) H ok (a.map aO) w:=by
 obtain⟨L,i,ro,els,cs,ah,_,ai,ay,w,rfl,aM⟩:=h.at_ (K:=bp (bp aN)) nO b (a:=a.map aO) al;exact⟨_,w,ah,λH' p=>by rw[eW Ts (p.get ai) ay];rfl,aM⟩
section
variable {m:Nat}{p:df}{nv fv:af}{zX:Nat}
theorem Tk(b:fY m p)(aQ:H.get zX=A (.row I 2 [[nv,fv]]))(aL:aI (bp aN) H ok (p.nodes.map aO) nv){Q:af->ae->Prop}{N:Nat}(fin:W (BF (aK P aD) N (.ptr zX 0 0) (D F (m:Nat)) H) Q):∀(j k q:Nat),k+j=p.nodes.length->j<q->
  W (wL (aK P aD) N q (.ptr zX 0 0) (D F (m:Nat)) (D F (k:Nat)) H) Q
 |_,_,0,_,aH=>aa
 |0,k,q+1,f,_=>by
  have h:¬(k:Int)<(p.nodes.length:Int):=aa;have c:∀H0,bD P H0 .len [31] [nv]=A (D F p.nodes.length):=λH0=>by rw[aL.len dJ,List.length_map]
  refine cu @wL.eq_2 @BE.eq_1 (fF aQ) c ?_;omega
 |j+1,k,q+1,f,aH=>by
  have g:k<p.nodes.length:=aa;have i:=b.nn;have c:∀H0,bD P H0 .len [31] [nv]=A (D F p.nodes.length):=λH0=>by rw[aL.len dJ,List.length_map]
  obtain⟨l,w,d,e,a3⟩:=aL.pS (j:=(k:Int)) (a:=p.nodes[k]) aa al;have hm:=List.getElem_mem g;refine bb @wL.eq_2 @BE.eq_1 (fF aQ) c d (e _ (aw.refl _)) ?_;refine dK (Rp (b.nodes _ hm) (by have:=b.nl _ hm;omega) a3) ?_;refine bM ?_;exact Tk b aQ aL fin j (k+1) q aa aa
theorem Tj(b:fY m p)(aQ:H.get zX=A (.row I 2 [[nv,fv]]))(aB:aI (bp (bp aN)) H ok (p.fields.map (·.map aO)) fv){s:Nat}(r:s<m){L2:af->af->af->ae->O}{Q:af->ae->Prop}{N:Nat}(fin:W (wI (aK P aD) N L2 (.ptr zX 0 0) (D F (m:Nat)) (D F (s:Nat)) H) Q):∀(j k q:Nat),k+j=8->j<q->
  W (wK (aK P aD) N L2 q (.ptr zX 0 0) (D F (m:Nat)) (D F (s:Nat)) (D F (k:Nat)) H) Q
 |_,_,0,_,aH=>aa
 |j,k,q+1,c,aH=>by
  have t:s<p.fields.length:=by rw[b.len];omega
  obtain⟨x,w,d,e,a3⟩:=aB.lists (j:=(s:Int)) (a:=p.fields[s]) aa al;have hm:=List.getElem_mem t;have n:=b.wid _ hm;have g:∀H0,bD P H0 .len [31] [w]=A (D F 8):=λH0=>by rw[a3.len dJ,List.length_map,n];rfl
  match j,c,aH with
  |0,c,_=>
   have v:¬(k:Int)<8:=aa;refine bb @wK.eq_2 @BD.eq_1 (fF aQ) d (e _ (aw.refl _)) g ?_;omega
  |j+1,c,aH=>
   have o:k<p.fields[s].length:=aa;obtain⟨y,u,h,i,l⟩:=a3.pS (j:=(k:Int)) (a:=p.fields[s][k]) aa al;have f:=List.getElem_mem o;refine bb @wK.eq_2 @BD.eq_1 (fF aQ) d (e _ (aw.refl _)) (ag g (ag h (i _ (aw.refl _)))) ?_;refine dK (Rp (b.er _ hm _ f) (by have:=b.dz _ hm _ f;omega) l) ?_;refine bM ?_;exact Tj b aQ aB r fin j (k+1) q aa aa
theorem Tl(b:fY m p)(aQ:H.get zX=A (.row I 2 [[nv,fv]]))(aB:aI (bp (bp aN)) H ok (p.fields.map (·.map aO)) fv){N:Nat}(c:8<N):∀(j k q:Nat),k+j=m->j<q->
  W (wJ (aK P aD) N q (.ptr zX 0 0) (D F (m:Nat)) (D F (k:Nat)) H) λr H'=>r= C J/\H'=H
 |_,_,0,_,aH=>aa
 |0,k,q+1,s,_=>by
  have z:¬(k:Int)<(m:Int):=aa;refine bT @wJ.eq_2 @BB.eq_1 @wH.eq_1 ?_;grind[aE]
 |j+1,k,q+1,s,aH=>by
  have B:=b.hm;have u:k<p.fields.length:=by rw[b.len];omega
  have t:0<p.fields.length:=aa;obtain⟨E,w,d,e,a3⟩:=aB.lists (j:=(k:Int)) (a:=p.fields[k]) aa al;obtain⟨G,y,f,g,h⟩:=aB.lists (j:=0) (a:=p.fields[0]) aa al;have n:=b.wid _ (List.getElem_mem u);have o:=b.wid _ (List.getElem_mem t);have v:∀H0,bD P H0 .len [31] [w]=A (D F 8):=λH0=>by rw[a3.len dJ,List.length_map,n];rfl
  have x:∀H0,bD P H0 .len [31] [y]=A (D F 8):=λH0=>by rw[h.len dJ,List.length_map,o];rfl
  have i:((8:Int) != 8)=false:=b0;have l:decide ((8:Int)<8)=false:=b0;refine bb @wJ.eq_2 @BB.eq_1 (fF aQ) d (e _ (aw.refl _)) (ag v (ag f (ag (g _ (aw.refl _)) (ag x (ag i l))))) ?_;refine Tj b aQ aB aa ?_ 8 0 N aa c;refine bK @wI.eq_1 ?_;exact Tl b aQ aB c j (k+1) q aa aa
end
theorem ajp{m:Nat}{p:df}{nv fv:af}(a:fY m p)(aL:aI (bp aN) H ok (p.nodes.map aO) nv)(aB:aI (bp (bp aN)) H ok (p.fields.map (·.map aO)) fv):W (aK P aD 137 [.agg [nv,fv]] H) λr H'=>r= C J/\aw H H':=by
 refine afc (p.nodes.length+m+10) ?_;have c:fl H.next (.agg [nv,fv])=A (.ptr H.next 0 0,.row I 2 [[nv,fv]]):=mH _ _ (by simp[aL.one,aB.one])
 have b:=aw.push H (.row I 2 [[nv,fv]]);have aQ:=ae.a1 H (.row I 2 [[nv,fv]]);have d:∀H0,bD P H0 .len [152] [fv]=A (D F m):=λH0=>by rw[aB.len nO,List.length_map,a.len]
 have hm:=a.hm;refine cu @RK.eq_1 c (fF aQ) d ?_;refine Tk a aQ (aL.aC b) ?_ p.nodes.length 0 _ aa aa;rw[BF];refine(Tl a aQ (aB.aC b) aa m 0 _ aa aa).mono ?_;grind
end
end
section
open Go.a2
set_option maxRecDepth 2000
def hg(zD:Nat)(H H':ae):Prop:=H.next<=H'.next/\∀k,k<H.next->k≠zD->H'.get k=H.get k
theorem hg.refl(zD:Nat)(H:ae):hg zD H H:=⟨Nat.le.refl,λ_ _ _=>rfl⟩
theorem hg.trans{zD:Nat}{H1 a b:ae}(h:hg zD H1 a)(k:hg zD a b):hg zD H1 b:=⟨Nat.le_trans h.1 k.1,λz c ah=>(k.2 z (Nat.lt_of_lt_of_le c h.1) ah).trans (h.2 z c ah)⟩
def Ft{zD:Nat}{H H':ae}(p:aw H H'):hg zD H H':=⟨p.1,λz a _=>p.2 z a⟩
theorem hg.get{zD:Nat}{H H':ae}(h:hg zD H H'){l:Nat}{b:bA}(a:H.get l=A b)(c:l≠zD):H'.get l=A b:=by rw[h.2 l (ae.bm a) c];omega
def hg.keep{zD:Nat}{H H':ae}{ok:Nat->Prop}(h:hg zD H H')(c:∀k,ok k->k≠zD):du H ok H' ok:=λk b a g=>⟨a,h.get g (c k a)⟩
section
variable {U zD m:Nat}{lv:af}{p:df}
def O6{L:List Nat}(h:dW m p L){a b:Nat}(e:a<m)(f:b<m)(t:bW p a b):dW m p (gg L a b):=by
 have c:a<L.length:=by rw[h.len];omega
 have d:b<L.length:=by rw[h.len];omega
 exact⟨(oL _ _ _).trans h.len,h.h1.join c d,NX h.h1 c d (bW.cl p).eqv h.sub t⟩
def QU{L:List Nat}(g:a2.Good L){a b:Nat}(c:a<L.length)(d:b<L.length):en (gg L a b) a b:=(AY g c d).2 (.inr ⟨.inl rfl,.inr rfl⟩)
theorem TF{x1 x2:af}{l:List Nat}{ov:af}{ok:Nat->Prop}{f:Nat}(hm:m<=60)(ar:∀a∈l,a<m)(R:l.length<=1000000)(a_:∀a∈l,∀b∈l,bW p a b)(w:∀k,ok k->k≠zD){L1:af->af->af->af->af->ae->O}{Q:af->ae->Prop}{N:Nat}:∀(j k q:Nat) (H:ae) (L:List Nat) (b:Bool),k+j=l.length\/(j=0/\l.length<=k)->1<=k->j<q->eV U zD lv L H->dW m p L->aI aN H ok (aO l) ov->(∀i a c,i<k->l[0]? =A a->l[i]? =A c->en L a c)->
  (∀(H':ae) (L':List Nat) (b':Bool),eV U zD lv L' H'->dW m p L'->jq b L b' L'->(∀a∈l,∀c∈l,en L' a c)->hg zD H H'->W (rK (aK P aD) N L1 (.ptr U 0 0) x1 x2 (C b') (D F (f:Nat)) H') Q)->
  W (tR (aK P aD) N L1 q (.ptr U 0 0) x1 x2 (C b) (D F (f:Nat)) ov (D F (k:Nat)) H) Q
 |_,_,0,_,_,_,_,_,aH,_,_,_,_,_=>aa
 |0,k,q+1,H,L,b,T,ah,_,s,d,aX,au,fin=>by
  have ap:¬(k:Int)<(l.length:Int):=aa;have r:∀H0,bD P H0 .len [30] [ov]=A (D F l.length):=λH0=>by rw[aX.len bV,fI]
  refine bT @tR.eq_2 @BL.eq_1 r ?_;refine fin H L b s d (.refl d.h1) (λa e c aA=> ?_) (.refl _ _);obtain⟨i,aP,rfl⟩:=List.mem_iff_getElem.1 e;obtain⟨i2,ao,rfl⟩:=List.mem_iff_getElem.1 aA;have o:0<l.length:=aa;have u:=au i l[0] l[i] aa al al;have g:=au i2 l[0] l[i2] aa al al;exact(m7 L).trans ((m7 L).symm u) g
 |j+1,k,q+1,H,L,b,T,ah,aH,s,d,aX,au,fin=>by
  have y:k<l.length:=aa;have o:0<l.length:=aa;have r:∀H0,bD P H0 .len [30] [ov]=A (D F l.length):=λH0=>by rw[aX.len bV,fI]
  obtain⟨av,G,K⟩:=aX.int (j:=0) (a:=(l[0]:Int)) aa (by grind[lJ]);obtain⟨ax,M,n⟩:=aX.int (j:=(k:Int)) (a:=(l[k]:Int)) aa (by grind[lJ]);have on:=TF (x1:=x1) (x2:=x2) (l:=l) (ov:=ov) (ok:=ok) (f:=f) hm ar R a_ w (L1:=L1) (Q:=Q) (N:=N) j (k+1) q;have B:=List.getElem_mem o;have mk:=List.getElem_mem y;have ad:=e8 (show k<=1000000000 by omega);have v:l[0]<L.length:=by rw[d.len];grind
  have x:l[k]<L.length:=by rw[d.len];grind
  refine bb @tR.eq_2 @BL.eq_1 r G K (ag M n) ?_;refine cB (OH s d.h1 (by rw[d.len];omega) v x) ?_;rintro _ H1 ⟨t,rfl,u,g,z3,z4⟩;refine⟨aa,?_⟩;have ec:hg zD H H1:=⟨aa,λz _ Y=>z4 z Y⟩;have ab:=O6 d (ar _ B) (ar _ mk) (a_ _ B _ mk);have V:∀i a c,i<k+1->l[0]? =A a->l[i]? =A c->en (gg L l[0] l[k]) a c:=by
   intro i a c aP e aA;rcases Nat.lt_or_eq_of_le (Nat.le_of_lt_succ aP)with h|rfl
   ·exact g.j.le _ _ (au i a c h e aA)
   ·simp[o]at e;simp[y]at aA;subst e;subst aA;exact QU d.h1 v x
  have go:∀b',jq b L b' (gg L l[0] l[k])->W (Hr (aK P aD) N L1 (tR (aK P aD) N L1 q) (.ptr U 0 0) x1 x2 (C b') (D F (f:Nat)) ov (D F (k:Nat)) H1) Q:=λb' S=>by
   refine bF @Hr.eq_1 ad ?_;exact on H1 _ b' aa aa aa u ab (aX.keep (ec.keep w)) V λE L2 n ai aj ak am an=>fin E L2 n ai aj (S.trans ak) am (ec.trans an)
  have ay:=g.or (b:=b);cases t with
  |true=>
   refine bM ?_;grind
  |false=>
   refine bM ?_;grind
theorem TG{av bv:af}{a b:List (List Nat)}{ok:Nat->Prop}(hm:m<=60)(v:a.length=8)(am:b.length=8)(R:∀l∈a,l.length<=60/\∀x∈l,x<m)(S:∀l∈b,l.length<=60/\∀x∈l,x<m)
  (a_:∀(k:Nat) (cy c:List Nat),a[k]? =A cy->b[k]? =A c->∀x∈cy++c,∀y∈cy++c,bW p x y) (u:∀k,ok k->k≠zD) {N:Nat} (ak:130<N):∀(j k q:Nat) (H:ae) (L:List Nat) (t:Bool),k+j=8->j<q->eV U zD lv L H->zD<H.next->dW m p L->aI (bp aN) H ok (a.map aO) av->aI (bp aN) H ok (b.map aO) bv->(∀(i:Nat) (cy c:List Nat),i<k->a[i]? =A cy->b[i]? =A c->∀x∈cy++c,∀y∈cy++c,en L x y)->
  W (wO (aK P aD) N q (.ptr U 0 0) av bv (C t) (D F (k:Nat)) H) λr H'=>∃L' n,r= C n/\eV U zD lv L' H'/\dW m p L'/\jq t L n L'/\(∀(i:Nat) (cy c:List Nat),a[i]? =A cy->b[i]? =A c->∀x∈cy++c,∀y∈cy++c,en L' x y)/\hg zD H H'
 |_,_,0,_,_,_,_,aH,_,_,_,_,_,_=>aa
 |0,k,q+1,H,L,t,an,_,s,iT,g,f,B,au=>by
  obtain rfl:k=8:=aa;have o:decide (((8:Nat):Int)<8)=false:=b0;have E:∀H0,bD P H0 .len [31] [av]=A (D F 8):=λH0=>by rw[f.len dJ,List.length_map,v];rfl
  refine dd @wO.eq_2 @BK.eq_1 @tQ.eq_1 E o ?_;exact aE.2 ⟨L,t,rfl,s,g,.refl g.h1,λi cy c e d=>au i cy c al e d,.refl _ _⟩
 |j+1,k,q+1,H,L,t,an,aH,s,iT,g,f,B,au=>by
  have o:decide ((k:Int)<8)=true:=al;have E:∀H0,bD P H0 .len [31] [av]=A (D F 8):=λH0=>by rw[f.len dJ,List.length_map,v];rfl
  have ao:k<a.length:=aa;have ap:k<b.length:=aa;obtain⟨a0,aG,ab,ad,a3⟩:=f.pS (j:=(k:Int)) (a:=a[k]) aa al;obtain⟨a1,G,ah,O,Q⟩:=B.pS (j:=(k:Int)) (a:=b[k]) aa al;have on:=TG (a:=a) (b:=b) (av:=av) (bv:=bv) (ok:=ok) hm v am R S a_ u (N:=N) ak j (k+1) q;have aU:=R _ (List.getElem_mem ao);have aV:=S _ (List.getElem_mem ap);have dU:=a_ k a[k] b[k] al al;have aW:∀{cy c:List Nat},a[k]? =A cy->b[k]? =A c->cy=a[k]/\c=b[k]:=λe d=>by
   grind
  generalize a[k]=cy at*;generalize b[k]=c at*;obtain⟨v1,H1,a6,bd,bo,_,_⟩:=(aZ.nil aN H.next ba H).ints (m:=aO cy) (w:=aG) Nat.le.refl a3 (by grind[fI]);have T:aw H H1:=bo.aC;obtain⟨v2,K,d1,d2,d3,_,_⟩:=bd.ints (m:=aO c) (w:=G) bo.1 (Q.aC T) (by grind[fI]);have V:aw H K:=(bo.trans d3).aC;have aT:=d3.1;have aS:=bo.1;have aA:bG (A G) G=true:=dD Q;rw[List.nil_append]at bd d2;have aB:aO cy++aO c=aO (cy++c):=by simp[aO]
  rw[aB]at d2;have ai:=O _ T;have aj:=O _ (aw.refl _);refine bb @wO.eq_2 @BK.eq_1 E o ab (ag (ad _ (aw.refl _)) (ag a6 (ag ah (ag ai (ag aj (ag d1 aA)))))) ?_;refine TF (ok:=λz=>H.next<=z) hm (l:=cy++c) (λx aF=> ?_) al dU (λz aX=>aa) ((cy++c).length-1) 1 N K L t aa aa al (s.aC V) g (d2.kt fy) (λi x y aP e d=> ?_) ?_
  ·grind
  ·obtain rfl:i=0:=aa;rw[e]at d;cases d;exact rfl
  intro M L3 t3 aJ aL Y a2 aM;have ec:hg zD H M:=(Ft V).trans aM;refine bK @rK.eq_1 ?_;refine(on M L3 t3 aa aa aJ (by have:=ec.1;omega) aL (f.keep (ec.keep u)) (B.keep (ec.keep u)) (λi ax ay aP e d=> ?_)).mono ?_
  ·rcases Nat.lt_or_eq_of_le (Nat.le_of_lt_succ aP)with h|rfl
   ·exactλx aF y ar=>Y.j.le _ _ (au i ax ay h e d x aF y ar)
   grind
  ·rintro r H' ⟨L',n,rfl,aQ,aR,z3,z4,z5⟩;exact⟨L',n,rfl,aQ,aR,Y.trans z3,z4,ec.trans z5⟩
def aeM{av bv:af}{a b:List (List Nat)}{ok:Nat->Prop}{H:ae}{L:List Nat}(hm:m<=60)(g:a.length=8)(n:b.length=8)(f:∀l∈a,l.length<=60/\∀x∈l,x<m)(j:∀l∈b,l.length<=60/\∀x∈l,x<m)
  (a_:∀(k:Nat) (cy c:List Nat),a[k]? =A cy->b[k]? =A c->∀x∈cy++c,∀y∈cy++c,bW p x y) (e:∀k,ok k->k≠zD) (s:eV U zD lv L H) (iT:zD<H.next) (q:dW m p L) (h:aI (bp aN) H ok (a.map aO) av) (o:aI (bp aN) H ok (b.map aO) bv):
  W (aK P aD 141 [.ptr U 0 0,av,bv] H) λr H'=>∃L' d,r= C d/\eV U zD lv L' H'/\dW m p L'/\jq I L d L'/\(∀(i:Nat) (cy c:List Nat),a[i]? =A cy->b[i]? =A c->∀x∈cy++c,∀y∈cy++c,en L' x y)/\hg zD H H':=by
 refine afg 131 ?_;rw[RO];exact TG hm g n f j a_ e aa 8 0 131 H L I aa aa s iT q h o aa
