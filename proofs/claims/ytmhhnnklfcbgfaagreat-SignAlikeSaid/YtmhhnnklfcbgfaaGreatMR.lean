/-
  Texts of one proof, laid together: Qi Qj Qk Ql Qm Qn SgG SgH.
-/
import Derived.Test.YtmhhnnklfcbgfaaGreatMP
set_option linter.unusedVariables false
set_option linter.unusedSimpArgs false
set_option linter.defProp false
open Option renaming some→D
open Bool renaming true→C,false→Z
open Go.bo.aa renaming int→J
open Go.IntKind renaming i64→X
namespace Go.Proofs.YtmhhnnklfcbgfaaGreat
open Go.bo
section
open Go.bp
def Gl{S:bI}{x v:Nat}{l:List bp.Ask}(aD:x<S.asks.length):({S with asks:=S.asks.set x l}:bI).q v=if v=x then l else S.q v:=by
 unfold bI.q;exact jH aD
section
variable {n V a:Nat}{S:bI}{aY:List Int}{dv:Nat->aa}{es:List (Nat×Nat)}{H:ad}
def cq.Cw(h:cq n V a S aY dv es H){x:Nat}(aD:x<V)(q:bp.Ask)(az:(S.q x).length<=999999998):
  ∃b d,cS P (H.push (.row Z 3 [gu q])) [284,284] (dv (V+x)) (.aJ H.next 0 1 3 (D 1))=D (b,d)/\d.get (a+6)=D (.row Z 9 [gA n V a dv])/\(H.push (.row Z 3 [gu q])).next<=d.next/\(∀k,k<H.next->(k<a\/a+7<=k)->(∀o,o<=2*V->dd (dv o)≠D k)->d.get k=H.get k)/\
   bA P d 284 (.ptr (a+2) x 0) b=D (d.set (a+2) (.row Z 1 ((List.range V).map λk=>[dk dv (V+x) b (V+k)])))/\
   cq n V a (iQ S x q) aY (dk dv (V+x) b) es (d.set (a+2) (.row Z 1 ((List.range V).map λk=>[dk dv (V+x) b (V+k)])))/\Fr V a dv (dk dv (V+x) b) H (d.set (a+2) (.row Z 1 ((List.range V).map λk=>[dk dv (V+x) b (V+k)]))):=by
 have T:=h.lt;have af:=h.fC;obtain⟨b,d,N,p,O,ae,A,B⟩:=bG.pD (K:=vs) (ok:=bH) (ok':=bH) sU (h.q x aD) T (ay.refl H) (a:=q) (cs:=gu q) rfl (λ_ _=>trivial) ai;have M:∀k,k<a+7->d.get k=H.get k:=λk f=>O.2 k f
 have Q:=(M (a+2) ai).trans h.gq;have G:=p.aJ.one;have t:=dG G;have rs:((List.range V).map λk=>[dv (V+k)]).set x [b]=(List.range V).map λk=>[dk dv (V+x) b (V+k)]:=by
  rw[AL aD (λk=>dv (V+k)) b];refine List.map_congr_left λk _=> ?_
  by_cases e:k=x
  ·subst e;simp[dk]
  ·simp only[dk,if_neg e,if_neg (show¬V+k=V+x by omega)]
 have ab:bA P d 284 (.ptr (a+2) x 0) b=D (d.set (a+2) (.row Z 1 ((List.range V).map λk=>[dk dv (V+x) b (V+k)]))):=by
  rw[fN (n:=1) ag Q (e:=[dv (V+x)]) (by simp[aD]) (by rw[t];rfl) (by rw[t];simp[G]) b_,t,<-rs];rfl
 have u:∀k,k<H.next->k≠a+2->dd (dv (V+x))≠D k->(d.set (a+2) (.row Z 1 ((List.range V).map λk=>[dk dv (V+x) b (V+k)]))).get k=H.get k:=λk f s az=>by
  rw[ad.cW (Ne.symm s)];exact A k f (λL n c e=>by rintro rfl;rw[e]at az;exact az rfl)
 have l:∀k,k<a+7->k≠a+2->(d.set (a+2) (.row Z 1 ((List.range V).map λk=>[dk dv (V+x) b (V+k)]))).get k=H.get k:=λk f s=>u k ai s λe=>by have:=(h.ix (o:=V+x) ai e).1;omega
 have z:∀o L,o<=2*V->o≠V+x->dd (dv o)=D L->(d.set (a+2) (.row Z 1 ((List.range V).map λk=>[dk dv (V+x) b (V+k)]))).get L=H.get L:=λo L a7 U e=>by
  have az:=h.ix a7 e;exact u L az.2 ai λr=>U (h.fc _ _ L a7 ai e r)
 have aa:∀L,dd b=D L->dd (dv (V+x))=D L\/∀fj,fj<=2*V->dd (dv fj)≠D L:=by
  intro L e;rcases B with i|⟨Y,i⟩
  ·exact .inl (i▸e)
  ·rw[i]at e;cases e;exact .inr λfj W r=>by have:=(h.ix W r).2;omega
 refine⟨b,d,N,(M _ ai).trans h.cu,by simp;omega,λk f R az=>A k f (λL n c e=>by rintro rfl;exact az (V+x) ai (by rw[e];rfl)),ab,?_,by simp;omega,λk f R az=>⟨u k f ai (az _ ai),λo a7 e=> ?_⟩⟩
 ·exact {
   cu:=by rw[l _ ai ai,IH _ _ _ _ _ ai];exact h.cu
   bF:=by rw[l _ ai ai];exact h.bF
   ez:=by rw[l _ ai ai,w9 (λv m=>d_ _ _ ai)];exact h.ez
   gq:=ad.dA ai
   fJ:=by rw[l _ ai ai];exact h.fJ
   fz:=by rw[l _ ai ai];exact h.fz
   gg:=by rw[l _ ai ai];exact h.gg
   dc:=h.dc,aW:=h.aW,fC:=by simpa [iQ]using h.fC,ls:=h.ls,lw:=h.lw
   g:=λv m=>by
    rw[d_ _ _ ai];exact(h.g v m).frame fK λL j=>z v L ai ai j
   q:=λv m=>by
    rw[iQ,Gl ai];by_cases e:v=x
    ·subst e;rw[if_pos rfl,fI];exact p.frame me λL j=>by
      rw[ad.cW];have:=(p.hr j).1;omega
    ·rw[if_neg e,d_ _ _ ai];exact(h.q v m).frame me λL j=>z (V+v) L ai ai j
   w:=by rw[d_ _ _ ai];exact h.w.frame fK λL j=>z (2*V) L (b4 _) ai j
   wn:=by rw[d_ _ _ ai];exact h.wn
   fc:=zk h.fc ai aa
   perm:=h.perm,hL:=h.hL,hJ:=h.hJ,hp:=h.hp,hD:=h.hD,hC:=h.hC,wt:=h.wt,dY:=h.dY}
 ·by_cases E:o=V+x
  ·subst E;rw[fI]at e;rcases B with i|⟨Y,i⟩
   ·exact az _ a7 (i▸e)
   ·rw[i]at e;cases e;omega
  ·rw[d_ _ _ E]at e;exact az o a7 e
def Ic{c:bz}{x y m:Nat}(aA:cT c=[J X 5,J X x,J X y,J X 0])(aD:x<m)(M:y<m)(K:V=n+m*8)(d:V<=1000000){I:Nat}{N:Nat}:∀(j k q:Nat) (S:bI) (aY:List Int) (dv:Nat->aa) (es:List (Nat×Nat)) (H:ad),k+j=8->j<q->cq n V a S aY dv es H->
  H.get I=D (.row Z 4 [cT c])->(I<a\/a+7<=I)->(∀o,o<=2*V->dd (dv o)≠D I)->
  W (mL (aC P ax) N q (.ptr (a+6) 0 0) (.ptr I 0 0) (J X 8) (J X k) H) λr H'=>r= .tuple []/\So n V a (j4 n S x y ((List.range 8).drop k)) (λ_=>False) dv H H'
 |_,_,0,_,_,_,_,_,_,hm,_,_,_,_=>ai
 |0,k,q+1,S,aY,dv,es,H,L,_,h,aQ,b,t=>by
  have e:¬(k:Int)<8:=ai;simp-implicitDefEqProofs(disch:=try exact al)only[mL,uh,aq,aG,e,decide_false];rw[List.drop_of_length_le (by simp;omega)];exact aK.2 ⟨rfl,aY,dv,es,h,λ_ f=>f.elim,.refl _ _ _ _⟩
 |j+1,k,q+1,S,aY,dv,es,H,L,hm,h,aQ,b,t=>by
  have e:(k:Int)<8:=ai;have af:=h.lt;have O:=ad.b6 aQ;have on:=Ic aA aD M K d (I:=I) (N:=N) j (k+1) q;have i:c5 n x k<V:=by unfold c5;omega
  have p:c5 n y k<V:=by unfold c5;omega
  have z:(List.range 8).drop k=k::(List.range 8).drop (k+1):=by
   rw[List.drop_eq_getElem_cons (by simp;omega)];simp
  rw[z,j4];have l:=gk aQ aA;simp-implicitDefEqProofs(disch:=try exact al)only[mL,uh,aq,aO,aG,aM,e,decide_true,l];refine fu (n3 h.cu ai) ?_;simp-implicitDefEqProofs(disch:=try exact al)only[aq,aO,aM,l];refine fu (n3 h.cu ai) ?_;refine bk (sC h d i p) ?_;rintro _ H1 ⟨rfl,ag,Y,ab,ae,_,f1⟩;refine⟨f1.1,?_⟩;obtain⟨E,Q⟩:=f1.2 I O b t;have s:=E.trans aQ;have g:=gk s aA;simp-implicitDefEqProofs(disch:=try exact al)only[aq,aO,aM,l,g];refine fu (n3 ae.cu ai) ?_;simp-implicitDefEqProofs(disch:=try exact al)only[aq,aO,aM,g];refine fu (n3 ae.cu ai) ?_;refine bk (sC ae d p i) ?_;rintro _ u ⟨rfl,R,v,A,ah,_,f2⟩
  refine⟨f2.1,?_⟩;obtain⟨G,z6⟩:=f2.2 I (by have:=f1.1;omega) b Q;simp-implicitDefEqProofs(disch:=try exact al)only[aq,aO,aG,g,c3 (show k<=1000000000 by omega)];refine(on _ R v A u ai ai ah (G.trans s) b z6).mono ?_;rintro r U ⟨rfl,T,w,B,ak,_,f3⟩;exact⟨rfl,T,w,B,ak,λ_ f=>f.elim,(f1.trans f2).trans f3⟩
def K5{m:Nat}(h:cq n V a S aY dv es H)(U:V=n+m*8)(w:V<=1000000)(hm:m<=60){c:bz}(hw:c.wf n m)(O:∀v,(S.q v).length<=900000000):W (aC P ax 180 [.ptr (a+6) 0 0,.agg (cT c)] H) λr H'=>r= .tuple []/\So n V a (pG n S c) (λ_=>False) dv H H':=by
 refine bZ (λ_=>T6 9) ?_;have Q:=ay.push H (.row Z 4 [cT c]);have g:=ad.bq H (.row Z 4 [cT c]);have b:=h.aI Q;have af:=h.lt;have A:∀o,o<=2*V->dd (dv o)≠D H.next:=λo a7 e=>by have:=(h.ix a7 e).2;omega
 have k:∀{N:bI} {keep:Nat->Prop} {H':ad},So n V a N keep dv (H.push (.row Z 4 [cT c])) H'->So n V a N (λ_=>False) dv H H':=λ⟨wk',T,es',Y,ag,ab⟩=>⟨wk',T,es',Y,λ_ f=>f.elim,(Fr.aI Q).trans ab⟩
 cases c with
 |base x y=>
  have l:=gk g rfl;simp-implicitDefEqProofs(disch:=try exact al)only[kA,aq,aO,aG,aM,jD,l,Int.reduceBEq,ZL _ _ (show y<64 by have:=hw.2;omega)];refine bk (zK b w (v:=x) (x:=1<<<y) (by have:=hw.1;omega) ?_ (h.dY x)) ?_
  ·rw[Nat.shiftLeft_eq,Nat.one_mul];exact Nat.pow_lt_pow_right ai (by have:=hw.2;omega)
  rintro _ H1 ⟨rfl,q⟩;exact⟨q.choose_spec.choose_spec.choose_spec.2.2.1,aK.2 ⟨rfl,k q⟩⟩
 |copy x y=>
  have l:=gk g rfl;simp-implicitDefEqProofs(disch:=try exact al)only[kA,aq,aO,aG,aM,jD,l,Int.reduceBEq];refine bk (sC b w (x:=y) (y:=x) (by have:=hw.2;omega) (by have:=hw.1;omega)) ?_;rintro _ H1 ⟨rfl,q⟩;exact⟨q.choose_spec.choose_spec.choose_spec.2.2.1,aK.2 ⟨rfl,k q⟩⟩
 |load x y f=>
  have l:=gk g rfl;have d:y<V:=by have:=hw.1;have:=hw.2.1;omega
  obtain⟨ae,R,j,u,s,t,st,ak,f3⟩:=b.Cw d ⟨C,x,f⟩ (by have:=O y;omega);have p:c7 P 286 [(0,J X 3),(1,J X (x:Nat)),(2,J X (f:Nat))]=D (.agg (gu ⟨C,x,f⟩)):=y8 rfl rfl rfl;have aJ:=nI sU (H.push (.row Z 4 [cT (.load x y f)])).next (v:= .agg (gu ⟨C,x,f⟩)) (cs:=gu ⟨C,x,f⟩) rfl rfl rfl
  have pp:=ay.push (H.push (.row Z 4 [cT (.load x y f)])) (.row Z 3 [gu ⟨C,x,f⟩]);have B:=gk (pp.get g) rfl;have E:=gk ((t H.next (by simp) ai A).trans g) rfl;have z:=(pp.get b.cu);have G:aj P (H.push (.row Z 4 [cT (.load x y f)])) 284 (.ptr (a+2) y 0)=D (dv (V+y)):=b.sP d;have K:=(b.aI pp).sP d;have M:=eA (b.q y d).aJ;have L:∀l i n e c,aV (D (.aJ l i n e c)) (.aJ l i n e c)=true:=λl i n e c=>by simp[aV,aa.beq]
  simp only[jc]at aJ j s;simp-implicitDefEqProofs(disch:=try exact al)only[kA,aq,aO,aG,aM,ad.ds,jD,l,Int.reduceBEq,eT b.cu,fA Ai d,G,p,aJ,j,eT u,E,B,eT z,K,st,M,L];exact aK.2 ⟨rfl,k (keep:=λ_=>False) ⟨aY,_,es,ak,λ_ f=>f.elim,f3⟩⟩
 |store x y f=>
  have l:=gk g rfl;have d:x<V:=by have:=hw.1;have:=hw.2.1;omega
  obtain⟨ae,R,j,u,s,t,st,ak,f3⟩:=b.Cw d ⟨Z,y,f⟩ (by have:=O x;omega);have p:c7 P 286 [(0,J X 4),(1,J X (y:Nat)),(2,J X (f:Nat))]=D (.agg (gu ⟨Z,y,f⟩)):=y8 rfl rfl rfl;have aJ:=nI sU (H.push (.row Z 4 [cT (.store x y f)])).next (v:= .agg (gu ⟨Z,y,f⟩)) (cs:=gu ⟨Z,y,f⟩) rfl rfl rfl
  have pp:=ay.push (H.push (.row Z 4 [cT (.store x y f)])) (.row Z 3 [gu ⟨Z,y,f⟩]);have B:=gk (pp.get g) rfl;have E:=gk ((t H.next (by simp) ai A).trans g) rfl;have z:=(pp.get b.cu);have G:aj P (H.push (.row Z 4 [cT (.store x y f)])) 284 (.ptr (a+2) x 0)=D (dv (V+x)):=b.sP d;have K:=(b.aI pp).sP d;have M:=eA (b.q x d).aJ;have L:∀l i n e c,aV (D (.aJ l i n e c)) (.aJ l i n e c)=true:=λl i n e c=>by simp[aV,aa.beq]
  simp only[jc]at aJ j s;simp-implicitDefEqProofs(disch:=try exact al)only[kA,aq,aO,aG,aM,ad.ds,jD,l,Int.reduceBEq,eT b.cu,fA Ai d,G,p,aJ,j,eT u,E,B,eT z,K,st,M,L];exact aK.2 ⟨rfl,k (keep:=λ_=>False) ⟨aY,_,es,ak,λ_ f=>f.elim,f3⟩⟩
 |same x y=>
  have l:=gk g rfl;simp-implicitDefEqProofs(disch:=try exact al)only[kA,aq,aO,aG,aM,jD,l,Int.reduceBEq,eT b.cu];refine(Ic (c:= .same x y) rfl hw.1 hw.2 U w (I:=H.next) 8 0 9 S aY dv es _ ai ai b g ai A).mono ?_;rintro r H' ⟨rfl,q⟩;exact⟨rfl,k q⟩
end
end
section
open Go.bp
def E8(S:bI)(v u:Nat):(gR S v).q u=S.q u:=by unfold gR;split<;>rfl
def P0(S:bI)(v u:Nat):(gR S v).g u=S.g u:=by unfold gR;split<;>rfl
def EC(S:bI)(v x u:Nat):(eS S v x).q u=S.q u:=by
 unfold eS;split
 ·rfl
 ·rw[E8];rfl
def O4(S:bI)(v x u:Nat):(eS S v x).g u=S.g u:=by
 unfold eS;split
 ·rfl
 ·rw[P0];rfl
def pR(S:bI)(x y u:Nat):(gp S x y).q u=S.q u:=by
 unfold gp;split
 ·rfl
 ·rw[EC];rfl
def Ky(n t:Nat)(S:bI)(q:bp.Ask)(u:Nat):(k0 n t S q).q u=S.q u:=by
 unfold k0;split<;>exact pR _ _ _ _
def y1(n t:Nat):∀(qs:List bp.Ask) (S:bI) (u:Nat),(iP n t qs S).q u=S.q u
 |[],_,_=>rfl
 |q::qs,S,u=>by rw[iP,y1 n t qs,Ky]
section
variable {n V a:Nat}{S:bI}{aY:List Int}{dv:Nat->aa}{es:List (Nat×Nat)}{H:ad}
def Ps{q:bp.Ask}{L:Nat}(h:H.get L=D (.row Z 3 [gu q])):aj P H 3 (.ptr L 0 0)=D (J X (if q.eO then 3 else 4))/\aj P H 3 (.ptr L 0 1)=D (J X (q.o:Nat))/\aj P H 3 (.ptr L 0 2)=D (J X (q.f:Nat)):=by
 rw[gu]at h;simp-implicitDefEqProofs(disch:=try exact al)only[bM,h]
def ZZ{q:bp.Ask}{L:Nat}{r:List aa}(h:H.get L=D (.row Z 3 [r]))(a:r.length=3:=by rfl):bA P H 286 (.ptr L 0 0) (.agg (gu q))=D (H.set L (.row Z 3 [gu q])):=by
 rw[fN (n:=3) ag h rfl rfl (by simp[gu,aa.cells,aa.one]) b_];simp[gu,aa.cells,eI,List.drop_of_length_le (Nat.le_of_eq a)]
def Cf{qs:List bp.Ask}{v t m:Nat}(E:v<V)(U:t<m)(Q:V=n+m*8)(s:V<=1000000)(B:∀q∈qs,q.o<V/\q.f<8)(T:qs.length<=1000000000){N:Nat}:∀(j k r:Nat) (S:bI) (aY:List Int) (dv:Nat->aa) (es:List (Nat×Nat)) (H:ad),k+j=qs.length->j<r->cq n V a S aY dv es H->S.q v=qs->
  W (lu (aC P ax) N r (.ptr (a+6) 0 0) (J X t) (dv (V+v)) (J X qs.length) (J X k) H) λr H'=>r= .tuple []/\So n V a (iP n t (qs.drop k) S) (λo=>V<=o/\o<2*V) dv H H'
 |_,_,0,_,_,_,_,_,_,hm,_,_=>ai
 |0,k,r+1,S,aY,dv,es,H,R,_,h,a8=>by
  have d:¬(k:Int)<(qs.length:Int):=ai;simp-implicitDefEqProofs(disch:=try exact al)only[lu,q2,aq,aG,d,decide_false];rw[List.drop_of_length_le ai];exact aK.2 ⟨rfl,aY,dv,es,h,λ_ _=>rfl,.refl _ _ _ _⟩
 |j+1,k,r+1,S,aY,dv,es,H,R,hm,h,a8=>by
  have d:(k:Int)<(qs.length:Int):=ai;have w:k<qs.length:=ai;have on:=Cf E U Q s B T (N:=N) j (k+1) r;have az:=h.q v E;rw[a8]at az;obtain⟨p,cs,G,L,rfl⟩:=az.aJ.vy (K:=vs) sU II (j:=(k:Int)) (a:=qs[k]) ai (by simp[w]);obtain⟨a7,aN⟩:=B _ (List.getElem_mem w);have x:=ay.push H (.row Z 3 [gu qs[k]]);have ae:=h.aI x;have st:=ZZ (q:=qs[k]) (ad.bq H (.row Z 3 [[J X 0,J X 0,J X 0]]));have l:=Ps (ad.bq H (.row Z 3 [gu qs[k]]));have ff:c5 n t qs[k].f<V:=by unfold c5;omega
  have M:=c3 (show k<=1000000000 by omega);rw[List.drop_eq_getElem_cons w,iP,k0];cases A:qs[k].eO with
  |true=>
   rw[A]at l;simp-implicitDefEqProofs(disch:=try exact al)only[lu,q2,Nat.reduceAdd,aq,aO,aG,aM,d,decide_true,G,L _ (ay.refl _),st,ad.fE,l,Int.reduceBEq];refine fu (n3 ae.cu ai) ?_;simp-implicitDefEqProofs(disch:=try exact al)only[aq,aO,aM,l];refine bk (sC ae s ff a7) ?_;rintro _ H1 ⟨rfl,wk',e,es',ah,b,f2⟩;refine⟨f2.1,?_⟩;simp-implicitDefEqProofs(disch:=try exact al)only[o1,aq,aO,aG,l,M];have c:=on _ wk' e es' H1 ai ai ah (by rw[pR];exact a8);rw[b (V+v) ⟨ai,ai⟩]at c;refine c.mono ?_;rintro r O ⟨rfl,z,g,i,ak,u,f3⟩;exact⟨rfl,z,g,i,ak,λo a7=>(u o a7).trans (b o a7),((Fr.aI x).trans f2).trans f3⟩
  |false=>
   rw[A]at l;simp only[Bool.false_eq_true,if_false]at l;simp-implicitDefEqProofs(disch:=try exact al)only[lu,q2,Nat.reduceAdd,aq,aO,aG,aM,d,decide_true,G,L _ (ay.refl _),st,ad.fE,l,Int.reduceBEq];refine fu (n3 ae.cu ai) ?_;simp-implicitDefEqProofs(disch:=try exact al)only[aq,aO,aM,l];refine bk (sC ae s a7 ff) ?_;rintro _ H1 ⟨rfl,wk',e,es',ah,b,f2⟩;refine⟨f2.1,?_⟩;simp-implicitDefEqProofs(disch:=try exact al)only[o1,aq,aO,aG,l,M];have c:=on _ wk' e es' H1 ai ai ah (by rw[pR];exact a8);rw[b (V+v) ⟨ai,ai⟩]at c;refine c.mono ?_;rintro r O ⟨rfl,z,g,i,ak,u,f3⟩;exact⟨rfl,z,g,i,ak,λo a7=>(u o a7).trans (b o a7),((Fr.aI x).trans f2).trans f3⟩
def Kz{v t m:Nat}(h:cq n V a S aY dv es H)(b:v<V)(i:t<m)(c:V=n+m*8)(d:V<=1000000)(g:∀q∈S.q v,q.o<V/\q.f<8)(e:(S.q v).length<=1000000000):W (aC P ax 225 [.ptr (a+6) 0 0,J X v,J X t] H) λr H'=>r= .tuple []/\So n V a (iP n t (S.q v) S) (λo=>V<=o/\o<2*V) dv H H':=by
 refine bZ (λ_=>Uo ((S.q v).length+1)) ?_;simp-implicitDefEqProofs(disch:=try exact al)only[q1,bf,aq,aO,aM,eT h.cu,fA Ai b,h.sP b,(h.q v b).aJ.len sU];exact Cf b i c d g e (S.q v).length 0 ((S.q v).length+1) S aY dv es H ai ai h rfl
structure Own(V a:Nat)(dv:Nat->aa)(H:ad)(l:List Int)(x:aa):Prop where
 b:∃B,bG bu B bH H l x
 o:∀L,dd x=some L->L<H.next/\(L<a\/a+7<=L)/\∀o,o<=2*V->dd (dv o)≠some L
def Own.vY{b:Nat->aa}{H':ad}{l:List Int}{x:aa}(h:Own V a dv H l x)(f:Fr V a dv b H H'):Own V a b H' l x:=by
 obtain⟨⟨B,c⟩,a7⟩:=h;refine⟨⟨B,c.frame fK λL e=> ?_⟩,λL e=> ?_⟩
 ·obtain⟨ae,ah,ak⟩:=a7 L e;exact(f.2 L ae ah ak).1
 ·obtain⟨ae,ah,ak⟩:=a7 L e;exact⟨Nat.lt_of_lt_of_le ae f.1,ah,(f.2 L ae ah ak).2⟩
def Cv{ts:List Nat}{v m:Nat}{x:aa}(A:v<V)(l:V=n+m*8)(s:V<=1000000)(z:∀t∈ts,t<m)(az:ts.length<=1000000000){L0:aa->ad->O}{Q:aa->ad->Prop}{N:Nat}:∀(j k r:Nat) (S:bI) (aY:List Int) (dv:Nat->aa) (es:List (Nat×Nat)) (H:ad),k+j=ts.length->j<r->cq n V a S aY dv es H->Own V a dv H (bC ts) x->(∀q∈S.q v,q.o<V/\q.f<8)->(S.q v).length<=1000000000->
  (∀c wk' d es' H',cq n V a c wk' d es' H'->Fr V a dv d H H'->c=nH n v (ts.drop k) S->W (oP (aC P ax) N L0 (.ptr (a+6) 0 0) (J X v) H') Q)->
  W (mN (aC P ax) N L0 r (.ptr (a+6) 0 0) (J X v) x (J X ts.length) (J X k) H) Q
 |_,_,0,_,_,_,_,_,_,hm,_,_,_,_,_=>ai
 |0,k,r+1,S,aY,dv,es,H,M,_,h,aD,_,_,fin=>by
  have g:¬(k:Int)<(ts.length:Int):=ai;simp-implicitDefEqProofs(disch:=try exact al)only[mN,uj,aq,aG,g,decide_false];exact fin S aY dv es H h (.refl _ _ _ _) (by rw[List.drop_of_length_le ai];rfl)
 |j+1,k,r+1,S,aY,dv,es,H,M,hm,h,aD,w,u,fin=>by
  have g:(k:Int)<(ts.length:Int):=ai;have i:k<ts.length:=ai;have on:=Cv (x:=x) A l s z az (L0:=L0) (Q:=Q) (N:=N) j (k+1) r;obtain⟨B,L⟩:=aD.b;obtain⟨p,R,T⟩:=L.aJ.int (j:=(k:Int)) (a:=(ts[k]:Int)) ai (by simp[bC,i]);rw[List.drop_eq_getElem_cons i]at fin;simp-implicitDefEqProofs(disch:=try exact al)only[mN,uj,aq,aG,g,decide_true,R,T];refine bk (Kz h A (z _ (List.getElem_mem i)) l s w u) ?_;rintro _ H1 ⟨rfl,wk',d,es',ae,_,f1⟩;refine⟨f1.1,?_⟩;simp-implicitDefEqProofs(disch:=try exact al)only[aq,aG,c3 (show k<=1000000000 by omega)];refine on _ wk' d es' H1 ai ai ae (aD.vY f1) (by rw[y1];exact w) (by rw[y1];exact u) λc U G K E ah f2 e=>fin c U G K E ah (f1.trans f2) e
def D0{bs:List Nat}{v:Nat}(f:v<V)(m:V<=1000000)(o:∀b∈bs,b<V)(az:bs.length<=1000000000){L0:aa->ad->O}{Q:aa->ad->Prop}{N:Nat}:∀(j k r:Nat) (S:bI) (aY:List Int) (dv:Nat->aa) (es:List (Nat×Nat)) (H:ad),k+j=bs.length->j<r->cq n V a S aY dv es H->S.g v=bs->
  (∀c wk' d es' H',cq n V a c wk' d es' H'->Fr V a dv d H H'->c=jG v (bs.drop k) S->W (L0 (.ptr (a+6) 0 0) H') Q)->
  W (mM (aC P ax) N L0 r (.ptr (a+6) 0 0) (J X v) (dv v) (J X bs.length) (J X k) H) Q
 |_,_,0,_,_,_,_,_,_,hm,_,_,_=>ai
 |0,k,r+1,S,aY,dv,es,H,x,_,h,a8,fin=>by
  have i:¬(k:Int)<(bs.length:Int):=ai;simp-implicitDefEqProofs(disch:=try exact al)only[mM,ui,aq,aG,i,decide_false];exact fin S aY dv es H h (.refl _ _ _ _) (by rw[List.drop_of_length_le ai];rfl)
 |j+1,k,r+1,S,aY,dv,es,H,x,hm,h,a8,fin=>by
  have i:(k:Int)<(bs.length:Int):=ai;have l:k<bs.length:=ai;have on:=D0 f m o az (L0:=L0) (Q:=Q) (N:=N) j (k+1) r;have q:=h.g v f;rw[a8]at q;obtain⟨p,A,B⟩:=q.aJ.int (j:=(k:Int)) (a:=(bs[k]:Int)) ai (by simp[bC,l]);rw[List.drop_eq_getElem_cons l]at fin;simp-implicitDefEqProofs(disch:=try exact al)only[mM,ui,aq,aO,aG,aM,i,decide_true,A,B,eT h.cu,fA oj f,h.od f];refine bk (zK h m (o _ (List.getElem_mem l)) (h.dY v) (h.dY _)) ?_;rintro _ H1 ⟨rfl,wk',d,es',ae,z,f1⟩;refine⟨f1.1,?_⟩;simp-implicitDefEqProofs(disch:=try exact al)only[aq,aG,c3 (show k<=1000000000 by omega)];have s:=on _ wk' d es' H1 ai ai ae (by rw[O4];exact a8) λc E u w t ah f2 e=>fin c E u w t ah (f1.trans f2) e
  rw[z v ai]at s;exact s
end
end
section
open Go.bp
def KN{n m V:Nat}{l:List bz}{zX:Nat->Prop}{Y:Nat->Nat->Prop}{S:bI}(i:dD n m l zX Y S)(a:e0 n m l)(b:V=n+m*8)(v:Nat):∀q∈S.q v,q.o<V/\q.f<8:=by
 intro q a8;rcases i.qs v q a8 with⟨_,h⟩|⟨_,h⟩
 ·have:=a _ h;exact⟨by have:=this.1;omega,this.2.2⟩
 ·have:=a _ h;exact⟨by have:=this.2.1;omega,this.2.2⟩
section
variable {n V a m:Nat}{l:List bz}{S:bI}{aY:List Int}{dv:Nat->aa}{es:List (Nat×Nat)}{H:ad}
def Ed(G:e0 n m l)(R:V=n+m*8)(av:0<V)(T:V<=1000000)(hm:m<=60){N:Nat}(a5:V+65<N):∀(r:Nat) (S:bI) (aY:List Int) (dv:Nat->aa) (es:List (Nat×Nat)) (H:ad),S.M<r->cq n V a S aY dv es H->iM n m l S->(∀v,(S.q v).length<=1000000000)->
  W (oQ (aC P ax) N r (.ptr (a+6) 0 0) H) λr H'=>r= .tuple []/\∃E wk' am es',cq n V a E wk' am es' H'/\iM n m l E/\ps S E/\E.work=[]/\Fr V a dv am H H'
 |0,_,_,_,_,_,bb,_,_,_=>ai
 |r+1,S,aY,dv,es,H,bb,h,i,aw=>by
  have hlen:W (aC P ax 223 [dv (2*V)] H) λr H'=>r= J X (aY.length:Nat)/\H'=H:=by
   refine bZ (λ_=>AU 0) ?_;simp-implicitDefEqProofs(disch:=try exact al)only[mZ,bf,h.w.aJ.len jV];exact aK.2 ⟨rfl,rfl⟩
  have on:=Ed G R av T hm a5 r;simp-implicitDefEqProofs(disch:=try exact al)only[oQ,xH,aq,aO,aM,eT h.cu];refine fu hlen ?_;by_cases K:aY=[]
  ·have hw:S.work=[]:=by
    have:=h.perm.length_eq;rw[K]at this;simp[bC]at this;exact List.length_eq_zero_iff.1 this.symm
   subst K;have ao:¬(0:Int)<((([]:List Int).length:Nat):Int):=by simp
   simp-implicitDefEqProofs(disch:=try exact al)only[aq,aO,aG];exact aK.2 ⟨rfl,S,[],dv,es,h,i,⟨λ_ _ h=>h,λ_ _ h=>h,λ_=>rfl⟩,hw,.refl _ _ _ _⟩
  ·have ao:(0:Int)<((aY.length:Nat):Int):=by have:=List.length_pos_iff.2 K;omega
   have i1:∀l i c,ih P 288 (.ptr l i c)=D (.iface 288 (.ptr l i c)):=λl i c=>ag
   simp-implicitDefEqProofs(disch:=try exact al)only[aq,aO,aG,aM,ao,decide_true,i1];have bD:=h.Jt;have bx:=h.lt;refine bk (NX h.w h.wn (show a+6<a+7 by omega) h.cu rfl rfl ai K) ?_;rintro _ f ⟨bm,wk',B,rfl,pm,q⟩;refine⟨q.next,?_⟩;have aE:bm∈bC S.work:=h.perm.mem_iff.1 (pm.mem_iff.1 (by simp));simp only[bC,List.mem_map]at aE;obtain⟨v,Y,rfl⟩:=aE;have d:v<V:=h.hC v Y;have ba:wk'.Perm (bC (S.work.erase v)):=by
    have aS:=pm.trans h.perm;have aT:(bC S.work).Perm ((v:Int)::bC (S.work.erase v)):=(List.perm_cons_erase Y).map _;exact(List.perm_cons _).1 (aS.trans aT)
   have aN:nR P 3 Z (.iface 3 (J X (v:Nat)))=D (J X (v:Nat)):=ag;have ah:=h.a8 av q ba (h.hD.erase v) (λu hu=>h.hC u (List.mem_of_mem_erase hu)) (λu hu e hm=>h.wt u hu e (List.mem_of_mem_erase hm));have f2:=h.D5 q;have bj:=IC (b':=false) ah.gg (ah.BI d);have bB:=h.lw;have ak:=ah.Il (v:=v) Z (λu hu e=>by
    by_cases aA:u=v
    ·subst aA;exact h.hD.not_mem_erase
    ·rw[BG (by show v<S.waits.length;omega),if_neg aA]at e;exact ah.wt u hu e)
   have f3:=f2.trans (Fr.set (dv:=dk dv (2*V) B) f (c:=5) ai (.row Z 1 (fP (S.waits.set v Z))));have bu:({S with work:=S.work.erase v,waits:=S.waits.set v Z}:bI)=h7 S v:=rfl;have A:cq n V a (h7 S v) wk' (dk dv (2*V) B) es (f.set (a+5) (.row Z 1 (fP (S.waits.set v Z)))):=ak;have bi:S.s v|||nL (S.a v) (S.s v)=S.s v|||S.a v:=SO (h.dY v) (by
    have a9:=h.ls;have:S.s v=S.a v&&&S.s v:=by
     apply Nat.eq_of_testBit_eq;intro j;rw[Nat.testBit_and];cases U:(S.s v).testBit j with
     |false=>simp
     |true=>rw[i.sle v j U];rfl
    rw[this];exact Nat.lt_of_le_of_lt Nat.and_le_left (h.dY v))
   have bc:S.s v<2^64:=by
    have:S.s v=S.a v&&&S.s v:=by
     apply Nat.eq_of_testBit_eq;intro j;rw[Nat.testBit_and];cases U:(S.s v).testBit j with
     |false=>simp
     |true=>rw[i.sle v j U];rfl
    rw[this];exact Nat.lt_of_le_of_lt Nat.and_le_left (h.dY v)
   have a9:=h.ls;have gs:(h7 S v).seen[v]? =D (S.s v):=by
    show S.seen[v]? =_;unfold bI.s;rw[List.getD_eq_getElem?_getD,List.getElem?_eq_getElem ai];rfl
   have bl:bA P (f.set (a+5) (.row Z 1 (fP (S.waits.set v Z)))) 251 (.ptr (a+3) v 0) (J .u64 ((S.s v|||S.a v:Nat):Int))=D ((f.set (a+5) (.row Z 1 (fP (S.waits.set v Z)))).set (a+3) (.row Z 1 (fx (S.seen.set v (S.s v|||S.a v))))):=by
    rw[fN (n:=1) ag A.fJ (vD gs) rfl rfl ai,<-Cn];rfl
   have au:cq n V a (j5 (h7 S v) v) wk' (dk dv (2*V) B) es ((f.set (a+5) (.row Z 1 (fP (S.waits.set v Z)))).set (a+3) (.row Z 1 (fx (S.seen.set v (S.s v|||S.a v))))):=A.ZG v (S.s v|||S.a v);have f4:=f3.trans (Fr.set (dv:=dk dv (2*V) B) _ (c:=3) ai (.row Z 1 (fx (S.seen.set v (S.s v|||S.a v)))));have be:aj P (f.set (a+5) (.row Z 1 (fP (S.waits.set v Z)))) 251 (.ptr a v 0)=D (J .u64 (S.a v:Nat)):=A.od d;have bg:aj P (f.set (a+5) (.row Z 1 (fP (S.waits.set v Z)))) 251 (.ptr (a+3) v 0)=D (J .u64 (S.s v:Nat)):=A.Pq d;simp-implicitDefEqProofs(disch:=try exact al)only[aq,aO,aM,aN,eT ah.cu,eT A.cu,fA Ah d,fA oj d,bj,be,bg,Kr,AA _ _ bc (yt _ _),bi,bl]
   have bz:=au.lt;refine bk (Ad (yt (S.a v) (S.s v))) ?_;rintro x ae ⟨O,ab⟩;refine⟨ab.1,?_⟩;have a1:=au.aI ab;have f5:=f4.trans (Fr.aI ab);have aU:Go.bp.bits (nL (S.a v) (S.s v))=ir S v:=La _ _;rw[aU]at O;have aD:Own V a (dk dv (2*V) B) ae (bC (ir S v)) x:=by
    refine⟨⟨_,O⟩,λL e=> ?_⟩;have:=O.hr e;refine⟨this.2,.inr ai,λo a7 aR=> ?_⟩;have:=(au.ix a7 aR).2;omega
   have bd:∀t∈ir S v,t<m:=by
    intro t az;simp only[ir,List.mem_filter,Bool.and_eq_true]at az;exact(i.sound v t az.2.1).site G
   have bv:(ir S v).length<=64:=Nat.le_trans (List.length_filter_le _ _) (by simp);have a_:a2 P .empty .len [30] [x]=D (J X ((ir S v).length:Nat)):=by
    have:=O.aJ.len cU (H0:= .empty);simpa [bC]using this
   simp-implicitDefEqProofs(disch:=try exact al)only[bf,a_];have ay:(j5 (h7 S v) v).q v=S.q v:=rfl;refine Cv (n:=n) (a:=a) (m:=m) d R T bd ai (ir S v).length 0 N _ wk' _ es ae ai ai a1 aD (by rw[ay];exact KN i G R v) (by rw[ay];exact aw v) ?_;intro p bo an aX aF k f6 ap;rw[List.drop_zero]at ap;have aV:p=l5 n S v:=ap;have bw:=k.D_ v;have a6:a2 P .empty .len [30] [an v]=D (J X ((p.g v).length:Nat)):=by
    have:=(k.g v d).aJ.len cU (H0:= .empty);simpa [bC]using this
   simp-implicitDefEqProofs(disch:=try exact al)only[oP,bf,aq,aO,aM,eT k.cu,fA f_ d,k.Pr d,a6];refine D0 (bs:=p.g v) d T (k.hp v) ai (p.g v).length 0 N p bo an aX aF ai ai k rfl ?_;intro af bq aP aZ aH a3 f7 ar;rw[List.drop_zero,aV]at ar;have aW:af=yr n S v:=ar;obtain⟨i7,z,bh⟩:=i.step G Y;rw[<-aW]at i7 z bh;refine(on af bq aP aZ aH ai a3 i7 (λu=>by rw[z.q];exact aw u)).mono ?_;rintro bE bt ⟨rfl,aL,br,aQ,a0,a4,i8,Q,bn,f8⟩;exact⟨rfl,aL,br,aQ,a0,a4,i8,⟨λu s e=>Q.a u s (z.a u s e),λu b e=>Q.g u b (z.g u b e),λu=>(Q.q u).trans (z.q u)⟩,bn,((f5.trans f6).trans f7).trans f8⟩
def NR(h:cq n V a S aY dv es H)(j:e0 n m l)(d:V=n+m*8)(e:0<V)(f:V<=1000000)(hm:m<=60)(i:iM n m l S)(g:∀v,(S.q v).length<=1000000000):W (aC P ax 182 [.ptr (a+6) 0 0] H) λr H'=>r= .tuple []/\∃b wk' c es',cq n V a b wk' c es' H'/\iM n m l b/\ps S b/\b.work=[]/\Fr V a dv c H H':=by
 refine bZ (λ_=>T8 (S.M+V+66)) ?_;simp-implicitDefEqProofs(disch:=try exact al)only[qJ];exact Ed j d e f hm ai _ S aY dv es H ai h i g
end
end
section
open Go.bp
def CR(l:Nat)(k:IntKind)(n:Int):b0 l (.int k n)=D (.ptr l 0 0,.row Z 1 [[.int k n]]):=rfl
def Qi(l n:Nat)(aS:n<=1000000000):e5 (fw P ⟨.leaf,l⟩ 243 (J X n) (J X n)) l=D (.aJ l 0 n 1 (D n),.row Z 1 (fx (List.replicate n 0))):=by
 rw[p9 (e:=251) (b:=8) (z:= J .u64 0) ag ag ag ag rfl rfl b_ b_ l n aS];simp[fx,aa.cells]
def Ap(l n:Nat)(aS:n<=1000000000):e5 (fw P ⟨.leaf,l⟩ 31 (J X n) (J X n)) l=D (.aJ l 0 n 1 (D n),.row Z 1 ((List.range n).map λ_=>[.aB])):=by
 rw[p9 (e:=30) (b:=24) (z:= .aB) ag ag ag ag rfl rfl b_ b_ l n aS];simp[aa.cells,List.map_const']
def Ql(l n:Nat)(aS:n<=1000000000):e5 (fw P ⟨.leaf,l⟩ 244 (J X n) (J X n)) l=D (.aJ l 0 n 1 (D n),.row Z 1 ((List.range n).map λ_=>[.aB])):=by
 rw[p9 (e:=284) (b:=24) (z:= .aB) ag ag ag ag rfl rfl b_ b_ l n aS];simp[aa.cells,List.map_const']
def Qk(l n:Nat)(aS:n<=1000000000):e5 (fw P ⟨.leaf,l⟩ 152 (J X n) (J X n)) l=D (.aJ l 0 n 1 (D n),.row Z 1 ((List.range n).map λ_=>[.aB])):=by
 rw[p9 (e:=31) (b:=24) (z:= .aB) ag ag ag ag rfl rfl b_ b_ l n aS];simp[aa.cells,List.map_const']
def Ib(n x y:Nat):∀(fs:List Nat) (S:bI) (u:Nat),(j4 n S x y fs).q u=S.q u
 |[],_,_=>rfl
 |f::fs,S,u=>by rw[j4,Ib n x y fs,pR,pR]
def Cx(S:bI)(v:Nat)(q:bp.Ask)(u:Nat):((iQ S v q).q u).length<=(S.q u).length+1:=by
 unfold iQ;by_cases a:v<S.asks.length
 ·rw[Gl a];split
  ·rename_i h;subst h;simp
  ·omega
 ·show(({S with asks:=S.asks.set v (S.q v++[q])}:bI).q u).length<=_;rw[List.set_eq_of_length_le ai];show(S.q u).length<=_;omega
def K4(n:Nat)(S:bI)(c:bz)(u:Nat):((pG n S c).q u).length<=(S.q u).length+1:=by
 cases c with
 |base x y=>show((eS S x (1<<<y)).q u).length<=_;rw[EC];omega
 |copy x y=>show((gp S y x).q u).length<=_;rw[pR];omega
 |load x y f=>exact Cx _ _ _ _
 |store x y f=>exact Cx _ _ _ _
 |same x y=>show((j4 n S x y (List.range 8)).q u).length<=_;rw[Ib];omega
def oi:List Nat->bI->bI
 |[],S=>S
 |v::a,S=>oi a (gR S v)
def E_:∀(a:List Nat) (S:bI) (u:Nat),(oi a S).q u=S.q u
 |[],_,_=>rfl
 |v::a,S,u=>by rw[oi,E_ a,E8]
section
variable {n V a m:Nat}{l:List bz}{S:bI}{aY:List Int}{dv:Nat->aa}{es:List (Nat×Nat)}{H:ad}
def dD.looks{n m:Nat}{l:List bz}:∀(a:List Nat) (S:bI),iM n m l S->(∀v∈a,v<n+m*8)->(∀c∈l,lL n S c)->iM n m l (oi a S)/\∀c∈l,lL n (oi a S) c
 |[],S,h,_,d=>⟨h,d⟩
 |v::a,S,h,e,d=>by
  have ae:iM n m l (gR S v):=dD.gR h (e v (by simp));exact dD.looks a _ ae (λu hu=>e u (by simp[hu])) λc aA=>(d c aA).sL (P1 S v).b
def cq.start{n V a:Nat}{H:ad}(cu:H.get (a+6)=D (.row Z 9 [gA n V a λ_=> .aB]))(bF:H.get a=D (.row Z 1 (fx (List.replicate V 0))))(ez:H.get (a+1)=D (.row Z 1 ((List.range V).map λ_=>[.aB])))(gq:H.get (a+2)=D (.row Z 1 ((List.range V).map λ_=>[.aB])))
  (fJ:H.get (a+3)=D (.row Z 1 (fx (List.replicate V 0)))) (fz:H.get (a+4)=D (.map [])) (gg:H.get (a+5)=D (.row Z 1 (fP (List.replicate V Z)))):cq n V a (eX V) [] (λ_=> .aB) [] H:=
 {
  cu:=cu,bF:=bF,ez:=ez,gq:=gq,fJ:=fJ,fz:=fz,gg:=gg,dc:=by simp[eX],aW:=by simp[eX],fC:=by simp[eX],ls:=by simp[eX],lw:=by simp[eX]
  g:=λv d=>by
   have:(eX V).g v=[]:=iW;rw[this];exact bG.nil _ _ _ _
  q:=λv d=>by
   have:(eX V).q v=[]:=iW;rw[this];exact bG.nil _ _ _ _
  w:=bG.nil _ _ _ _
  wn:=λL n c e=>by cases e
  fc:=λo fj L _ _ e _=>by cases e
  perm:= .refl _
  hL:=λx y=>by
   have:(eX V).g x=[]:=iW;rw[this];simp
  hJ:=λv=>by
   have:(eX V).g v=[]:=iW;rw[this];simp
  hp:=λv b h=>by
   have:(eX V).g v=[]:=iW;rw[this]at h;simp at h
  hD:=List.nodup_nil
  hC:=λv h=>by simp[eX]at h
  wt:=λu _ _=>by simp[eX]
  dY:=λv=>by
   have:(eX V).a v=0:=iW;rw[this];decide}
def CL{lv:aa}(s:e0 n m l)(hm:m<=60)(t:V=n+m*8)(u:V<=1000000)(az:l.length<=800000000){x4 x5 x6 x8:aa}{Q:aa->ad->Prop}{N:Nat}:∀(j k r:Nat) (S:bI) (aY:List Int) (dv:Nat->aa) (es:List (Nat×Nat)) (H:ad),k+j=l.length->j<r->cq n V a S aY dv es H->e9 n m l S->(∀v,(S.q v).length<=k)->aZ c6 H (· <a) l lv->
  (∀b wk' d es' H',cq n V a b wk' d es' H'->Fr V a dv d H H'->b=pH n (l.drop k) S->(∀v,(b.q v).length<=l.length)->W (oA (aC P ax) N x4 x5 x6 x8 (J X V) (.ptr (a+6) 0 0) H') Q)->
  W (my (aC P ax) N r x4 x5 x6 x8 (J X V) (.ptr (a+6) 0 0) lv (J X l.length) (J X k) H) Q
 |_,_,0,_,_,_,_,_,_,L,_,_,_,_,_=>ai
 |0,k,r+1,S,aY,dv,es,H,K,_,h,z,a8,o,fin=>by
  have g:¬(k:Int)<(l.length:Int):=ai;simp-implicitDefEqProofs(disch:=try exact al)only[my,tF,aq,aG,g,decide_false];exact fin S aY dv es H h (.refl _ _ _ _) (by rw[List.drop_of_length_le ai];rfl) λv=>by have:=a8 v;omega
 |j+1,k,r+1,S,aY,dv,es,H,K,L,h,z,a8,o,fin=>by
  have g:(k:Int)<(l.length:Int):=ai;have i:k<l.length:=ai;have on:=CL (lv:=lv) s hm t u az (x4:=x4) (x5:=x5) (x6:=x6) (x8:=x8) (Q:=Q) (N:=N) j (k+1) r;obtain⟨p,M,O⟩:=o.zg (j:=(k:Int)) (c:=l[k]) ai (by simp[i]);have w:l[k]∈l:=List.getElem_mem i;rw[List.drop_eq_getElem_cons i,pH]at fin;generalize l[k]=c at*;have x:=ay.push H (.row Z 4 [cT c]);have st:bA P (H.push (.row Z 4 [[J X 0,J X 0,J X 0,J X 0]])) 56 (.ptr H.next 0 0) (.agg (cT c))=D (H.push (.row Z 4 [cT c])):=by
   rw[fN (n:=4) ag (ad.bq H _) rfl (by cases c<;>rfl) (by cases c<;>rfl) b_];have:eI [aa.int X 0,J X 0,J X 0,J X 0] 0 (aa.agg (cT c)).cells=cT c:=by cases c<;>rfl
   show D ((H.push _).set H.next (.row Z 4 [eI _ 0 _]))=_;rw[this,ad.jd]
  have ae:=h.aI x;simp-implicitDefEqProofs(disch:=try exact al)only[my,tF,Nat.reduceAdd,aq,aO,aG,g,decide_true,M,O _ (ay.refl _),st,EZ (ad.bq H (.row Z 4 [cT c]))];refine bk (K5 ae t u hm (s _ w) λv=>by have:=a8 v;omega) ?_;rintro _ H1 ⟨rfl,wk',d,es',ah,_,f2⟩;refine⟨f2.1,?_⟩;have f:Fr V a dv d H H1:=(Fr.aI x).trans f2;simp-implicitDefEqProofs(disch:=try exact al)only[aq,aG,c3 (show k<=1000000000 by omega)];exact on _ wk' d es' H1 ai ai ah (z.begin hm s w).1 (λv=>by have:=K4 n S c v;have:=a8 v;omega) (o.hP (h.hP f)) λb R B G A ak f3 e E=>fin b R B G A ak (f.trans f3) e E
def Fa(o:V=n+m*8)(f:V<=1000000){x4 x5 x6 x8:aa}{Q:aa->ad->Prop}{N:Nat}:∀(j k r:Nat) (S:bI) (aY:List Int) (dv:Nat->aa) (es:List (Nat×Nat)) (H:ad),k+j=V->j<r->cq n V a S aY dv es H->
  (∀b wk' c es' H',cq n V a b wk' c es' H'->Fr V a dv c H H'->b=oi ((List.range V).drop k) S->W (oB (aC P ax) N x4 x5 x6 x8 (.ptr (a+6) 0 0) H') Q)->
  W (mx (aC P ax) N r x4 x5 x6 x8 (.ptr (a+6) 0 0) (J X V) (J X k) H) Q
 |_,_,0,_,_,_,_,_,_,q,_,_=>ai
 |0,k,r+1,S,aY,dv,es,H,p,_,h,fin=>by
  have d:¬(k:Int)<(V:Int):=ai;simp-implicitDefEqProofs(disch:=try exact al)only[mx,tE,aq,aG,d,decide_false];exact fin S aY dv es H h (.refl _ _ _ _) (by rw[List.drop_of_length_le (by simp;omega)];rfl)
 |j+1,k,r+1,S,aY,dv,es,H,p,q,h,fin=>by
  have d:(k:Int)<(V:Int):=ai;have on:=Fa o f (x4:=x4) (x5:=x5) (x6:=x6) (x8:=x8) (Q:=Q) (N:=N) j (k+1) r;have e:(List.range V).drop k=k::(List.range V).drop (k+1):=by
   rw[List.drop_eq_getElem_cons (by simp;omega)];simp
  rw[e,oi]at fin;simp-implicitDefEqProofs(disch:=try exact al)only[mx,tE,aq,aG,d,decide_true];refine bk (E9 h f (show k<V by omega)) ?_;rintro _ H1 ⟨rfl,wk',c,es',ah,_,f2⟩;refine⟨f2.1,?_⟩;simp-implicitDefEqProofs(disch:=try exact al)only[aq,aG,c3 (show k<=1000000000 by omega)];exact on _ wk' c es' H1 ai ai ah λb s i l g ak f3 e=>fin b s i l g ak (f2.trans f3) e
end
end
section
open Go.bp
def sT:eC 152 31 1:=⟨ag,ag,⟨24,ag,b_⟩,⟨.aB,ag,rfl,rfl⟩,b_⟩
def JO(H:ad)(ok:Nat->Prop)(p:dn)(v:aa):Prop:=∃nv fv,v= .agg [nv,fv]/\aZ (cQ bu) H ok (p.nodes.map bC) nv/\aZ (cQ (cQ bu)) H ok (p.fields.map (·.map bC)) fv
def kS(R:Nat)(H:ad):Nat->Prop:=λL=>R<L/\L<H.next
def bG.B5{B R:Nat}{H:ad}{l:List Int}{v:aa}(h:bG bu B bH H l v)(g:R<B):aZ bu H (kS R H) l v:=by
 rcases h.eG with ae|⟨L,els,cap,a,i,b,k,m,d⟩
 ·exact .inl ae
 ·exact .inr (.inl ⟨L,0,cap,Z,els,a,⟨by have:=h.low _ _ _ a;omega,ad.b6 b⟩,b,ai,λj x c=>by
   obtain⟨cs,e,f⟩:=d j x c;exact⟨cs,by rw[Nat.zero_add];exact e,f⟩⟩)
def sq{R:Nat}{H H':ad}(aS:H.next<=H'.next)(c:∀k,R<k->k<H.next->H'.get k=H.get k):eB H (kS R H) H' (kS R H'):=λk b a g=>⟨⟨a.1,by have:=a.2;omega⟩,by rw[c k a.1 a.2];exact g⟩
section
variable {n V a m:Nat}{l:List bz}{S:bI}{aY:List Int}{dv:Nat->aa}{es:List (Nat×Nat)}{H:ad}
def cq.out(h:cq n V a S aY dv es H){k:Nat}(i:a+7<=k)(az:∀o,o<=2*V->dd (dv o)≠D k)(b:bL):cq n V a S aY dv es (H.set k b):=by
 have c:∀j,j≠k->(H.set k b).get j=H.get j:=λj f=>ad.cW (Ne.symm f)
 exact {h with
  cu:=by rw[c _ ai];exact h.cu,bF:=by rw[c _ ai];exact h.bF,ez:=by rw[c _ ai];exact h.ez,gq:=by rw[c _ ai];exact h.gq,fJ:=by rw[c _ ai];exact h.fJ,fz:=by rw[c _ ai];exact h.fz,gg:=by rw[c _ ai];exact h.gg
  g:=λv d=>(h.g v d).frame fK λL e=>c L (by rintro rfl;exact az v ai e)
  q:=λv d=>(h.q v d).frame me λL e=>c L (by rintro rfl;exact az (V+v) ai e)
  w:=h.w.frame fK λL e=>c L (by rintro rfl;exact az (2*V) (b4 _) e)}
def sj(V a:Nat)(dv:Nat->aa)(k:Nat):Prop:=a+7<=k/\∀o,o<=2*V->dd (dv o)≠D k
def cq.nl(h:cq n V a S aY dv es H){k:Nat}(b:H.next<=k):sj V a dv k:=⟨by have:=h.lt;omega,λo a7 e=>by have:=(h.ix a7 e).2;omega⟩
def Bv{H:ad}{t zD x K:Nat}{nv:Nat->aa}{v:aa}(c:cD P t=D 1)(g:H.get zD=D (.row Z 1 ((List.range K).map λk=>[nv k])))(aD:x<K)(b:v.one=C):bA P H t (.ptr zD x 0) v=D (H.set zD (.row Z 1 ((List.range K).map λk=>[dk nv x v k]))):=by
 have a:=dG b;rw[fN (n:=1) c g (e:=[nv x]) (by simp[aD]) (by rw[a];rfl) (by rw[a];simp[b]) b_,a,<-AL aD];rfl
def FB(T:V=n+m*8)(U:V<=1000000){zD R F:Nat}(M:zD<R){x6 x8:aa}{Q:aa->ad->Prop}{N:Nat}:∀(j k r:Nat) (nv:Nat->aa) (H:ad),k+j=n->j<r->cq n V a S aY dv es H->sj V a dv zD->R<H.next->H.get zD=D (.row Z 1 ((List.range n).map λi=>[nv i]))->H.get R=D (.row Z 2 [[.aJ zD 0 n 1 (D n),.aJ F 0 m 1 (D m)]])->(∀i,i<k->aZ bu H (kS R H) (bC (Go.bp.bits (S.a i))) (nv i))->
  (∀(H':ad) (f:Nat->aa),cq n V a S aY dv es H'->H.next<=H'.next->(∀q,q<H.next->q≠zD->H'.get q=H.get q)->H'.get zD=D (.row Z 1 ((List.range n).map λi=>[f i]))->(∀i,i<n->aZ bu H' (kS R H') (bC (Go.bp.bits (S.a i))) (f i))->W (oC (aC P ax) N x6 x8 (.ptr (a+6) 0 0) (.ptr R 0 0) H') Q)->
  W (mw (aC P ax) N r x6 x8 (.ptr (a+6) 0 0) (.ptr R 0 0) (J X n) (J X k) H) Q
 |_,_,0,_,_,_,am,_,_,_,_,_,_,_=>ai
 |0,k,r+1,nv,H,af,_,h,_,_,p,_,az,fin=>by
  have s:¬(k:Int)<(n:Int):=ai;simp-implicitDefEqProofs(disch:=try exact al)only[mw,tD,aq,aG,s,decide_false];exact fin H nv h (b4 _) (λ_ _ _=>rfl) p λi ab=>az i ai
 |j+1,k,r+1,nv,H,af,am,h,d,O,p,w,az,fin=>by
  have s:(k:Int)<(n:Int):=ai;have B:k<n:=ai;have on:=FB T U M (F:=F) (x6:=x6) (x8:=x8) (Q:=Q) (N:=N) j (k+1) r;have K:∀{H1:ad},H1.get R=D (.row Z 2 [[.aJ zD 0 n 1 (D n),.aJ F 0 m 1 (D m)]])->aj P H1 31 (.ptr R 0 0)=D (.aJ zD 0 n 1 (D n)):=λg=>by rw[fB ag g rfl];rfl
  simp-implicitDefEqProofs(disch:=try exact al)only[mw,tD,aq,aO,aG,aM,s,decide_true,eT h.cu,fA oj (show k<V by omega),h.od (show k<V by omega)];refine bk (Ad (h.dY k)) ?_;rintro x H1 ⟨G,b⟩;refine⟨b.1,?_⟩;have ae:=h.aI b;have v:=b.get p;have z:=b.get w;have ao:=ad.b6 v;have st:=Bv (t:=30) ag v B G.aJ.one;have ap:∀l i n e c,aV (D (.aJ l i n e c)) (.aJ l i n e c)=true:=λl i n e c=>by simp[aV,aa.beq]
  simp-implicitDefEqProofs(disch:=try exact al)only[aq,aO,aG,aM,K z,K w,fA f_ B,st,ap,c3 (show k<=1000000000 by omega)];have u:H.next<=(H1.set zD (.row Z 1 ((List.range n).map λi=>[dk nv k x i]))).next:=b.1
  have o:∀q,q<H1.next->q≠zD->(H1.set zD (.row Z 1 ((List.range n).map λi=>[dk nv k x i]))).get q=H1.get q:=λq _ a8=>ad.cW (Ne.symm a8)
  have A:∀q,q<H.next->q≠zD->(H1.set zD (.row Z 1 ((List.range n).map λi=>[dk nv k x i]))).get q=H.get q:=λq a8 d=>(o q (by have:=b.1;omega) d).trans (b.2 q a8)
  refine on (dk nv k x) _ ai ai (ae.out d.1 d.2 _) d (by have:=b.1;simp;omega) (ad.dA ao) (by rw[o R (by have:=b.1;omega) ai];exact z) ?_ λH' f ca an Y L ak=>fin H' f ca (Nat.le_trans u an) (λq a8 E=>(Y q (by simp at u ⊢;omega) E).trans (A q a8 E)) L ak
  intro i ab;by_cases e:i=k
  ·subst e;rw[fI];exact(G.B5 O).keep (sq (H:=H1) (by simp) λq ae ah=>o q ah ai)
  ·rw[d_ _ _ e];exact(az i ai).keep (sq u λq ae ah=>A q ah ai)
def DM(an:V=n+m*8)(ao:V<=1000000){zD R F E t W6:Nat}(ak:F<R)(am:R<E)(z:t<m){x8 x104:aa}{fv:Nat->aa}{L4:aa->aa->aa->aa->aa->aa->ad->O}{Q:aa->ad->Prop}{N:Nat}:∀(j k r:Nat) (b:Nat->aa) (H:ad),k+j=8->j<r->cq n V a S aY dv es H->sj V a dv E->E<H.next->H.get E=D (.row Z 1 ((List.range 8).map λi=>[b i]))->H.get R=D (.row Z 2 [[.aJ zD 0 n 1 (D n),.aJ F 0 m 1 (D m)]])->H.get F=D (.row Z 1 ((List.range m).map λi=>[fv i]))->fv t= .aJ E 0 8 1 (D 8)->(∀i,i<k->aZ bu H (kS E H) (bC (Go.bp.bits (S.a (c5 n t i)))) (b i))->
  (∀(H':ad) (o:Nat->aa),cq n V a S aY dv es H'->H.next<=H'.next->(∀q,q<H.next->q≠E->H'.get q=H.get q)->H'.get E=D (.row Z 1 ((List.range 8).map λi=>[o i]))->(∀i,i<8->aZ bu H' (kS E H') (bC (Go.bp.bits (S.a (c5 n t i)))) (o i))->W (mr (aC P ax) N L4 (.ptr W6 0 0) x8 (.ptr (a+6) 0 0) (.ptr R 0 0) x104 (J X t) H') Q)->
  W (mv (aC P ax) N L4 r (.ptr W6 0 0) x8 (.ptr (a+6) 0 0) (.ptr R 0 0) (J X t) x104 (J X t) (J X 8) (J X k) H) Q
 |_,_,0,_,_,_,aw,_,_,_,_,_,_,_,_,_=>ai
 |0,k,r+1,b,H,au,_,h,_,_,fJ,_,_,_,az,fin=>by
  have v:¬(k:Int)<8:=ai;simp-implicitDefEqProofs(disch:=try exact al)only[mv,tC,aq,aG,v,decide_false];exact fin H b h (b4 _) (λ_ _ _=>rfl) fJ λi ar=>az i ai
 |j+1,k,r+1,b,H,au,aw,h,u,af,fJ,s,p,G,az,fin=>by
  have v:(k:Int)<8:=ai;have K:k<8:=ai;have on:=DM an ao (zD:=zD) (W6:=W6) ak am z (x8:=x8) (x104:=x104) (fv:=fv) (L4:=L4) (Q:=Q) (N:=N) j (k+1) r;have aN:c5 n t k<V:=by unfold c5;omega
  have U:∀{H1:ad},H1.get R=D (.row Z 2 [[.aJ zD 0 n 1 (D n),.aJ F 0 m 1 (D m)]])->aj P H1 152 (.ptr R 0 1)=D (.aJ F 0 m 1 (D m)):=λg=>by rw[fB ag g rfl];rfl
  have T:∀{H1:ad},H1.get F=D (.row Z 1 ((List.range m).map λi=>[fv i]))->aj P H1 31 (.ptr F t 0)=D (.aJ E 0 8 1 (D 8)):=λg=>by rw[fB ag g (e:=[fv t]) (by simp[z])];rw[G];rfl
  simp-implicitDefEqProofs(disch:=try exact al)only[mv,tC,aq,aG,v,decide_true];refine fu (n3 h.cu (by unfold c5 at aN;omega)) ?_;simp-implicitDefEqProofs(disch:=try exact al)only[aq,aO,aM,eT h.cu,fA oj aN,h.od aN];refine bk (Ad (h.dY _)) ?_;rintro x H1 ⟨M,d⟩;refine⟨d.1,?_⟩;have ae:=h.aI d;have B:=d.get fJ;have aA:=ad.b6 B;have st:=Bv (t:=30) ag B K M.aJ.one;have aD:∀l i n e c,aV (D (.aJ l i n e c)) (.aJ l i n e c)=true:=λl i n e c=>by simp[aV,aa.beq]
  simp-implicitDefEqProofs(disch:=try exact al)only[aq,aO,aG,aM,eT h.cu,U (d.get s),U s,fA sT z,T p,T (d.get p),fA (V:=8) f_ K,st,aD,c3 (show k<=1000000000 by omega)];have w:H.next<=(H1.set E (.row Z 1 ((List.range 8).map λi=>[dk b k x i]))).next:=d.1
  have A:∀q,q<H1.next->q≠E->(H1.set E (.row Z 1 ((List.range 8).map λi=>[dk b k x i]))).get q=H1.get q:=λq _ a8=>ad.cW (Ne.symm a8)
  have f:∀q,q<H.next->q≠E->(H1.set E (.row Z 1 ((List.range 8).map λi=>[dk b k x i]))).get q=H.get q:=λq a8 ab=>(A q (by have:=d.1;omega) ab).trans (d.2 q a8)
  refine on (dk b k x) _ ai ai (ae.out u.1 u.2 _) u (by have:=d.1;simp;omega) (ad.dA aA) (by rw[f R ai ai];exact s) (by rw[f F ai ai];exact p) G ?_ λH' o ca ay ap Y av=>fin H' o ca (Nat.le_trans w ay) (λq a8 L=>(ap q (by simp at w ⊢;omega) L).trans (f q a8 L)) Y av
  intro i ar;by_cases e:i=k
  ·subst e;rw[fI];exact(M.B5 af).keep (sq (H:=H1) (by simp) λq ae ah=>A q ah ai)
  ·rw[d_ _ _ e];exact(az i ai).keep (sq w λq ae ah=>f q ah ai)
def Br{α:Type}{K:ej α}{H:ad}{ok:Nat->Prop}{zD c:Nat}{nv:Nat->aa}{f:Nat->List α}(d:ok zD)(g:H.get zD=D (.row Z 1 ((List.range c).map λi=>[nv i])))(az:∀i,i<c->aZ K H ok (f i) (nv i)):aZ (cQ K) H ok ((List.range c).map f) (.aJ zD 0 c 1 (D c)):=by
 refine .inr (.inl ⟨zD,0,D c,Z,_,by simp[cQ],d,g,by simp,λj x a=> ?_⟩);have b:j<c:=by have:=(List.getElem?_eq_some_iff.1 a).1;simpa using this
 simp[b]at a;subst a;exact⟨[nv j],by simp[b],nv j,rfl,az j b⟩
def Ir(U:V=n+m*8)(Y:V<=1000000){zD R F W6:Nat}(K:F<R){x8:aa}{Q:aa->ad->Prop}{N:Nat}(O:8<N):∀(j k r:Nat) (fv:Nat->aa) (H:ad),k+j=m->j<r->cq n V a S aY dv es H->sj V a dv F->R<H.next->W6<F->H.get W6=D (.row Z 1 [[J X 8]])->H.get R=D (.row Z 2 [[.aJ zD 0 n 1 (D n),.aJ F 0 m 1 (D m)]])->H.get F=D (.row Z 1 ((List.range m).map λi=>[fv i]))->(∀i,i<k->aZ (cQ bu) H (kS R H) ((List.range 8).map λf=>bC (Go.bp.bits (S.a (c5 n i f)))) (fv i))->
  (∀(H':ad) (p:Nat->aa),H.next<=H'.next->(∀q,q<H.next->q≠F->H'.get q=H.get q)->H'.get F=D (.row Z 1 ((List.range m).map λi=>[p i]))->(∀i,i<m->aZ (cQ bu) H' (kS R H') ((List.range 8).map λf=>bC (Go.bp.bits (S.a (c5 n i f)))) (p i))->W (ln (aC P ax) N x8 (.ptr R 0 0) H') Q)->
  W (mu (aC P ax) N r (.ptr W6 0 0) x8 (.ptr (a+6) 0 0) (.ptr R 0 0) (J X m) (J X k) H) Q
 |_,_,0,_,_,_,aH,_,_,_,_,_,_,_,_,_=>ai
 |0,k,r+1,fv,H,aD,_,h,_,_,_,_,_,s,az,fin=>by
  have B:¬(k:Int)<(m:Int):=ai;simp-implicitDefEqProofs(disch:=try exact al)only[mu,tB,aq,aG,B,decide_false];exact fin H fv (b4 _) (λ_ _ _=>rfl) s λi af=>az i ai
 |j+1,k,r+1,fv,H,aD,aH,h,A,T,aw,d,u,s,az,fin=>by
  have B:(k:Int)<(m:Int):=ai;have E:k<m:=ai;have on:=Ir U Y (zD:=zD) K (W6:=W6) (x8:=x8) (Q:=Q) O j (k+1) r;have an:∀{H1:ad},H1.get R=D (.row Z 2 [[.aJ zD 0 n 1 (D n),.aJ F 0 m 1 (D m)]])->aj P H1 152 (.ptr R 0 1)=D (.aJ F 0 m 1 (D m)):=λg=>by rw[fB ag g rfl];rfl
  have x:=ay.push H (.row Z 1 ((List.range 8).map λ_=>[aa.aB]));have ae:=h.aI x;have G:=x.get s;have am:=ad.b6 G;have st:=Bv (t:=31) (v:= .aJ H.next 0 8 1 (D 8)) ag G E rfl;have aL:∀l i n e c,aV (D (.aJ l i n e c)) (.aJ l i n e c)=true:=λl i n e c=>by simp[aV,aa.beq]
  have mk:=Ap H.next 8 ai
  have aS:=ad.b6 s;have ao:((H.push (.row Z 1 ((List.range 8).map λ_=>[aa.aB]))).set F (.row Z 1 ((List.range m).map λi=>[dk fv k (.aJ H.next 0 8 1 (D 8)) i]))).get H.next=D (.row Z 1 ((List.range 8).map λ_=>[aa.aB])):=by rw[ad.cW ai];exact ad.bq _ _
  have z:∀q,q<H.next->q≠F->((H.push (.row Z 1 ((List.range 8).map λ_=>[aa.aB]))).set F (.row Z 1 ((List.range m).map λi=>[dk fv k (.aJ H.next 0 8 1 (D 8)) i]))).get q=H.get q:=λq a8 b=>by rw[ad.cW (Ne.symm b)];exact x.2 q a8
  have av:=(z W6 (ad.b6 d) ai).trans d;have mk':e5 (fw P ⟨.leaf,H.next⟩ 31 (J X 8) (J X 8)) H.next=D (.aJ H.next 0 8 1 (D 8),.row Z 1 ((List.range 8).map λ_=>[.aB])):=mk
  simp-implicitDefEqProofs(disch:=try exact al)only[mu,tB,aq,aO,aG,aM,B,decide_true,an u,an (x.get u),g1 d,mk',fA sT E,st,aL,g1 av];refine DM U Y (zD:=zD) (F:=F) K T E 8 0 N (λ_=> .aB) _ ai O (ae.out A.1 A.2 _) (h.nl (b4 _)) (by simp) ao ((z R ai ai).trans u) (ad.dA am) (fI _ _ _) (λi af=>ai) ?_;intro o aR ak aK ab ap aF;simp-implicitDefEqProofs(disch:=try exact al)only[mr,aq,aG,c3 (show k<=1000000000 by omega)];have aQ:H.next+1<=o.next:=by simpa using aK
  have w:∀q,q<H.next->q≠F->o.get q=H.get q:=λq a8 b=>(ab q (by simp;omega) ai).trans (z q a8 b)
  have au:o.get F=D (.row Z 1 ((List.range m).map λi=>[dk fv k (.aJ H.next 0 8 1 (D 8)) i])):=by rw[ab F (by simp;omega) ai];exact ad.dA am
  refine on (dk fv k (.aJ H.next 0 8 1 (D 8))) o ai ai ak A ai aw ((w W6 (ad.b6 d) ai).trans d) ((w R ai ai).trans u) au ?_ λH' p aP aA ar aE=>fin H' p ai (λq a8 b=>(aA q ai b).trans (w q a8 b)) ar aE
  intro i af;by_cases e:i=k
  ·subst e;rw[fI];exact Br ⟨T,ai⟩ ap λf aN=>(aF f aN).keep (.le λL M=>⟨by have:=M.1;omega,M.2⟩)
  ·rw[d_ _ _ e];exact(az i ai).keep (sq ai λq ae ah=>w q ah ai)
end
end
section
open Go.bp
def Bu{H:ad}{L:Nat}{x y u v:aa}(h:H.get L=D (.row Z 2 [[u,v]]))(aD:x.one=C)(a:y.one=C):bA P H 154 (.ptr L 0 0) (.agg [x,y])=D (H.set L (.row Z 2 [[x,y]])):=by
 rw[fN (n:=2) ag h rfl rfl (by simp[aa.cells,aD,a]) b_];simp[aa.cells,eI]
def og{H:ad}{L:Nat}{u v:aa}(h:H.get L=D (.row Z 2 [[u,v]])):aj P H 154 (.ptr L 0 0)=D (.agg [u,v]):=fY (n:=2) (i:=0) (c:=0) ag ag h rfl b_
def ja{H:ad}{L:Nat}{u v:aa}(h:H.get L=D (.row Z 2 [[u,v]])):aj P H 31 (.ptr L 0 0)=D u/\aj P H 152 (.ptr L 0 1)=D v:=by
 refine⟨?_,?_⟩
 ·rw[fB ag h rfl];rfl
 ·rw[fB ag h rfl];rfl
section
variable {H:ad}{ok:Nat->Prop}
def S2{n m:Nat}{l:List bz}{lv:aa}(M:e0 n m l)(aS:n<=70000)(cO:0<n)(hm:m<=60)(az:l.length<=800000000)(a6:aZ c6 H ok l lv):
  W (aC P ax 130 [J X n,J X m,J X 8,lv] H) λr H'=>∃bt,r= .tuple [bt,J X 0]/\JO H' (λL=>H.next<=L/\L<H'.next) (da n m l) bt/\ay H H':=by
 obtain⟨V,u⟩:∃V,V=n+m*8:=⟨_,rfl⟩;refine bZ (λ_=>TK (l.length+V+100)) ?_;have bs:ay H ((((H.push (.row Z 1 [[J X (n:Nat)]])).push (.row Z 1 [[J X (m:Nat)]])).push (.row Z 1 [[J X 8]])).push (.row Z 2 [[.aB,.aB]])):=(((ay.push _ _).trans (ay.push _ _)).trans (ay.push _ _)).trans (ay.push _ _);have s:kT ((((H.push (.row Z 1 [[J X (n:Nat)]])).push (.row Z 1 [[J X (m:Nat)]])).push (.row Z 1 [[J X 8]])).push (.row Z 2 [[.aB,.aB]])) H.next (H.next+1) (H.next+1+1) n m 8:=by
  refine⟨?_,?_,?_⟩<;>simp-implicitDefEqProofs(disch:=try exact al)only[n4]<;>rfl
 have U:((((H.push (.row Z 1 [[J X (n:Nat)]])).push (.row Z 1 [[J X (m:Nat)]])).push (.row Z 1 [[J X 8]])).push (.row Z 2 [[.aB,.aB]])).get (H.next+1+1+1)=D (.row Z 2 [[.aB,.aB]]):=by simp-implicitDefEqProofs(disch:=try exact al)only[n4]
 have d1:decide ((0:Int)<=(n:Int)/\(n:Int)<70001)=true:=by simp;omega
 have d2:decide ((0:Int)<=(m:Int)/\(m:Int)<61)=true:=by simp;omega
 have d3:decide ((0:Int)<=(8:Int)/\(8:Int)<9)=true:=b_;have aR:kT ((((H.push (.row Z 1 [[J X (n:Nat)]])).push (.row Z 1 [[J X (m:Nat)]])).push (.row Z 1 [[J X 8]])).push (.row Z 2 [[.aB,.aB]])) H.next (H.next+1) (H.next+1+1) n m 8:=s
 have au:aj P ((((H.push (.row Z 1 [[J X (n:Nat)]])).push (.row Z 1 [[J X (m:Nat)]])).push (.row Z 1 [[J X 8]])).push (.row Z 2 [[.aB,.aB]])) 3 (.ptr (H.next+1+1) 0 0)=D (J X 8):=g1 s.c;simp-implicitDefEqProofs(disch:=try exact al)only[qt,Nat.reduceAdd,aq,aO,ad.ds,CR];generalize cb:((((H.push (.row Z 1 [[J X (n:Nat)]])).push (.row Z 1 [[J X (m:Nat)]])).push (.row Z 1 [[J X 8]])).push (.row Z 2 [[.aB,.aB]]))=H0 at*;have cM:H0.next=H.next+4:=by rw[<-cb];simp
 obtain⟨A,b7⟩:∃A,A=H.next:=⟨_,rfl⟩
 rw[<-b7]at s U au aR ⊢;obtain⟨B,b9⟩:∃B,B=A+1:=⟨_,rfl⟩;rw[<-b9]at s U au aR ⊢;obtain⟨zC,ca⟩:∃zC,zC=B+1:=⟨_,rfl⟩;rw[<-ca]at s U au aR ⊢;obtain⟨d,cc⟩:∃d,d=zC+1:=⟨_,rfl⟩;rw[<-cc]at U ⊢;simp-implicitDefEqProofs(disch:=try exact al)only[aq,g1 s.a];refine fu (yv _ _) ?_;simp-implicitDefEqProofs(disch:=try exact al)only[aq,d1,g1 s.b];refine jv (yv _ _) ?_;simp-implicitDefEqProofs(disch:=try exact al)only[aq,d1,d2,au];refine jv (yv _ _) ?_;simp-implicitDefEqProofs(disch:=try exact al)only[aq,d3,Bool.not_true];refine cE (LC M ai (a6.aI bs) s) ?_;rintro _ K ⟨rfl,av⟩;refine⟨av.1,?_⟩;have e:=s.aI av;have bi:=av.get U
 have ah:=bs.trans av;have cp:aj P K 3 (.ptr zC 0 0)=D (J X 8):=g1 e.c;have bL:ar P .mul 3 Z (J X (m:Int)) (J X 8)=D (J X ((m*8:Nat):Int)):=by
  show D (aa.int X (IntKind.i64.wrap ((m:Int)*8)))=_;rw[wrap_i64 ai ai];simp
 have cB:IntKind.i64.wrap ((n:Int)+((m*8:Nat):Int))=((V:Nat):Int):=by rw[wrap_i64 ai ai];omega
 have an:V<=1000000000:=ai;simp-implicitDefEqProofs(disch:=try exact al)only[aq,aG,g1 e.a,g1 e.b,cp,bL,cB];obtain⟨a,ao⟩:∃a,a=K.next:=⟨_,rfl⟩
 have b8:=ay.push K (.row Z 1 (fx (List.replicate V 0)));generalize aY:K.push (.row Z 1 (fx (List.replicate V 0)))=aE at*;have cP:aE.next=a+1:=by rw[<-aY,ao];simp
 have cg:=ay.push aE (.row Z 1 ((List.range V).map λ_=>[.aB]));generalize a0:aE.push (.row Z 1 ((List.range V).map λ_=>[.aB]))=aF at*;have a_:aF.next=a+2:=by rw[<-a0];simp[cP]
 have a7:=ay.push aF (.row Z 1 ((List.range V).map λ_=>[.aB]));generalize a1:aF.push (.row Z 1 ((List.range V).map λ_=>[.aB]))=aH at*;have ba:aH.next=a+3:=by rw[<-a1];simp[a_]
 have ap:=ay.push aH (.row Z 1 (fx (List.replicate V 0)));generalize a2:aH.push (.row Z 1 (fx (List.replicate V 0)))=aL at*;have bb:aL.next=a+4:=by rw[<-a2];simp[ba]
 have af:=ay.push aL (.map []);generalize a3:aL.push (.map [])=aN at*;have n5:aN.next=a+5:=by rw[<-a3];simp[bb]
 have N:=ay.push aN (.row Z 1 (fP (List.replicate V Z)));generalize a4:aN.push (.row Z 1 (fP (List.replicate V Z)))=aP at*;have n6:aP.next=a+6:=by rw[<-a4];simp[n5]
 have E:=ay.push aP (.row Z 9 [gA n V a λ_=> .aB]);generalize a5:aP.push (.row Z 9 [gA n V a λ_=> .aB])=o at*;have n7:o.next=a+7:=by rw[<-a5];simp[n6]
 have t2:=b8.trans cg;have t3:=t2.trans a7;have t4:=t3.trans ap;have t5:=t4.trans af;have t6:=t5.trans N;have t7:=t6.trans E;have b1:o.get a=D (.row Z 1 (fx (List.replicate V 0))):=(((((cg.trans a7).trans ap).trans af).trans N).trans E).get (by rw[<-aY,ao];exact ad.bq _ _);have b2:o.get (a+1)=D (.row Z 1 ((List.range V).map λ_=>[.aB])):=((((a7.trans ap).trans af).trans N).trans E).get (by rw[<-a0,<-cP];exact ad.bq _ _);have b5:o.get (a+2)=D (.row Z 1 ((List.range V).map λ_=>[.aB])):=(((ap.trans af).trans N).trans E).get (by rw[<-a1,<-a_];exact ad.bq _ _);have ge:o.get (a+3)=D (.row Z 1 (fx (List.replicate V 0))):=((af.trans N).trans E).get (by rw[<-a2,<-ba];exact ad.bq _ _)
 have b3:o.get (a+4)=D (.map []):=(N.trans E).get (by rw[<-a3,<-bb];exact ad.bq _ _);have gw:o.get (a+5)=D (.row Z 1 (fP (List.replicate V Z))):=E.get (by rw[<-a4,<-n5];exact ad.bq _ _);have b4:o.get (a+6)=D (.row Z 9 [gA n V a λ_=> .aB]):=by rw[<-a5,<-n6];exact ad.bq _ _
 have sv:=cq.start b4 b1 b2 b5 ge b3 gw;have bF:c7 P 248 [(0,J X (n:Nat)),(1,J X 8),(2,.aJ a 0 V 1 (D V)),(3,.aJ (a+1) 0 V 1 (D V)),(4,.aJ (a+2) 0 V 1 (D V)),(5,.aJ (a+3) 0 V 1 (D V)),(6,.map (a+4)),(8,.aJ (a+5) 0 V 1 (D V))]=D (.agg (gA n V a λ_=> .aB)):=CE rfl rfl rfl rfl rfl rfl rfl rfl;have bH:b0 (a+6) (.agg (gA n V a λ_=> .aB))=D (.ptr (a+6) 0 0,.row Z 9 [gA n V a λ_=> .aB]):=rfl;have z:∀{H1:ad},ay K H1->aj P H1 3 (.ptr A 0 0)=D (J X (n:Nat))/\aj P H1 3 (.ptr zC 0 0)=D (J X 8):=λp=>⟨g1 (e.aI p).a,g1 (e.aI p).c⟩
 simp only[<-ao,aY,cP,a0,a_,a1,ba,a2,bb,a3,n5,a4,n6,a5,Qi _ V an,Ap _ V an,Ql _ V an,Qh _ V an,lK,bF,bH,lJ];simp-implicitDefEqProofs(disch:=try exact al)only[bf,aq,aO,z (ay.refl K),z b8,z t2,z t3,z t4,z t5,z t6,(a6.aI ah).len g4];have ab:V<=1000000:=ai;have cf:aZ c6 o (· <a) l lv:=by
  have:=(a6.aI ah).below;rw[<-ao]at this;exact this.aI t7
 refine CL M hm u ab az l.length 0 _ (eX V) [] (λ_=> .aB) [] o ai ai sv (by rw[u];exact e9.start n m l) (λv=>by
  have:(eX V).q v=[]:=iW;rw[this];exact Nat.zero_le _) cf ?_
 intro be cD bJ bM bB cu f1 bN cj;obtain⟨bx,-,bn⟩:=e9.CK hm M (cs:=l) (e9.start n m l) λ_ h=>h
 rw[<-u,<-List.drop_zero (l:=l),<-bN,List.drop_zero]at bx bn;simp-implicitDefEqProofs(disch:=try exact al)only[oA];refine Fa u ab V 0 _ be cD bJ bM bB ai ai cu ?_;intro bE cU cJ cK cH cv f2 bh;obtain⟨i2,bo⟩:=dD.looks ((List.range V).drop 0) be bx.i (λv cl=>by rw[<-u];simpa using cl) bn;rw[<-bh]at i2 bo;have ck:∀v,(bE.q v).length<=1000000000:=λv=>by rw[bh,E_];have:=cj v;omega
 simp-implicitDefEqProofs(disch:=try exact al)only[oB,aq];refine bk (NR cv M u ai ab hm i2 ck) ?_;rintro _ G ⟨rfl,aQ,cV,bK,cL,a9,i3,bO,cC,f3⟩;refine⟨f3.1,?_⟩;have bm:∀v,Go.bp.bits (aQ.a v)=c_ m (df n l v):=λv=>dD.list M hm (dD.final M i3 (λc aA=>(bo c aA).sL bO.b) cC) v
 have pu:=sv.hP ((f1.trans f2).trans f3);have cm:A<a:=by have:=ad.b6 e.a;omega
 have cn:B<a:=by have:=ad.b6 e.b;omega
 have co:zC<a:=by have:=ad.b6 e.c;omega
 have cr:d<a:=by have:=ad.b6 bi;omega
 have am:kT G A B zC n m 8:=⟨(pu.2 A cm).trans (t7.get e.a),(pu.2 B cn).trans (t7.get e.b),(pu.2 zC co).trans (t7.get e.c)⟩;have bX:G.get d=D (.row Z 2 [[.aB,.aB]]):=(pu.2 d cr).trans (t7.get bi);have cI:=a9.lt;obtain⟨zD,aV⟩:∃zD,zD=G.next:=⟨_,rfl⟩
 have bv:=ay.push G (.row Z 1 ((List.range n).map λ_=>[.aB]));generalize aW:G.push (.row Z 1 ((List.range n).map λ_=>[.aB]))=aD at*;have bc:aD.next=zD+1:=by rw[<-aW,aV];simp
 have bw:=ay.push aD (.row Z 1 ((List.range m).map λ_=>[.aB]));generalize aX:aD.push (.row Z 1 ((List.range m).map λ_=>[.aB]))=t at*;have ag:t.next=zD+2:=by rw[<-aX];simp[bc]
 have bd:=ay.push t (.row Z 2 [[.aJ zD 0 n 1 (D n),.aJ (zD+1) 0 m 1 (D m)]]);have cy:bA P (t.push (.row Z 2 [[.aB,.aB]])) 154 (.ptr (zD+2) 0 0) (.agg [.aJ zD 0 n 1 (D n),.aJ (zD+1) 0 m 1 (D m)])=D (t.push (.row Z 2 [[.aJ zD 0 n 1 (D n),.aJ (zD+1) 0 m 1 (D m)]])):=by
  have g:=ad.bq t (.row Z 2 [[.aB,.aB]]);rw[ag]at g;rw[Bu g rfl rfl,<-ag,ad.jd]
 generalize bl:t.push (.row Z 2 [[.aJ zD 0 n 1 (D n),.aJ (zD+1) 0 m 1 (D m)]])=Q at*;have cT:Q.next=zD+3:=by rw[<-bl];simp[ag]
 have aT:Q.get (zD+2)=D (.row Z 2 [[.aJ zD 0 n 1 (D n),.aJ (zD+1) 0 m 1 (D m)]]):=by rw[<-bl,<-ag];exact ad.bq _ _
 have bT:Q.get (zD+1)=D (.row Z 1 ((List.range m).map λ_=>[.aB])):=bd.get (by rw[<-aX,<-bc];exact ad.bq _ _);have bQ:Q.get zD=D (.row Z 1 ((List.range n).map λ_=>[.aB])):=(bw.trans bd).get (by rw[<-aW,aV];exact ad.bq _ _);have aw:=(bv.trans bw).trans bd;have cw:=a9.aI aw;have bG:c7 P 154 [(0,.aJ zD 0 n 1 (D n)),(1,.aJ (zD+1) 0 m 1 (D m))]=D (.agg [.aJ zD 0 n 1 (D n),.aJ (zD+1) 0 m 1 (D m)]):=CB rfl rfl;have bI:=am.aI bv;have ci:n<=1000000000:=ai;have ch:m<=1000000000:=ai;have cG:∀(k:aa->ad->O),cA t [.aB,.aB] k=k (.ptr (zD+2) 0 0) (t.push (.row Z 2 [[.aB,.aB]])):=λk=>by rw[kQ,kR,ag];rfl
 simp only[g1 am.a,lJ,<-aV,Ap _ n ci,lK,aW,bc,g1 bI.b,Qk _ m ch,aX,bG,cG,cy,g1 am.b];simp-implicitDefEqProofs(disch:=try exact al)only[bf,aq,aO,aM,sS,ja aT];have br:∀k,G.next<=k->sj V a bK k:=λk j=>a9.nl j
 refine FB u ab (R:=zD+2) (F:=zD+1) ai n 0 _ (λ_=> .aB) Q ai ai cw (br zD ai) ai bQ aT (λi ae=>ai) ?_;intro bD nv cx cR S bR cd;have aU:=(S (zD+2) ai ai).trans aT;have bU:=(S (zD+1) ai ai).trans bT;have bg:=am.aI aw;have bP:=(S zC (ad.b6 bg.c) ai).trans bg.c;simp-implicitDefEqProofs(disch:=try exact al)only[oC,bf,aq,aO,aM,sS,ja aU];refine Ir u ab (zD:=zD) (R:=zD+2) (F:=zD+1) (W6:=zC) ai ai m 0 _ (λ_=> .aB) bD ai ai cx (br (zD+1) ai) ai ai bP aU bU (λi ae=>ai) ?_;intro w fv cS T bV ce;have bW:=(T (zD+2) ai ai).trans aU;have bS:=(T zD ai ai).trans bR;have cN:d<zD:=ai;have bj:w.get d=D (.row Z 2 [[.aB,.aB]]):=((T d ai ai).trans (S d ai ai)).trans (aw.get bX)
 have ct:=ad.b6 bj;have cz:=Bu (x:= .aJ zD 0 n 1 (D n)) (y:= .aJ (zD+1) 0 m 1 (D m)) bj rfl rfl;have bY:(w.set d (.row Z 2 [[.aJ zD 0 n 1 (D n),.aJ (zD+1) 0 m 1 (D m)]])).get d=D (.row Z 2 [[.aJ zD 0 n 1 (D n),.aJ (zD+1) 0 m 1 (D m)]]):=ad.dA ct;simp-implicitDefEqProofs(disch:=try exact al)only[ln,aq,og bW,cz,og bY];have Y:∀q,q≠d->(w.set d (.row Z 2 [[.aJ zD 0 n 1 (D n),.aJ (zD+1) 0 m 1 (D m)]])).get q=w.get q:=λq a8=>ad.cW (Ne.symm a8)
 have n9:(w.set d (.row Z 2 [[.aJ zD 0 n 1 (D n),.aJ (zD+1) 0 m 1 (D m)]])).next=w.next:=by simp
 generalize w.set d (.row Z 2 [[.aJ zD 0 n 1 (D n),.aJ (zD+1) 0 m 1 (D m)]])=ak at*;refine aK.2 ⟨_,rfl,⟨_,_,rfl,?_,?_⟩,?_,?_⟩
 ·have:=Br (K:=bu) (H:=ak) (ok:=λL=>A<=L/\L<ak.next) (zD:=zD) (c:=n) (nv:=nv) (f:=λi=>bC (Go.bp.bits (aQ.a i))) ⟨ai,ai⟩ ((Y zD ai).trans bS) λi ae=>(cd i ae).keep λk b j g=>⟨⟨by have:=j.1;omega,by have:=j.2;omega⟩,by rw[Y k (by have:=j.1;omega),T k j.2 (by have:=j.1;omega)];exact g⟩
  simpa [da,gl,bm,Function.comp_def]using this
 ·have:=Br (K:=cQ bu) (H:=ak) (ok:=λL=>A<=L/\L<ak.next) (zD:=zD+1) (c:=m) (nv:=fv) (f:=λi=>(List.range 8).map λf=>bC (Go.bp.bits (aQ.a (c5 n i f)))) ⟨ai,ai⟩ ((Y (zD+1) ai).trans bV) λi ae=>(ce i ae).keep λk b j g=>⟨⟨by have:=j.1;omega,by have:=j.2;omega⟩,by rw[Y k (by have:=j.1;omega)];exact g⟩
  simpa [da,gl,bm,Function.comp_def,c5]using this
 ·have:=ah.1;omega
 ·intro q a8;rw[Y q ai,T q ai ai,S q ai ai,aw.2 q ai,pu.2 q ai,t7.2 q (by have:=ah.1;omega),ah.2 q ai]
end
end
end Go.Proofs.YtmhhnnklfcbgfaaGreat
namespace Go.bp
open Go.bo
section
open Go.bo
open Go.bo
open Go.bo
open Classical
def aW(L:List Nat)(i:Nat):Nat:=L.getD i i
structure Good(L:List Nat):Prop where
 le:∀i,aW L i<=i
 id:∀i,aW L (aW L i)=aW L i
def p7{L:List Nat}{i:Nat}(h:i<L.length):L[i]? =D (aW L i):=by
 unfold aW;rw[List.getD_eq_getElem?_getD,List.getElem?_eq_getElem h];rfl
def Ac{L:List Nat}{i:Nat}(h:L.length<=i):aW L i=i:=by
 unfold aW;rw[List.getD_eq_getElem?_getD,List.getElem?_eq_none h];rfl
def wL{L:List Nat}{i v:Nat}(h:L[i]? =D v):aW L i=v:=by
 unfold aW;rw[List.getD_eq_getElem?_getD,h];rfl
def eo(L:List Nat)(a b:Nat):Prop:=aW L a=aW L b
def ow(L:List Nat):fl (eo L):=⟨λ_=>rfl,λh=>h.symm,λh k=>h.trans k⟩
def p8(n i:Nat):aW (List.range n) i=i:=by
 by_cases h:i<n
 ·exact wL (by rw[List.getElem?_range h])
 ·exact Ac (by simpa using h)
def Ee(n:Nat):Good (List.range n):=⟨λi=>by rw[p8];exact b4 _,λi=>by simp only[p8]⟩
def Good.lt{L:List Nat}(g:Good L){i:Nat}(h:i<L.length):aW L i<L.length:=by have:=g.le i;omega
def Good.least{L:List Nat}(g:Good L)(a:Nat):dr (eo L) a=aW L a:=by
 have h:=g3 (ow L) a;have ae:eo L a (aW L a):=(g.id a).symm;have ah:=h.2.2 _ ae;have ak:aW L a=aW L (dr (eo L) a):=h.1;have au:=g.le (dr (eo L) a);omega
def fQ(L:List Nat)(a b:Nat):List Nat:=L.map λx=>if x=aW L a\/x=aW L b then min (aW L a) (aW L b)else x
def l1(L:List Nat)(a b:Nat):(fQ L a b).length=L.length:=by simp[fQ]
def iz{L:List Nat}(g:Good L){a b:Nat}(c:a<L.length)(d:b<L.length)(i:Nat):aW (fQ L a b) i=if aW L i=aW L a\/aW L i=aW L b then min (aW L a) (aW L b)else aW L i:=by
 by_cases h:i<L.length
 ·refine wL ?_;unfold fQ;rw[List.getElem?_map,p7 h];rfl
 ·have ca:L.length<=i:=by omega
  rw[Ac (by rw[l1];exact ca),Ac ca,if_neg];have:=g.lt c;have:=g.lt d;omega
def wq{L:List Nat}{a b:Nat}(h:aW L a=aW L b):fQ L a b=L:=by
 unfold fQ;rw[h,Nat.min_self];have:∀x∈L,(if x=aW L b\/x=aW L b then aW L b else x)=x:=by
  intro x _;split
  ·rename_i h;rcases h with h|h<;>exact h.symm
  ·rfl
 exact(List.map_congr_left this).trans (List.map_id' L)
def Good.join{L:List Nat}(g:Good L){a b:Nat}(c:a<L.length)(d:b<L.length):Good (fQ L a b):=by
 have hm:aW (fQ L a b) (min (aW L a) (aW L b))=min (aW L a) (aW L b):=by
  rw[iz g c d];rcases Nat.le_total (aW L a) (aW L b)with h|h
  ·rw[Nat.min_eq_left h,g.id,if_pos (.inl rfl)]
  ·rw[Nat.min_eq_right h,g.id,if_pos (.inr rfl)]
 refine⟨λi=> ?_,λi=> ?_⟩
 ·rw[iz g c d];have:=g.le i;split
  ·rename_i h;rcases h with h|h<;>omega
  ·exact this
 ·by_cases h:aW L i=aW L a\/aW L i=aW L b
  ·rw[show aW (fQ L a b) i=min (aW L a) (aW L b) by rw[iz g c d,if_pos h],hm]
  ·have e:aW (fQ L a b) i=aW L i:=by rw[iz g c d,if_neg h]
   rw[e,iz g c d,g.id,if_neg h]
def AQ{L:List Nat}(g:Good L){a b:Nat}(f:a<L.length)(i:b<L.length){c d:Nat}:eo (fQ L a b) c d↔eo L c d\/((eo L c a\/eo L c b)/\(eo L d a\/eo L d b)):=by
 unfold eo;rw[iz g f i,iz g f i];have ae:∀x,min (aW L a) (aW L b)=aW L x->aW L x=aW L a\/aW L x=aW L b:=λx h=>by
  rcases Nat.le_total (aW L a) (aW L b)with ah|ah
  ·rw[Nat.min_eq_left ah]at h;exact .inl h.symm
  ·rw[Nat.min_eq_right ah]at h;exact .inr h.symm
 by_cases aA:aW L c=aW L a\/aW L c=aW L b<;>by_cases e:aW L d=aW L a\/aW L d=aW L b
 ·rw[if_pos aA,if_pos e];simp[aA,e]
 ·rw[if_pos aA,if_neg e];constructor
  ·intro h;exact absurd (ae d h) e
  ·rintro(h|⟨_,h⟩)
   ·exact absurd (h▸aA) e
   ·exact absurd h e
 ·rw[if_neg aA,if_pos e];constructor
  ·intro h;exact absurd (ae c h.symm) aA
  ·rintro(h|⟨h,_⟩)
   ·exact absurd (h▸e) aA
   ·exact absurd h aA
 ·rw[if_neg aA,if_neg e];simp[aA]
noncomputable def gx(L:List Nat):Nat:=(c_ L.length λi=>aW L i=i).length
def FF{L:List Nat}(g:Good L){a b:Nat}(d:a<L.length)(e:b<L.length)(h:aW L a≠aW L b):gx (fQ L a b)<gx L:=by
 unfold gx;rw[l1];have k:∀i,aW (fQ L a b) i=i->aW L i=i:=by
  intro i c;rw[iz g d e]at c;split at c
  ·rename_i ae;rcases Nat.le_total (aW L a) (aW L b)with ah|ah
   ·rw[Nat.min_eq_left ah]at c;rw[<-c,g.id]
   ·rw[Nat.min_eq_right ah]at c;rw[<-c,g.id]
  ·exact c
 rcases Nat.lt_or_ge (c_ L.length λi=>aW (fQ L a b) i=i).length (c_ L.length λi=>aW L i=i).length with ae|ae
 ·exact ae
 ·have key:=Gd k ae;have f:=key (aW L a) (g.lt d) (g.id a);have j:=key (aW L b) (g.lt e) (g.id b);rw[iz g d e,g.id,if_pos (.inl rfl)]at f;rw[iz g d e,g.id,if_pos (.inr rfl)]at j;exact absurd (f.symm.trans j) h
def QD(L:List Nat):gx L<=L.length:=by
 unfold gx c_;exact Nat.le_trans (List.length_filter_le _ _) (by simp)
def iw(L:List Nat)(a:Nat):List Nat->List Nat
 |[]=>L
 |b::bs=>iw (fQ L a b) a bs
structure hc(L L':List Nat):Prop where
 len:L'.length=L.length
 jJ:Good L'
 le:∀c d,eo L c d->eo L' c d
 num:L'=L\/gx L'<gx L
def hc.refl{L:List Nat}(g:Good L):hc L L:=⟨rfl,g,λ_ _ h=>h,.inl rfl⟩
def hc.trans{L L1 a:List Nat}(h:hc L L1)(k:hc L1 a):hc L a:=
 ⟨k.len.trans h.len,k.jJ,λc d r=>k.le c d (h.le c d r),by
  rcases h.num with rfl|ae
  ·exact k.num
  ·rcases k.num with rfl|ah
   ·exact .inr ae
   ·exact .inr (by omega)⟩
def hc.wV{L L':List Nat}(h:hc L L'):gx L'<=gx L:=by
 rcases h.num with rfl|ae
 ·exact b4 _
 ·omega
def wv{L:List Nat}(g:Good L){a b:Nat}(e:a<L.length)(f:b<L.length):hc L (fQ L a b):=by
 refine⟨l1 _ _ _,g.join e f,λc d h=>(AQ g e f).2 (.inl h),?_⟩;by_cases h:aW L a=aW L b
 ·exact .inl (wq h)
 ·exact .inr (FF g e f h)
def wu:∀{bs:List Nat} {L:List Nat} {a:Nat},Good L->a<L.length->(∀b∈bs,b<L.length)->hc L (iw L a bs)
 |[],L,a,g,_,_=> .refl g
 |b::bs,L,a,g,d,e=>by
  have ae:=wv g d (e b (by simp));exact ae.trans (wu ae.jJ (by rw[ae.len];exact d) λc aA=>by rw[ae.len];exact e c (by simp[aA]))
def EA:∀{bs:List Nat} {L:List Nat} {a:Nat},Good L->a<L.length->(∀b∈bs,b<L.length)->∀b∈bs,eo (iw L a bs) a b
 |[],_,_,_,_,_,b,h=>by simp at h
 |c::bs,L,a,g,e,f,b,h=>by
  have ae:=wv g e (f c (by simp));have i:a<(fQ L a c).length:=by rw[ae.len];exact e
  have j:∀d∈bs,d<(fQ L a c).length:=λd k=>by rw[ae.len];exact f d (by simp[k])
  rcases List.mem_cons.1 h with rfl|h
  ·exact(wu ae.jJ i j).le _ _ ((AQ g e (f b (by simp))).2 (.inr ⟨.inl rfl,.inr rfl⟩))
  ·exact EA ae.jJ i j b h
def O5{L:List Nat}(g:Good L){a b:Nat}(k:a<L.length)(l:b<L.length){R:Nat->Nat->Prop}(e:fl R)(h:∀c d,eo L c d->R c d)(f:R a b):∀c d,eo (fQ L a b) c d->R c d:=by
 intro c d m;rcases(AQ g k l).1 m with ae|⟨ae,ah⟩
 ·exact h c d ae
 ·have i:R c a:=ae.elim (h _ _) λq=>e.trans (h _ _ q) (e.symm f)
  have j:R d a:=ah.elim (h _ _) λq=>e.trans (h _ _ q) (e.symm f)
  exact e.trans i (e.symm j)
def EB:∀{bs:List Nat} {L:List Nat} {a:Nat},Good L->a<L.length->(∀b∈bs,b<L.length)->∀{R:Nat->Nat->Prop},fl R->(∀c d,eo L c d->R c d)->(∀b∈bs,R a b)->∀c d,eo (iw L a bs) c d->R c d
 |[],_,_,_,_,_,_,_,h,_=>h
 |b::bs,L,a,g,e,f,R,j,h,k=>by
  have ae:=wv g e (f b (by simp));exact EB ae.jJ (by rw[ae.len];exact e) (λd i=>by rw[ae.len];exact f d (by simp[i])) j (O5 g e (f b (by simp)) j h (k b (by simp))) λd i=>k d (by simp[i])
def O3{L:List Nat}{a:Nat}{bs:List Nat}:iw L a (a::bs)=iw L a bs:=by
 show iw (fQ L a a) a bs=_;rw[wq rfl]
def Good.LU{L:List Nat}(g:Good L){R:Nat->Nat->Prop}(d:fl R)(h:∀a b,a<L.length->b<L.length->(eo L a b↔R a b)):L=(List.range L.length).map (dr R):=by
 apply List.ext_getElem?;intro i;by_cases c:i<L.length
 ·rw[p7 c,List.getElem?_map,List.getElem?_range c,<-g.least i];simp only[Option.map_some];exact congrArg D (Lz h (ow L) d i c)
 ·rw[List.getElem?_eq_none (by omega),List.getElem?_eq_none (by simpa using c)]
end
section
open Go.bo
open Go.bo
open Go.bo
open Classical
def nM(L:List Nat):List Nat->List Nat
 |[]=>L
 |a::bs=>iw L a bs
section
variable {L:List Nat}{l:List Nat}
def BD(g:Good L)(h:∀b∈l,b<L.length):hc L (nM L l):=by
 cases l with
 |nil=>exact .refl g
 |cons a bs=>exact wu g (h a (by simp)) λb c=>h b (by simp[c])
def IT(g:Good L)(h:∀b∈l,b<L.length):∀b∈l,∀c∈l,eo (nM L l) b c:=by
 cases l with
 |nil=>intro b d;simp at d
 |cons a bs=>
  have ae:∀b∈a::bs,eo (iw L a bs) a b:=by
   intro b d;rcases List.mem_cons.1 d with rfl|d
   ·rfl
   ·exact EA g (h a (by simp)) (λb d=>h b (by simp[d])) b d
  intro b d c aA;exact(ow _).trans ((ow _).symm (ae b d)) (ae c aA)
def aaI(g:Good L)(h:∀b∈l,b<L.length){R:Nat->Nat->Prop}(i:fl R)(f:∀c d,eo L c d->R c d)(az:∀b∈l,∀c∈l,R b c):∀c d,eo (nM L l) c d->R c d:=by
 cases l with
 |nil=>exact f
 |cons a bs=>exact EB g (h a (by simp)) (λb e=>h b (by simp[e])) i f λb e=>az a (by simp) b (by simp[e])
end
structure May(m:Nat)(p:dn):Prop where
 nodes:∀N∈p.nodes,∀a∈N,a<m
 len:p.fields.length=m
 wid:∀fs∈p.fields,fs.length=8
 ea:∀fs∈p.fields,∀l∈fs,∀a∈l,a<m
def May.fe{m:Nat}{p:dn}(h:May m p){s k a:Nat}(b:a∈p.ea s k):a<m/\s<m/\k<8:=by
 unfold dn.ea at b;cases d:p.fields[s]? with
 |none=>rw[d]at b;simp at b
 |some fs=>
  rw[d]at b;simp only[Option.bind_some]at b;have ae:=List.mem_of_getElem? d;cases c:fs[k]? with
  |none=>rw[c]at b;simp at b
  |some l=>
   rw[c]at b;simp only[Option.getD_some]at b;have ah:=(List.getElem?_eq_some_iff.1 c).1;have ak:=(List.getElem?_eq_some_iff.1 d).1;rw[h.wid fs ae]at ah;rw[h.len]at ak;exact⟨h.ea fs ae l (List.mem_of_getElem? c) a b,ak,ah⟩
def P7(n m:Nat)(R:Nat->Nat->Prop):May m (gl n m R):=by
 refine⟨?_,by simp[gl],?_,?_⟩
 ·intro N d a c;simp only[gl,List.mem_map]at d;obtain⟨v,_,rfl⟩:=d;exact(gI.1 c).1
 ·intro fs b;simp only[gl,List.mem_map]at b;obtain⟨t,_,rfl⟩:=b;simp
 ·intro fs b l az a c;simp only[gl,List.mem_map]at b;obtain⟨t,_,rfl⟩:=b;simp only[List.mem_map]at az;obtain⟨k,_,rfl⟩:=az;exact(gI.1 c).1
structure e8(m:Nat)(p:dn)(L:List Nat):Prop where
 len:L.length=m
 jJ:Good L
 sub:∀c d,eo L c d->cH p c d
structure hY(p:dn)(L:List Nat):Prop where
 h:∀N∈p.nodes,∀a∈N,∀b∈N,eo L a b
structure j9(p:dn)(L:List Nat):Prop where
 h:∀s t k a b,eo L s t->a∈p.ea s k->b∈p.ea t k->eo L a b
def e8.start(m:Nat)(p:dn):e8 m p (List.range m):=⟨by simp,Ee m,λc d h=>by
 unfold eo at h;rw[p8,p8]at h;rw[h];exact .refl d⟩
def e8.IS{m:Nat}{p:dn}{L l:List Nat}(h:e8 m p L)(az:∀b∈l,b<m)(d:∀b∈l,∀c∈l,cH p b c):e8 m p (nM L l):=by
 have ae:∀b∈l,b<L.length:=λb a=>by rw[h.len];exact az b a
 have j:=BD h.jJ ae;exact⟨j.len.trans h.len,j.jJ,aaI h.jJ ae (cH.g0 p).eqv h.sub d⟩
def hY.zL{p:dn}{L L':List Nat}(h:hY p L)(j:hc L L'):hY p L':=⟨λN c a d b e=>j.le _ _ (h.h N c a d b e)⟩
def ND{m:Nat}{p:dn}{L:List Nat}(h:e8 m p L)(aS:hY p L)(aA:j9 p L):∀a b,eo L a b↔cH p a b:=by
 intro a b;refine⟨h.sub a b,cH.least (R:=eo L) ⟨(ow L).refl,(ow L).symm,(ow L).trans,?_,?_⟩⟩
 ·intro N a b e c d;exact aS.h N e a c b d
 ·intro s t k a b f c d;exact aA.h s t k a b f c d
def NC{m:Nat}{p:dn}{L:List Nat}(h:e8 m p L)(aS:hY p L)(aA:j9 p L):L=(List.range m).map (dr (cH p)):=by
 have:=h.jJ.LU (cH.g0 p).eqv λa b _ _=>ND h aS aA a b
 rwa[h.len]at this
def C_{R:Nat->Nat->Prop}(d:fl R){l:List Nat}{a:Nat}(h:a∈l)(az:∀b∈l,∀c∈l,R b c):k2 R l=et R a:=by
 cases l with
 |nil=>simp at h
 |cons b bs=>
  unfold k2;exact congrArg Int.ofNat ((sA d).2 (az b (by simp) a h))
def sW{p:dn}{R:Nat->Nat->Prop}{m r k a:Nat}:a∈kj p R m r k↔∃t,t<m/\R r t/\a∈p.ea t k:=by
 unfold kj;simp only[List.mem_flatMap,gI];constructor
 ·rintro⟨t,⟨ae,ah⟩,ak⟩;exact⟨t,ae,ah,ak⟩
 ·rintro⟨t,ae,ah,ak⟩;exact⟨t,⟨ae,ah⟩,ak⟩
def NP{p:dn}{m r k:Nat}:∀b∈kj p (cH p) m r k,∀c∈kj p (cH p) m r k,cH p b c:=by
 intro b a c aA;obtain⟨s,_,ae,ah⟩:=sW.1 a;obtain⟨t,_,ak,au⟩:=sW.1 aA;exact .field (.trans (.symm ae) ak) ah au
