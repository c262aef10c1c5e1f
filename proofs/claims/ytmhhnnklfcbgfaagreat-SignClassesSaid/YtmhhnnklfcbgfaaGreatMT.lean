/-
  Texts of one proof, laid together: Va Vb Vc ShL Vd Ya Hk2 Hk3 ShP Ku.
-/
import Derived.Test.YtmhhnnklfcbgfaaGreatMS
set_option linter.unusedVariables false
set_option linter.unusedSimpArgs false
set_option linter.defProp false
open Option renaming some→A,none→Z
open Bool renaming true→J,false→I
open Go.cw.af renaming int→D,str→X,bool→C
open Go.IntKind renaming i64→F
namespace Go.Proofs.YtmhhnnklfcbgfaaGreat
open Go.cw
open Nat (reduceAdd reduceLeDiff)
section
open Go.a_
set_option maxRecDepth 2000
noncomputable def oi(x:bC)(k:a_.dg)(f:Nat):List Nat:=match x.ay[f]? with
 |some c=>z2 x k f c
 |none=>[]
section
variable {x:bC}{k:a_.dg}{zX W0:Nat}{a b cc d ov nv fv gv uv d_ b5:af}
theorem M0(ar:right x=J){f:Nat}{co:bT}(aC:x.ay[f]? =A co){B:Nat}(l:W0<B){L3:af->af->af->ae->O}{Q:af->ae->Prop}{N:Nat}:∀(j i q:Nat) (H:ae) (v:af),i+j=co.vars.length->j<q->fI x k zX W0 a b cc d ov nv fv gv uv d_ b5 H->B<=H.next->aY aN B bb H (aQ ((List.range i).map λv=>bk x.ay f+v)) v->
  (∀(H':ae) (v:af),cl B H H'->aY aN B bb H' (aQ ((List.range co.vars.length).map λv=>bk x.ay f+v)) v->W (B7 (aK P aG) N L3 (.ptr zX 0 0) (.ptr W0 0 0) (D F (f:Nat)) v H') Q)->
  W (w4 (aK P aG) N L3 q (.ptr zX 0 0) (.ptr W0 0 0) (D F (f:Nat)) v (D F (i:Nat)) H) Q
 |_,_,0,_,_,_,aJ,_,_,_,_=>ad
 |j,i,q+1,H,v,aP,aJ,s,w,aw,fin=>by
  have h:=ga ar;have R:=(List.getElem?_eq_some_iff.1 aC).1;have U:=(ia (h.code aC)).vars;obtain⟨L,n,M,gw,m,y,bV,b9⟩:=s.ay.o0 (j:=(f:Int)) (g:=co) ad al;have o:=(y _ (au.refl _)).2.1
  match j,aP,aJ with
  |0,aP,_=>
   have S:¬(i:Int)<(co.vars.length:Int):=ad;refine bh @w4.eq_2 @B3.eq_1 (c9 s.aO) m o (bV.bg cS) ?_;obtain rfl:i=co.vars.length:=ad;exact fin H v (.refl _ _) aw
  |j+1,aP,aJ=>
   have on:=M0 ar aC l (L3:=L3) (Q:=Q) (N:=N) j (i+1) q;refine bh @w4.eq_2 @B3.eq_1 (c9 s.aO) m o (ag (bV.bg cS) (cn s.aO)) ?_;refine bw (Qd h s.aE (f:=f) (v:=i) ad ad) λH1 c=> ?_
   have T:=c.1;obtain⟨z,H',r,e,t,K⟩:=(aw.aB c).Fu (a:=bk x.ay f+i) ad al;refine bG @c2 r ?_;have pu:cl B H H':=(ek c w).trans t;have u:((List.range i).map λv=>bk x.ay f+v)++[bk x.ay f+i]=(List.range (i+1)).map λv=>bk x.ay f+v:=by grind[List.range_succ]
   rw[u]at e;exact on H' z ad ad (s.e3 pu l) ad e λp v2 E G=>fin p v2 (pu.trans E) G
theorem abU(a:hY (cf x) x.sites.length k)(i:In):(hO x k i).length<=k.count:=by
 unfold hO;split
 ·have:=zb k.fields [k.site i.n];rw[a.dD]at this;omega
 grind[FL]
theorem Oi{i:In}{c:Nat}(h:c∈hO x k i):c<k.fields.length:=by
 unfold hO at h;split at h
 ·exact(g_.1 h).1
 ·split at h
  ·exact FM h
  grind
def qg(k:a_.dg)(l:List Int):Prop:=fL l/\∀a∈l,0<=a/\a<k.fields.length
def qg.len{l:List Int}(h:qg k l):l.length<=k.fields.length:=Ai h.1 h.2
theorem VN{l:List Nat}(ar:fL (aQ l))(h:∀c∈l,c<k.fields.length):qg k (aQ l):=⟨ar,λa b=>by
 obtain⟨c,aA,rfl⟩:=List.mem_map.1 b;grind⟩
theorem VK{l:List Int}{m:List Nat}(h:qg k l)(hm:∀c∈m,c<k.fields.length):qg k (sj l (aQ m)):=⟨PM _ _,λa b=>by
 rcases NP.1 b with ah|ah
 ·exact h.2 a ah
 ·obtain⟨c,aA,rfl⟩:=List.mem_map.1 ah;grind⟩
theorem MX(ar:right x=J)(e:hY (cf x) x.sites.length k){f:Nat}{co:bT}(aC:x.ay[f]? =A co){H0:ae}(y:fI x k zX W0 a b cc d ov nv fv gv uv d_ b5 H0){M:Nat->Prop}(t:aH (bu aN) H0 M ((List.range x.ay.length).map λf=>aQ (dC x k f)) uv){L3:af->af->af->ae->O}{Q:af->ae->Prop}{N:Nat}:∀(j i q:Nat) (H:ae) (cur:List Int) (h:af),i+j=co.ins.length->j<q->au H0 H->aH aN H bb cur h->qg k cur->
  (∀(H':ae) (m:af),au H0 H'->aH aN H' bb (lD cur ((co.ins.drop i).map λi=>aQ (hO x k i))) m->W (B8 (aK P aG) N L3 (.ptr zX 0 0) (.ptr W0 0 0) (D F (f:Nat)) m H') Q)->
  W (w3 (aK P aG) N L3 q (.ptr zX 0 0) (.ptr W0 0 0) (D F (f:Nat)) h (D F (i:Nat)) H) Q
 |_,_,0,_,_,_,_,aJ,_,_,_,_=>ad
 |j,i,q+1,H,cur,h,aP,aJ,p,aA,o,fin=>by
  have l:=ga ar;have s:=y.aB p;have E:=l.sites;have aj:=e.dD;have ai:=e.mi;have aa:=(List.getElem?_eq_some_iff.1 aC).1;have ab:=pI ar;have ah:=qK (List.mem_of_getElem? aC);obtain⟨L,n,Y,gw,v,S,bV,b9⟩:=s.ay.o0 (j:=(f:Int)) (g:=co) ad al;have w:=(S _ (au.refl _)).2.2
  match j,aP,aJ with
  |0,aP,_=>
   have ak:¬(i:Int)<(co.ins.length:Int):=ad;refine bh @w3.eq_2 @B2.eq_1 (c9 s.aO) v w (b9.bg eP) ?_;rw[List.drop_of_length_le ad]at fin;exact fin H h p aA
  |j+1,aP,aJ=>
   have r:i<co.ins.length:=ad;obtain⟨L2,ap,wi,T,U,V⟩:=b9.uK (j:=(i:Int)) (i:=co.ins[i]) ad al;have B:dY x f co co.ins[i]=true:=(ia (l.code aC)).ins (List.getElem_mem r);have on:=MX ar e aC y t (L3:=L3) (Q:=Q) (N:=N) j (i+1) q;rw[List.drop_eq_getElem_cons r,List.map_cons,lD]at fin;generalize co.ins[i]=ins at*;refine bh @w3.eq_2 @B2.eq_1 (c9 s.aO) v w (ag (b9.bg eP) (ag T (U _ (au.refl _)))) ?_;refine e2 (aj0 l e E aC B V s (t.aB p)) λaq H1 G u=> ?_
   have am:=o.len;have an:=abU e ins;refine e2 (acO (aA.aB u) G ad (by rw[g1];omega)) ?_;rintro bv z ⟨K,_⟩ R;refine bN ?_;exact on z _ bv ad ad ((p.trans u).trans R) K.any (VK o λc aA=>Oi aA) fin
theorem MY(ar:right x=J)(e:hY (cf x) x.sites.length k){E:Nat}(M:W0<E){N:Nat}(ax:4100<N):∀(j i q:Nat) (H:ae) (b5:af),i+j=x.ay.length->j<q->fI x k zX W0 a b cc d ov nv fv gv uv d_ b5 H->E<=H.next->aH aN H (λq=>W0<q/\q<E) (aQ (ie x k)) gv->aH (bu aN) H (λq=>W0<q/\q<E) ((List.range x.ay.length).map λf=>aQ (dC x k f)) uv->aY (bu aN) E (E<= ·) H ((List.range i).map λf=>aQ (oi x k f)) b5->
  W (w2 (aK P aG) N q (.ptr zX 0 0) (.ptr W0 0 0) (D F (i:Nat)) H) λr H'=>r= .ptr W0 0 0/\∃wv',fI x k zX W0 a b cc d ov nv fv gv uv d_ wv' H'/\aY (bu aN) E (E<= ·) H' ((List.range x.ay.length).map λf=>aQ (oi x k f)) wv'/\H.next<=H'.next/\∀q,q<E->q≠W0->H'.get q=H.get q
 |_,_,0,_,_,_,aJ,_,_,_,_,_=>ad
 |0,i,q+1,H,b5,aP,_,s,L,aS,hu,aw=>by
  have bn:¬(i:Int)<(x.ay.length:Int):=ad;refine c_ @w2.eq_2 @B1.eq_1 @p0.eq_1 (c9 s.aO) (s.ay.bg cD) ?_;grind[aD]
 |j+1,i,q+1,H,b5,aP,aJ,s,L,aS,hu,aw=>by
  have t:=ga ar;have be:=t.ay;have aM:=t.sites;have bm:=e.dD;have bl:=e.mi;have aF:i<x.ay.length:=ad;have aC:x.ay[i]? =A x.ay[i]:=al;have bf:=(ia (t.code aC)).vars;have on:=MY ar e M ax j (i+1) q;have bo:oi x k i=z2 x k i x.ay[i]:=by grind[oi]
  have aI:dC x k i=mI x k i x.ay[i]:=by grind[dC]
  have bp:∀v,v<x.ay[i].vars.length->bk x.ay i+v<cf x:=λv T=>by
   have:=rQ aC T;grind[cf]
  have bi:=pI ar;have bj:=qK (List.getElem_mem aF);generalize x.ay[i]=co at*;have a5:=fB (show i<=1000000000 by omega);have bq:=s.lt;refine cv @w2.eq_2 @B1.eq_1 (c9 s.aO) (s.ay.bg cD) ?_;refine M0 ar aC (B:=H.next) ad co.vars.length 0 N H .ao ad ad s Nat.le.refl (aY.nil _ _ _ _) ?_;intro H1 v1 a0 aT;have ah:au H H1:=a0.aB;have s1:=s.aB ah;simp-implicitDefEqProofs(disch:=try exact aW)only[B7];refine cK (IQ e aM al (λv T=> ?_) s1 aT.az) ?_
  ·grind
  rintro a1 ap ⟨aU,w⟩;refine⟨w.1,?_⟩;have s2:=s1.aB w;have aa:=ah.trans w;have O:qg k (aQ (fE k.fields (((List.range co.vars.length).map λv=>bk x.ay i+v).map k.node))):=VN (PS _ _) λc aA=>(g_.1 aA).1
  refine MX ar e aC s2 (hu.aB aa) co.ins.length 0 N ap _ a1 ad ad (.refl _) aU.az O ?_;intro y a_ ai V;rw[List.drop_zero]at V;have gb:=s2.aB ai;have m:=aa.trans ai;have S:fL (lD (aQ (fE k.fields (((List.range co.vars.length).map λv=>bk x.ay i+v).map k.node))) (co.ins.map λi=>aQ (hO x k i))):=PN O.1;have Q:∀z,z∈lD (aQ (fE k.fields (((List.range co.vars.length).map λv=>bk x.ay i+v).map k.node))) (co.ins.map λi=>aQ (hO x k i))↔∃n:Nat,z=n/\(g4 k.fields ((List.range co.vars.length).map λv=>k.node (bk x.ay i+v)) n\/∃i∈co.ins,n∈hO x k i):=by
   intro z;rw[NQ,List.map_map];simp only[List.mem_map,aQ];constructor
   ·rintro(⟨n,aL,rfl⟩|⟨_,⟨ii,aE,rfl⟩,h⟩)
    ·exact⟨n,rfl,.inl (Fg.1 aL)⟩
    grind
   ·rintro⟨n,rfl,h|⟨ii,aE,h⟩⟩
    ·exact .inl ⟨n,Fg.2 h,rfl⟩
    grind
  have hlen:(lD (aQ (fE k.fields (((List.range co.vars.length).map λv=>bk x.ay i+v).map k.node))) (co.ins.map λi=>aQ (hO x k i))).length<=k.fields.length:=Ai S λz aR=>by
   obtain⟨n,rfl,h⟩:=(Q z).1 aR;rcases h with h|⟨ii,_,h⟩
   ·have:=(g_.1 (Fg.2 h)).1;omega
   ·have:=Oi h;omega
  have bc:hN (hN (lD (aQ (fE k.fields (((List.range co.vars.length).map λv=>bk x.ay i+v).map k.node))) (co.ins.map λi=>aQ (hO x k i))) (aQ (ie x k))) (aQ (mI x k i co))=aQ (z2 x k i co):=acw aC _ S Q;generalize lD (aQ (fE k.fields (((List.range co.vars.length).map λv=>bk x.ay i+v).map k.node))) (co.ins.map λi=>aQ (hO x k i))=ol at*;simp-implicitDefEqProofs(disch:=try exact aW)only[B8];refine e2 (aj1 gb V (aS.aB m) (hu.aB m) (f:=i) (u:=aQ (dC x k i)) al ad (by grind[g1,zb,ie]) (by grind[g1,FL])) λak G aV aj=> ?_
  rw[aI]at aV;have Y:aY aN y.next bb G (aQ (oi x k i)) ak:=al
  have am:=gb.aB aj;have ab:=m.trans aj;have aX:eB (.ptr W0 0 0)=A (.ptr W0 0 0):=rfl;obtain⟨l,H',aq,p,K,ba⟩:=aw.sd dP L ab ((Y.kJ fx).keep (.le λq (aJ:y.next<=q)=>by show H.next<=q;have:=m.1;omega)) al;have aZ:=au.push G (.row I 1 [[ak]]);have a3:=am.aB aZ;have a2:bF (A b5) b5=true:=by simp[bF,aw.az.rd]
  have an:=s.e3 K M;have st:=ahE (v:=l) an.cQ p.az.one;refine bh aX (gQ am.cQ) (λz0=>rH z0 Y.az.one) aq st (ag (gQ gb.cQ) (ag (gQ a3.cQ) (ag a2 (ag @p1.eq_1 a5)))) ?_;have o:∀q,q≠W0->(H'.set W0 (.row I 13 [e9 a b cc d x.main k.count ov nv fv gv uv d_ l])).get q=H'.get q:=λq aJ=>ae.b8 (Ne.symm aJ)
  have bd:=ab.1;have fy:∀q,q<E->q≠W0->(H'.set W0 (.row I 13 [e9 a b cc d x.main k.count ov nv fv gv uv d_ l])).get q=H.get q:=λq aJ R=>by rw[o q R,K.2 q aJ]
  have av:((List.range i).map λf=>aQ (oi x k f))++[aQ (oi x k i)]=(List.range (i+1)).map λf=>aQ (oi x k f):=by grind[List.range_succ]
  rw[av]at p;have U:dm H (λq=>W0<q/\q<E) (H'.set W0 (.row I 13 [e9 a b cc d x.main k.count ov nv fv gv uv d_ l])) (λq=>W0<q/\q<E):=λq c aJ g=>⟨aJ,al⟩
  refine(on _ l ad ad an.set (by simp;omega) (aS.keep U) (hu.keep U) (p.keep λq c (aJ:E<=q) g=>⟨aJ,al⟩)).mono ?_;rintro r a9 ⟨rfl,a4,a6,a7,a8,br⟩;exact⟨rfl,a4,a6,a7,by simp at a8;omega,λq aJ R=>al⟩
end
end
section
open Go.a_
set_option maxRecDepth 2000
structure Tj(x:bC)(zX W0:Nat)(a b cc d ov nv fv gv uv d_ b5:af)(H:ae):Prop where
 aV:fI x (a_.hf x) zX W0 a b cc d ov nv fv gv uv d_ b5 H
 aS:aH aN H (W0< ·) (aQ (ie x (a_.hf x))) gv
 hu:aH (bu aN) H (W0< ·) ((List.range x.ay.length).map λf=>aQ (dC x (a_.hf x) f)) uv
 ba:aH (bu aN) H (W0< ·) ((List.range x.ay.length).map λf=>aQ (yo x (a_.hf x) f)) d_
 hw:aH (bu aN) H (W0< ·) ((List.range x.ay.length).map λf=>aQ (oi x (a_.hf x) f)) b5
section
variable {x:bC}{H:ae}{ok:Nat->Prop}
theorem aad(ar:right x=J){V:af}(aE:cA H ok x V):W (aK P aG 39 [V] H) λr H'=>∃zX W0 a b cc d ov nv fv gv uv d_ b5,r= .ptr W0 0 0/\Tj x zX W0 a b cc d ov nv fv gv uv d_ b5 H'/\au H H':=by
 have p:=ga ar;have R:=aE;have m:=y0 x;have aV:=p.sites;have bi:=p.ay;have bj:=p.globals;obtain⟨_,rfl,a,b,cc,d,rfl,ah,ai,ax,aM⟩:=aE;refine afd 5000 ?_;obtain⟨zX,N⟩:∃zX,zX=H.next:=⟨_,rfl⟩
 have ab:=au.push H (.row I 5 [[a,b,cc,d,D F x.main]]);have l:=ae.a2 H (.row I 5 [[a,b,cc,d,D F x.main]]);have w:(H.push (.row I 5 [[a,b,cc,d,D F x.main]])).next=zX+1:=by rw[N];rfl
 refine b3 @Ra.eq_1 (dV ah ai ax aM) (cn l) ?_;refine e2 (Pr ar (R.aB ab)) ?_;rintro _ h ⟨ov,nv,fv,rfl,a1,bd,bn,bI⟩ y;rw[<-N]at l ⊢;have K:=y.get l;generalize aU:a_.hf x=k at*;have ap:ei P 78 [(0,.agg [a,b,cc,d,D F x.main]),(1,.agg (a7 k.count ov nv fv))]=A (.agg (e9 a b cc d x.main k.count ov nv fv .ao .ao .ao .ao)):=J1;have aq:fj h.next (.agg (e9 a b cc d x.main k.count ov nv fv .ao .ao .ao .ao))=A (.ptr h.next 0 0,.row I 13 [e9 a b cc d x.main k.count ov nv fv .ao .ao .ao .ao]):=by
  have av:=ah.one;have aw:=ai.one;have aA:=ax.one;have aC:=aM.one;have aD:=a1.one;have aF:=bd.one;have aI:=bn.one;simp[fj,af.cells,e9,av,aw,aA,aC,aD,aF,aI];rfl
 have bc:bF (A (.agg [a,b,cc,d,D F x.main])) (.agg [a,b,cc,d,D F x.main])=true:=by simp[bF,af.beq,e6.beq,ah.rd,ai.rd,ax.rd,aM.rd]
 have z:=au.push h (.row I 13 [e9 a b cc d x.main k.count ov nv fv .ao .ao .ao .ao]);have cQ:=ae.a2 h (.row I 13 [e9 a b cc d x.main k.count ov nv fv .ao .ao .ao .ao]);refine c_ (cn K) ap aq (cn l) bc ?_;obtain⟨W0,M⟩:∃W0,W0=h.next:=⟨_,rfl⟩
 have bl:(h.push (.row I 13 [e9 a b cc d x.main k.count ov nv fv .ao .ao .ao .ao])).next=W0+1:=by rw[M];rfl
 rw[<-M]at cQ ⊢;have bb:=ab.trans y;have aa:=bb.trans z;have aT:zX<W0:=by have:=y.1;omega
 have S:fI x k zX W0 a b cc d ov nv fv .ao .ao .ao .ao (h.push (.row I 13 [e9 a b cc d x.main k.count ov nv fv .ao .ao .ao .ao])):=by
  have t:dm h (λL=>zX+1<=L) (h.push (.row I 13 [e9 a b cc d x.main k.count ov nv fv .ao .ao .ao .ao])) (· <W0):=λq c _ g=>⟨by have:=ae.bq g;omega,z.get g⟩
  refine⟨z.get K,cQ,R.keep λq c _ g=>⟨by have:=ae.bq g;omega,aa.get g⟩,?_,?_,?_,aT⟩
  ·exact a1.keep (w▸t)
  ·exact bd.keep (w▸t)
  ·exact bn.keep (w▸t)
 generalize h.push (.row I 13 [e9 a b cc d x.main k.count ov nv fv .ao .ao .ao .ao])=aj at*;refine MW ar (B:=W0+1) ad x.globals.length 0 _ aj .ao ad ad S ad (aY.nil _ _ _ _) ?_;intro ak v4 G a5;have T:=S.e3 G ad;have a9:eB (.ptr W0 0 0)=A (.ptr W0 0 0):=rfl;simp-implicitDefEqProofs(disch:=try exact aW)only[B5];refine cK (IQ m aV al (λv bk=> ?_) T a5.az) ?_
 ·grind[ew,cf]
 rintro gv e ⟨u,o⟩;refine⟨o.1,?_⟩;have U:=T.aB o;have aL:((List.range x.globals.length).map (ew x)).map k.node=(List.range x.globals.length).map λg=>k.node (ew x g):=by rw[List.map_map];rfl
 rw[aL]at u;have st:=ahF (v:=gv) U.cQ u.az.one;have aZ:=U.set (gv':=gv) (uv':= .ao) (tv':= .ao) (wv':= .ao);have ba:∀q,q≠W0->(e.set W0 (.row I 13 [e9 a b cc d x.main k.count ov nv fv gv .ao .ao .ao])).get q=e.get q:=λq aJ=>ae.b8 (Ne.symm aJ)
 have n6:(e.set W0 (.row I 13 [e9 a b cc d x.main k.count ov nv fv gv .ao .ao .ao])).next=e.next:=rfl
 have hle:e.next<=(e.set W0 (.row I 13 [e9 a b cc d x.main k.count ov nv fv gv .ao .ao .ao])).next:=Nat.le.refl
 refine bG a9 st ?_;have be:=G.1;have bf:=o.1;have O:aH aN (e.set W0 (.row I 13 [e9 a b cc d x.main k.count ov nv fv gv .ao .ao .ao])) (λq=>W0<q/\q<e.next) (aQ (ie x k)) gv:=(u.kJ fx).keep λq c (aJ:ak.next<=q) g=>⟨⟨ad,ae.bq g⟩,al⟩
 generalize e.set W0 (.row I 13 [e9 a b cc d x.main k.count ov nv fv gv .ao .ao .ao])=am at*;refine MV ar m (E:=e.next) ad ad x.ay.length 0 _ am .ao ad ad aZ ad O (aY.nil _ _ _ _) ?_;intro i uv a0 bg aO a6;have Q:aH aN i (λq=>W0<q/\q<i.next) (aQ (ie x k)) gv:=O.keep λq c aJ g=>⟨⟨aJ.1,ad⟩,al⟩
 have s:aH (bu aN) i (λq=>W0<q/\q<i.next) ((List.range x.ay.length).map λf=>aQ (dC x k f)) uv:=a6.az.keep λq c (aJ:e.next<=q) g=>⟨⟨ad,ae.bq g⟩,g⟩
 simp-implicitDefEqProofs(disch:=try exact aW)only[rq];refine cK (aiI ar m a0 s ad Nat.le.refl) ?_;rintro _ j ⟨rfl,d_,a3,aX,aS,aP⟩;refine⟨aS,?_⟩;have n:dm i (λq=>W0<q/\q<i.next) j (λq=>W0<q/\q<j.next):=λq c aJ g=>⟨⟨aJ.1,ad⟩,al⟩
 refine(MY ar m (E:=j.next) ad ad x.ay.length 0 _ j .ao ad ad a3 Nat.le.refl (Q.keep n) (s.keep n) (aY.nil _ _ _ _)).mono ?_;rintro r an ⟨rfl,b5,a4,a8,bh,aR⟩;have Y:dm j (λq=>W0<q/\q<j.next) an (W0< ·):=λq c aJ g=>⟨aJ.1,al⟩
 subst aU;refine⟨_,_,_,_,_,_,_,_,_,_,_,_,_,rfl,⟨a4,(Q.keep n).keep Y,(s.keep n).keep Y,aX.keep λq c (aJ:i.next<=q) g=>⟨ad,by grind[ae.bq]⟩,a8.az.keep λq c (aJ:j.next<=q) g=>⟨ad,g⟩⟩,ad,λq aJ=> ?_⟩;rw[aR q ad ad,aP q ad ad,aO q ad ad,ba q ad,o.2 q ad,G.2 q ad,aa.2 q aJ]
end
end
section
open Go.a_
set_option maxRecDepth 2000
def ub(x:bC):Prop:=(∀g∈x.ay,g.vars.length<=1000000000)/\∀c∈x.ay,c.ins.length<=1000000000
noncomputable def lF(x:bC):a_.dg:=if right x=J then a_.hf x else⟨0,[],[],[]⟩
noncomputable def pa(x:bC):List Int:=if right x=J then aQ (ie x (a_.hf x))else[]
section
variable {x:bC}{H:ae}{ok:Nat->Prop}
def KD(H:ae)(ok:Nat->Prop):hX H ok ⟨0,[],[],[]⟩ (.agg [D F 0,.ao,.ao,.ao]):=⟨.ao,.ao,.ao,rfl,.nil,.nil,.nil,λL i n e c h=>by cases h⟩
theorem agk(aC:ub x){V:af}(aE:cA H ok x V):W (aK P aG 11 [V] H) λr H'=>hX H' bb (lF x) r/\au H H':=by
 by_cases ar:right x=J
 ·grind[lF,agl]
 ·have e:lF x=⟨0,[],[],[]⟩:=if_neg ar;have w:right x=false:=al;rw[e];have y:=aE;obtain⟨_,rfl,a,b,cc,d,rfl,ah,ai,ax,aM⟩:=aE;refine P8 0 ?_;obtain⟨zX,f⟩:∃zX,zX=H.next:=⟨_,rfl⟩
  have E:=au.push H (.row I 5 [[a,b,cc,d,D F x.main]]);have u:=ae.a2 H (.row I 5 [[a,b,cc,d,D F x.main]]);have o:=au.push (H.push (.row I 5 [[a,b,cc,d,D F x.main]])) (.row I 4 [a7 0 .ao .ao .ao]);have g:=ae.a2 (H.push (.row I 5 [[a,b,cc,d,D F x.main]])) (.row I 4 [a7 0 .ao .ao .ao]);have i:=o.get u;have p:(H.push (.row I 5 [[a,b,cc,d,D F x.main]])).next=zX+1:=by rw[f];simp
  have G:∀(k:af->ae->O),e5 (H.push (.row I 5 [[a,b,cc,d,D F x.main]])) [D F 0,.ao,.ao,.ao] k=k (.ptr (zX+1) 0 0) ((H.push (.row I 5 [[a,b,cc,d,D F x.main]])).push (.row I 4 [a7 0 .ao .ao .ao])):=λk=>by rw[iL,iN,p];rfl
  rw[p]at g;rw[<-f]at i;simp only[Av,dV ah ai ax aM,kM,G,<-f];have l:=E.trans o;generalize v:(H.push (.row I 5 [[a,b,cc,d,D F x.main]])).push (.row I 4 [a7 0 .ao .ao .ao])=s at*;have K:s.next=zX+2:=by rw[<-v];simp[f]
  refine bP (cn i) ?_;refine bw (n_ (y.aB l) aC.1 aC.2) λc m=> ?_
  rw[w];have h:=m.get g;have st:cr P c 33 (.ptr (zX+1) 0 0) (.agg [D F 0,.ao,.ao,.ao])=A (c.set (zX+1) (.row I 4 [a7 0 .ao .ao .ao])):=i_ (n:=0) h rfl rfl rfl rfl;have z:=ae.bq h;have t:(c.set (zX+1) (.row I 4 [a7 0 .ao .ao .ao])).get (zX+1)=A (.row I 4 [a7 0 .ao .ao .ao]):=ae.cH z;have B:∀q,q≠zX+1->(c.set (zX+1) (.row I 4 [a7 0 .ao .ao .ao])).get q=c.get q:=(by grind[ae.b8]);refine bG st (iE t) ?_;have j:=l.trans m;exact aD.2 ⟨KD _ _,by have:=j.1;simpa using this,λq aJ=>by rw[B q ad,j.2 q aJ]⟩
theorem acQ(aC:ub x){V:af}(aE:cA H ok x V):W (aK P aG 12 [V] H) λr H'=>hX H' bb (lF x) r/\au H H':=by
 have w:=aE;obtain⟨_,rfl,a,b,cc,d,rfl,ah,ai,ax,aM⟩:=aE;refine adJ 0 ?_;obtain⟨zX,i⟩:∃zX,zX=H.next:=⟨_,rfl⟩
 have S:=au.push H (.row I 5 [[a,b,cc,d,D F x.main]]);have M:=ae.a2 H (.row I 5 [[a,b,cc,d,D F x.main]]);have E:=au.push (H.push (.row I 5 [[a,b,cc,d,D F x.main]])) (.row I 4 [a7 0 .ao .ao .ao]);have m:=ae.a2 (H.push (.row I 5 [[a,b,cc,d,D F x.main]])) (.row I 4 [a7 0 .ao .ao .ao]);have o:=E.get M;have G:(H.push (.row I 5 [[a,b,cc,d,D F x.main]])).next=zX+1:=by rw[i];simp
 have T:∀(k:af->ae->O),e5 (H.push (.row I 5 [[a,b,cc,d,D F x.main]])) [D F 0,.ao,.ao,.ao] k=k (.ptr (zX+1) 0 0) ((H.push (.row I 5 [[a,b,cc,d,D F x.main]])).push (.row I 4 [a7 0 .ao .ao .ao])):=λk=>by rw[iL,iN,G];rfl
 rw[G]at m;rw[<-i]at o;simp only[Qp,dV ah ai ax aM,kM,T,<-i];have j:=S.trans E;generalize Q:(H.push (.row I 5 [[a,b,cc,d,D F x.main]])).push (.row I 4 [a7 0 .ao .ao .ao])=K at*;have Y:K.next=zX+2:=by rw[<-Q];simp[i]
 refine bP (cn o) ?_;refine bw (F1 (w.aB j) aC.1 aC.2) λc f=> ?_
 have u:=f.get m;by_cases ar:right x=J
 ·have e:lF x=a_.hf x:=if_pos ar;rw[e,ar];have N:=f.get o;refine bP (cn N) ?_;refine e2 (Pr ar (w.aB (j.trans f))) ?_;rintro _ h ⟨ov,nv,fv,rfl,a1,bd,bn,bI⟩ B;have v:=(f.trans B).get m;generalize a_.hf x=k at*;have st:=i_ (n:=k.count) v rfl a1.one bd.one bn.one;have s:=ae.bq v;have l:(h.set (zX+1) (.row I 4 [a7 k.count ov nv fv])).get (zX+1)=A (.row I 4 [a7 k.count ov nv fv]):=ae.cH s;have t:∀q,q≠zX+1->(h.set (zX+1) (.row I 4 [a7 k.count ov nv fv])).get q=h.get q:=λq aJ=>ae.b8 (Ne.symm aJ)
  refine bG st (iE l) ?_;have U:=f.1;have p:dm h (λL=>c.next<=L) (h.set (zX+1) (.row I 4 [a7 k.count ov nv fv])) bb:=λq b (aJ:c.next<=q) g=>⟨trivial,al⟩
  have z:=j.trans (f.trans B);exact aD.2 ⟨⟨_,_,_,rfl,a1.keep p,bd.keep p,bn.keep p,bI⟩,by have:=z.1;simpa using this,λq aJ=>by rw[t q ad,z.2 q aJ]⟩
 ·have e:lF x=⟨0,[],[],[]⟩:=if_neg ar;have R:right x=false:=al;rw[e,R];have st:cr P c 33 (.ptr (zX+1) 0 0) (.agg [D F 0,.ao,.ao,.ao])=A (c.set (zX+1) (.row I 4 [a7 0 .ao .ao .ao])):=i_ (n:=0) u rfl rfl rfl rfl;have s:=ae.bq u;have l:(c.set (zX+1) (.row I 4 [a7 0 .ao .ao .ao])).get (zX+1)=A (.row I 4 [a7 0 .ao .ao .ao]):=ae.cH s;have t:∀q,q≠zX+1->(c.set (zX+1) (.row I 4 [a7 0 .ao .ao .ao])).get q=c.get q:=λq aJ=>ae.b8 (Ne.symm aJ)
  refine bG st (iE l) ?_;have y:=j.trans f;exact aD.2 ⟨KD _ _,by have:=y.1;simpa using this,λq aJ=>by rw[t q ad,y.2 q aJ]⟩
theorem agA(aC:ub x){V:af}(aE:cA H ok x V):W (aK P aG 14 [V] H) λr H'=>aH aN H' bb (pa x) r/\au H H':=by
 by_cases ar:right x=J
 ·grind[pa,agB]
 ·have e:pa x=[]:=if_neg ar;rw[e];have g:=aE;obtain⟨_,rfl,a,b,cc,d,rfl,ah,ai,ax,aM⟩:=aE;refine P9 0 ?_;have c:=au.push H (.row I 5 [[a,b,cc,d,D F x.main]]);have f:=ae.a2 H (.row I 5 [[a,b,cc,d,D F x.main]]);refine b3 @A6.eq_1 (dV ah ai ax aM) (cn f) ?_;refine bw (ajK aC.1 aC.2 al (g.aB c)) λK p=> ?_
  have ne:bx P .neq 73 J .ho .ho=A (C I):=aF;refine bP ne ?_;exact aD.2 ⟨.nil,c.trans p⟩
theorem adb(aC:ub x){V:af}(aE:cA H ok x V):W (aK P aG 15 [V] H) λr H'=>aH aN H' bb (pa x) r/\au H H':=by
 have g:=aE;obtain⟨_,rfl,a,b,cc,d,rfl,ah,ai,ax,aM⟩:=aE;refine ad7 0 ?_;have c:=au.push H (.row I 5 [[a,b,cc,d,D F x.main]]);have f:=ae.a2 H (.row I 5 [[a,b,cc,d,D F x.main]]);refine b3 @Qy.eq_1 (dV ah ai ax aM) (cn f) ?_;refine bw (F1 (g.aB c) aC.1 aC.2) λK p=> ?_
 by_cases ar:right x=J
 ·have e:pa x=aQ (ie x (a_.hf x)):=if_pos ar;rw[e,ar];refine bP (cn (p.get f)) ?_;refine cK (aad ar (g.aB (c.trans p))) ?_;rintro _ k ⟨zX,W0,b1,b',l,m,ov,nv,fv,gv,uv,d_,b5,rfl,s,h⟩;refine⟨h.1,?_⟩;have j:eB (.ptr W0 0 0)=A (.ptr W0 0 0):=rfl;refine bG j (gQ s.aV.cQ) ?_;exact aD.2 ⟨s.aS.any,c.trans (p.trans h)⟩
 ·have e:pa x=[]:=if_neg ar;have i:right x=false:=al;rw[e,i];refine bN ?_;exact aD.2 ⟨.nil,c.trans p⟩
end
end
section
set_option maxRecDepth 100000
set_option maxHeartbeats 4000000
noncomputable section
def gb(G:aq):g5 Tryz.f3 G:=⟨_,λN=>o1 an (x:=trivial)⟩
def tM(G:aq)(N:Nat):hJ Tryz.f9 G N (·.aa.aa.aa) (a8 Tryz.f9) []:=⟨_,v0 an⟩
def tL(G:aq)(N:Nat)(L1:T2):gG 1 3 Tryz.f9 G N (·.aa.aa.aj.aa.aj.aj) (bd L1 1 3) [(0,(br (tM G N)))]:=⟨_,v2 an⟩
def rB(G:aq)(N:Nat):Nat->T2
 |0=>m2
 |n+1=>tL G N (rB G N n)
def nF(G:aq)(N:Nat):fM Tryz.f9 G N:=⟨_,t1 (ak (ak (ak ((tM G N).2) (ak (bj (bH (λm=>(tL G N (rB G N m)).2))) an)) an) an)⟩
def afI(N:Nat):=en Tryz.func9 λG=>(nF G N).2
def Qf(G:aq):eO Tryz.f10 G:=⟨_,λN=>t2 an⟩
def adw(N:Nat):=c1 Tryz.func10 λG=>(Qf G).2 N
def QP(G:aq):uf Tryz.f16 G:=⟨λH=>ea H (G 33 [X [114,101,99,111,114,100,32,82,32,123,32,110,58,32,82,59,32,125,32,102,117,110,99,32,102,40,114,58,32,82,41,58,32,82,32,123,32,114,101,116,117,114,110,32,114,46,110,59,32,125,32,102,117,110,99,32,109,97,105,110,40,41,32,123,32,108,101,116,32,97,58,32,82,32,61,32,110,101,119,32,82,59,32,97,46,110,32,61,32,110,101,119,32,82,59,32,108,101,116,32,98,58,32,82,32,61,32,102,40,97,41,59,32,105,102,32,98,32,61,61,32,110,117,108,108,32,82,32,123,32,112,114,105,110,116,32,49,59,32,125,32,112,114,105,110,116,32,50,59,32,125]] H) λx7 ah=>aU (iS x7 0) λx8=>aU (iS x7 1) λx9=>e5 ah [af.ao,af.ao,af.ao] λx1 ai=>e5 ai [D F 0,D F 0] λx2 ax=>gp ax (cr P ax 62 x1 x8) λaM=>gp aM (cr P aM 65 x2 x9) λn=>aU (aI P n 62 x1) λx11=>ea n (G 34 [x11] n) λx12 R=>aU (iS x12 0) λT=>aU (iS x12 1) λU=>e5 R [af.ao,af.ao,af.ao,af.ao,D F 0] λx3 S=>e5 S [D F 0,D F 0] λx4 E=>gp E (cr P E 27 x3 T) λK=>gp K (cr P K 65 x4 U) λe=>aU (aI P e 27 x3) λV=>ea e (G 11 [V] e) λW M=>e5 M [D F 0,af.ao,af.ao,af.ao] λx5 o=>gp o (cr P o 33 x5 W) λf=>aU (bO P 33 x5 0) λY=>aU (aI P f 3 Y) λaa=>aU (bx P .eql 3 J aa (D F 2)) λc=>bW c J f (qr (aI P f 27 x3)) λab g=>bW c J g (λq=>eb g (G 22 [ab,D F 0] g) q) λad p=>bW c J p (λq=>jA (A (.az (p).next 0 2 1 (A 2),.row I 1 [[D F 0],[D F 1]])) q) λae h=>bW c J h (λq=>eb h (G 13 [ad,ae] h) q) λaj r=>aU (dt c (A aj) (A (C I))) λa=>bW a J r (qr (aI P r 27 x3)) λak i=>bW a J i (λq=>eb i (G 20 [ak] i) q) λal s=>bW a J s (λq=>jA (A (.az (s).next 0 0 1 (A 0),.row I 1 [])) q) λam t=>bW a J t (λq=>jA (A (.az (t).next 0 2 1 (A 2),.row I 1 [[D F 0],[D F 1]])) q) λap u=>bW a J u (λq=>jA (gB P (u).next 31 2 [(0,am),(1,ap)]) q) λar j=>bW a J j (λq=>eb j (G 17 [al,ar] j) q) λav v=>aU (dt a (A av) (A (C I))) λb=>bW b J v (qr (aI P v 27 x3)) λaw k=>bW b J k (λq=>eb k (G 18 [aw] k) q) λay w=>bW b J w (λq=>jA (A (.az (w).next 0 0 1 (A 0),.row I 1 [])) q) λaA x=>bW b J x (λq=>jA (A (.az (x).next 0 0 1 (A 0),.row I 1 [])) q) λaB y=>bW b J y (λq=>jA (gB P (y).next 31 2 [(0,aA),(1,aB)]) q) λaC l=>bW b J l (λq=>eb l (G 17 [ay,aC] l) q) λaD z=>aU (dt b (A aD) (A (C I))) λd=>bW d J z (qr (aI P z 27 x3)) λaE m=>bW d J m (λq=>eb m (G 14 [aE] m) q) λL B=>bW d J B (λq=>iM (bE P .empty .len [30] [L]) (bE P B .len [30] [L]) q) λaF O=>bW d J O (ck (bx P .eql 3 J aF (D F 0))) λaG Q=>aU (dt d (A aG) (A (C I))) λaH=>A (aH,Q),λN=>M1 an⟩
end
end
section
open Go.a_
set_option maxRecDepth 2000
structure Small(x:bC):Prop where
 b_:x.b_.length<=20
 globals:x.globals.length<=20
 ay:x.ay.length<=20
 sites:x.sites.length<=80
 code:∀c∈x.ay,c.vars.length<=150/\c.ins.length<=150
def Small.y_{x:bC}(h:Small x):ub x:=⟨λc aA=>by have:=(h.code c aA).1;omega,λc aA=>by have:=(h.code c aA).2;omega⟩
section
variable {x:bC}{H:ae}{ok:Nat->Prop}
theorem Mg{a b cc d:af}{zX:Nat}(i:x.ay.length<=20)(aE:aH gf H ok x.ay cc)(aO:H.get zX=A (.row I 5 [[a,b,cc,d,D F x.main]])){N:Nat}:∀(j k m:Nat),k+j=x.ay.length->j<m->(∀c∈x.ay.take k,c.vars.length<=150/\c.ins.length<=150)->
  W (rB (aK P aG) N m (.ptr zX 0 0) (D F (k:Nat)) H) λr H'=>(∃q,r= C q/\(q=I->∀c∈x.ay,c.vars.length<=150/\c.ins.length<=150))/\H'=H
 |_,_,0,_,hm,_=>ad
 |0,k,m+1,l,_,o=>by
  have e:¬(k:Int)<(x.ay.length:Int):=ad;have lc:∀H0,bE P H0 .len [24] [cc]=A (D F x.ay.length):=λH0=>aE.len cD
  refine bh @tM.eq_1 @tL.eq_1 @rB.eq_2 @nF.eq_1 (c9 aO) lc ?_;grind[aD]
 |j+1,k,m+1,l,s,o=>by
  have e:(k:Int)<(x.ay.length:Int):=ad;have p:k<x.ay.length:=ad;have lc:∀H0,bE P H0 .len [24] [cc]=A (D F x.ay.length):=λH0=>aE.len cD
  obtain⟨L,n,gv,gw,f,h,bV,b9⟩:=aE.o0 (j:=(k:Int)) (g:=x.ay[k]) ad al;have lv:∀H0,bE P H0 .len [23] [gv]=A (D F x.ay[k].vars.length):=λH0=>bV.len cS
  have li:∀H0,bE P H0 .len [47] [gw]=A (D F x.ay[k].ins.length):=λH0=>b9.len eP
  have on:=Mg i aE aO (N:=N) j (k+1) m ad ad;by_cases a1:(150:Int)<(x.ay[k].vars.length:Int)
  ·simp-implicitDefEqProofs(disch:=try exact aW)only[tM,tL,rB,nF,reduceAdd,reduceLeDiff,reduceIte,bB,c9 aO,lc,e,decide_true,f,h _ (au.refl _),lv,a1,gt_iff_lt];grind[aD]
  ·by_cases bd:(150:Int)<(x.ay[k].ins.length:Int)
   ·simp-implicitDefEqProofs(disch:=try exact aW)only[tM,tL,rB,nF,reduceAdd,reduceLeDiff,reduceIte,bB,c9 aO,lc,e,decide_true,f,h _ (au.refl _),lv,li,a1,bd,gt_iff_lt,decide_false];grind[aD]
   ·simp-implicitDefEqProofs(disch:=try exact aW)only[tM,tL,rB,nF,reduceAdd,reduceLeDiff,reduceIte,bB,c9 aO,lc,e,decide_true,f,h _ (au.refl _),lv,li,a1,bd,gt_iff_lt,decide_false,fB (show k<=1000000000 by omega)];grind[List.take_add_one]
theorem Y6{V:af}(aE:cA H ok x V):W (aK P aG 9 [V] H) λr H'=>(∃q,r= C q/\(q=I->Small x))/\au H H':=by
 obtain⟨_,rfl,a,b,cc,d,rfl,ah,ai,ax,aM⟩:=aE;refine afI (x.ay.length+1) ?_;have g:=au.push H (.row I 5 [[a,b,cc,d,D F x.main]]);have aO:=ae.a2 H (.row I 5 [[a,b,cc,d,D F x.main]]);have cq:∀H0,bE P H0 .len [22] [a]=A (D F x.b_.length):=λH0=>ah.len fo
 have f:∀H0,bE P H0 .len [23] [b]=A (D F x.globals.length):=λH0=>ai.len cS
 have lc:∀H0,bE P H0 .len [24] [cc]=A (D F x.ay.length):=λH0=>ax.len cD
 have fu:∀H0,bE P H0 .len [25] [d]=A (D F x.sites.length):=λH0=>aM.len fH
 have c:=dV ah ai ax aM x.main;have yes:W (A (af.bool J,H.push (.row I 5 [[a,b,cc,d,D F x.main]]))) λr H'=>(∃q,r= C q/\(q=I->Small x))/\au H H':=(by grind[aD])
 by_cases br:(20:Int)<(x.b_.length:Int)
 ·simp-implicitDefEqProofs(disch:=try exact aW)only[nF,reduceAdd,reduceLeDiff,reduceIte,bB,c,c9 aO,cq,br,decide_true,gt_iff_lt];omega
 by_cases a1:(20:Int)<(x.globals.length:Int)
 ·simp-implicitDefEqProofs(disch:=try exact aW)only[nF,reduceAdd,reduceLeDiff,reduceIte,bB,c,c9 aO,cq,f,br,a1,decide_true,decide_false,gt_iff_lt];omega
 by_cases bd:(20:Int)<(x.ay.length:Int)
 ·simp-implicitDefEqProofs(disch:=try exact aW)only[nF,reduceAdd,reduceLeDiff,reduceIte,bB,c,c9 aO,cq,f,lc,br,a1,bd,decide_true,decide_false,gt_iff_lt];omega
 by_cases bn:(80:Int)<(x.sites.length:Int)
 ·simp-implicitDefEqProofs(disch:=try exact aW)only[nF,reduceAdd,reduceLeDiff,reduceIte,bB,c,c9 aO,cq,f,lc,fu,br,a1,bd,bn,decide_true,decide_false,gt_iff_lt];omega
 simp-implicitDefEqProofs(disch:=try exact aW)only[nF,reduceAdd,reduceLeDiff,reduceIte,bB,c,c9 aO,cq,f,lc,fu,br,a1,bd,bn,decide_true,decide_false,gt_iff_lt];refine(Mg (x:=x) (ok:=ok) ad (ax.aB g) aO x.ay.length 0 (x.ay.length+1) ad ad aX).mono ?_;rintro r H' ⟨⟨q,rfl,aJ⟩,rfl⟩;exact⟨⟨q,rfl,λe=>⟨ad,ad,ad,ad,aJ e⟩⟩,g⟩
theorem agj{k:a_.dg}{v w:af}{ok':Nat->Prop}(t:hX H ok k v)(hw:hX H ok' k w)(E:k.of.length<=1000000000)(p:k.nodes.length<=1000000000)(q:k.fields.length<=1000000000)(s:∀f∈k.fields,f.length<=1000000000):W (aK P aG 10 [v,w] H) λr H'=>r= C J/\au H H':=by
 obtain⟨a,cL,f1,rfl,i,j,a3,_⟩:=t;obtain⟨e,d,f2,rfl,l,m,n,_⟩:=hw;refine adw 0 ?_;have u:=au.push H (.row I 4 [a7 k.count a cL f1]);have cj:=ae.a2 H (.row I 4 [a7 k.count a cL f1]);have o:=au.push (H.push (.row I 4 [a7 k.count a cL f1])) (.row I 4 [a7 k.count e d f2]);have b:=ae.a2 (H.push (.row I 4 [a7 k.count a cL f1])) (.row I 4 [a7 k.count e d f2]);have c:=o.get cj;have y:(H.push (.row I 4 [a7 k.count a cL f1])).next=H.next+1:=rfl
 rw[y]at b;have pp:=u.trans o;refine b3 @Qf.eq_1 (λz0 g=>D9 z0 g i.one j.one a3.one) (λz0 g=>D9 z0 g l.one m.one n.one) ?_;generalize B:(H.push (.row I 4 [a7 k.count a cL f1])).push (.row I 4 [a7 k.count e d f2])=z at*;refine b3 (fQ c) (fQ b) @beq_self_eq_true.{0} ?_;refine ht (x:= C J) ((vk (i.aB pp) (l.aB pp) (by simp[aQ];omega)).mono λr H' h=>⟨al,h.2⟩) ?_;refine bG (fQ c) (fQ b) ?_;refine ht (x:= C J) ((vk (j.aB pp) (m.aB pp) p).mono λr H' h=>⟨al,h.2⟩) ?_;refine bG (fQ c) (fQ b) ?_;refine ht (x:= C J) ((adu (a3.aB pp) (n.aB pp) q s).mono λr H' h=>⟨al,h.2⟩) ?_;refine bN ?_
 exact aD.2 ⟨rfl,pp⟩
end
end
section
open Go.a_
set_option maxRecDepth 2000
section
variable {x:bC}{H:ae}{ok:Nat->Prop}
theorem VJ(x:bC):(lF x).of.length<=1000000000/\(lF x).nodes.length<=1000000000/\(lF x).fields.length<=1000000000/\∀f∈(lF x).fields,f.length<=1000000000:=by
 unfold lF;split
 ·rename_i ar;have a:=y0 x;have b:=ga ar;have ah:=a.dD;have ai:=a.mi;have ax:=a.FE;have aM:=a.nl;have c:=b.sites;have d:=kV b;have e:=b.ay;have g:=b.globals;refine⟨ad,by grind[cf],ad,λf aC=>by have:=a.f8 f aC;omega⟩
 ·simp
def Y3(x:bC):(pa x).length<=1000000000:=by
 unfold pa;split
 ·rename_i ar;have a:=y0 x;have b:=ga ar;have ah:=a.dD;have ai:=a.mi;have d:=b.sites;have c:(ie x (a_.hf x)).length<=(a_.hf x).fields.length:=ns _ _;simp[aQ];omega
 ·simp
theorem VF{V:af}(aE:cA H ok x V):W (gb (o6 P aG 16 J) V H) λr H'=>r= C J/\au H H':=by
 have t:=aE;obtain⟨_,rfl,a,b,cc,d,rfl,ah,ai,ax,aM⟩:=aE;have k:=au.push H (.row I 5 [[a,b,cc,d,D F x.main]]);have aO:=ae.a2 H (.row I 5 [[a,b,cc,d,D F x.main]]);have Q:bF (A (.agg [a,b,cc,d,D F x.main])) (.agg [a,b,cc,d,D F x.main])=true:=by simp[bF,af.beq,e6.beq,ah.rd,ai.rd,ax.rd,aM.rd]
 refine b3 @gb.eq_1 (dV ah ai ax aM) (cn aO) ?_;rw[qF bZ];refine e2 (Y6 (t.aB k)) ?_;rintro _ T ⟨q,rfl,aJ⟩ i;cases q with
 |true=>
  refine bN ?_;exact aD.2 ⟨rfl,k.trans i⟩
 |false=>
  have e:=aJ rfl;have c:=i.get aO;have g:=(t.aB k).aB i;refine bP (cn c) ?_;rw[qF bZ];refine e2 (agk e.y_ g) λa1 U bV l=> ?_
  refine bP (cn (l.get c)) ?_;rw[qF bZ];refine e2 (acQ e.y_ (g.aB l)) λbd v b9 j=> ?_
  refine bN ?_;rw[qF bZ];obtain⟨w,y,z,B⟩:=VJ x;have L:=l.trans j;have E:hX v bb (lF x) a1:=by
   obtain⟨o,n,f,rfl,R,S,z3,z4⟩:=bV;exact⟨o,n,f,rfl,R.aB j,S.aB j,z3.aB j,z4⟩
  refine bw (agj E b9 w y z B) λY N=> ?_
  have m:=L.trans N;refine bP (cn (m.get c)) ?_;rw[qF bZ];refine Jh (agA e.y_ (g.aB m)) λad aa G O=> ?_
  have s:=m.trans O;refine bP (cn (s.get c)) ?_;rw[qF bZ];refine Jh (adb e.y_ (g.aB s)) λaj ab K u=> ?_
  have M:=s.trans u;refine bN ?_;rw[qF bZ];refine ht (x:= C J) ((vk (G.aB u) K (Y3 x)).mono λr H' h=>⟨al,h.2⟩) ?_;refine bN ?_;refine ht (x:= C J) (by grind[Wr,aD]) ?_;refine bN ?_;refine ds (λH' p=>(ag (cn (p.get c)) Q)) (aD.2 ⟨rfl,(k.trans i).trans M⟩)
end
end
end Go.Proofs.YtmhhnnklfcbgfaaGreat
namespace Go.cw
abbrev I0:=aq->List af->ae->O
inductive jd where
 |leaf (n:Nat) (b:I0)
 |node (m:Nat) (a b:jd)
noncomputable section
def jd.run(aG:aq)(t:jd)(G:aq)(f:Nat)(args:List af)(H:ae):O:=@jd.rec (λ_=>O) (λn b=> @Bool.rec (λ_=>O) (aG f args H) (b G args H) (Nat.beq f n)) (λm _ _ x y=> @Bool.rec (λ_=>O) y x (Nat.ble f m)) t
def Lh(aG:aq)(t:jd)(n:Nat):aq:= @Nat.rec (λ_=>aq) (λ_ _ _=>Z) (λ_ a f args H=>t.run aG a f args H) n
def yJ(l:List af)(k:O):O:= @List.rec af (λ_=>O) k (λ_ _ _=>Z) l
def yK(l:List af)(k:af->O):O:= @List.rec af (λ_=>O) Z (λa r _=>yJ r (k a)) l
def yL(l:List af)(k:af->af->O):O:= @List.rec af (λ_=>O) Z (λa r _=>yK r (k a)) l
def yM(l:List af)(k:af->af->af->O):O:= @List.rec af (λ_=>O) Z (λa r _=>yL r (k a)) l
def yN(l:List af)(k:af->af->af->af->O):O:= @List.rec af (λ_=>O) Z (λa r _=>yM r (k a)) l
def DW(l:List af)(k:af->af->af->af->af->O):O:= @List.rec af (λ_=>O) Z (λa r _=>yN r (k a)) l
def Jy{l:List af}{k:O}{r}(h:yJ l k=A r):l=[]/\k=A r:=by
 cases l with
 |nil=>exact⟨rfl,h⟩
 |cons a l=>cases h
def Jz{l:List af}{k:af->O}{r}(h:yK l k=A r):∃a,l=[a]/\k a=A r:=by
 cases l with
 |nil=>cases h
 |cons a l=>obtain⟨rfl,h⟩:=Jy h;exact⟨a,rfl,h⟩
def JA{l:List af}{k:af->af->O}{r}(h:yL l k=A r):∃a b,l=[a,b]/\k a b=A r:=by
 cases l with
 |nil=>cases h
 |cons a l=>obtain⟨b,rfl,h⟩:=Jz h;exact⟨a,b,rfl,h⟩
def JB{l:List af}{k:af->af->af->O}{r}(h:yM l k=A r):∃a b c,l=[a,b,c]/\k a b c=A r:=by
 cases l with
 |nil=>cases h
 |cons a l=>obtain⟨b,c,rfl,h⟩:=JA h;exact⟨a,b,c,rfl,h⟩
def JC{l:List af}{k:af->af->af->af->O}{r}(h:yN l k=A r):∃a b c d,l=[a,b,c,d]/\k a b c d=A r:=by
 cases l with
 |nil=>cases h
 |cons a l=>obtain⟨b,c,d,rfl,h⟩:=JB h;exact⟨a,b,c,d,rfl,h⟩
def Uh{l:List af}{k:af->af->af->af->af->O}{r}(h:DW l k=A r):∃a b c d e,l=[a,b,c,d,e]/\k a b c d e=A r:=by
 cases l with
 |nil=>cases h
 |cons a l=>obtain⟨b,c,d,e,rfl,h⟩:=JC h;exact⟨a,b,c,d,e,rfl,h⟩
def qf(E:Env)(P:Program)(n:Nat)(b:I0):Prop:=∀G,e1 E P G->∀args H v H',b G args H=A (v,H')->hr E P n args H v H'
def jd.Ok(E:Env)(P:Program):jd->Prop
 | .leaf n b=>qf E P n b
 | .node _ a b=>a.Ok E P/\b.Ok E P
section
variable {E:Env}{P:Program}{aG G:aq}
def jd.Gc(e:e1 E P aG)(d:e1 E P G):∀{t:jd},t.Ok E P->∀{f:Nat} {args:List af} {H:ae} {v:af} {H':ae},t.run aG G f args H=A (v,H')->hr E P f args H v H'
 | .leaf n b,ba,f,args,H,v,H',h=>by
  have ai: @Bool.rec (λ_=>O) (aG f args H) (b G args H) (Nat.beq f n)=A (v,H'):=h;cases c:Nat.beq f n with
  |false=>rw[c]at ai;exact e _ _ _ _ _ ai
  |true=>
   rw[c]at ai;obtain rfl:=Nat.eq_of_beq_eq_true c;exact ba G d _ _ _ _ ai
 | .node m a b,ba,f,args,H,v,H',h=>by
  have ai: @Bool.rec (λ_=>O) (b.run aG G f args H) (a.run aG G f args H) (Nat.ble f m)=A (v,H'):=h;cases c:Nat.ble f m with
  |false=>rw[c]at ai;exact jd.Gc e d ba.2 ai
  |true=>rw[c]at ai;exact jd.Gc e d ba.1 ai
def o7(a:e1 E P aG){t:jd}(ba:t.Ok E P):∀n,e1 E P (Lh aG t n)
 |0=>λ_ _ _ _ _ h=>by cases h
 |n+1=>λ_ _ _ _ _ h=>jd.Gc a (o7 a ba n) ba h
abbrev sk(P:Program)(fn:Func)(G:aq)(N:Nat):bQ:=bS P G N (bL fn) (lf P fn.results.toList) [] (lf P fn.results.toList)
structure rU(P:Program)(n:Nat)(fn:Func)(k:Nat):Prop where
 f:P.funcs[n]? =some fn
 b:fn.body=some (bL fn)
 d:gY fn.ntmps (bL fn)=true
 n:Nat.ble k fn.ntmps=true
variable {n N:Nat}{fn:Func}
def aaC(c:kn P)(w:rU P n fn 0){s:aq->ae->O}(h:∀G H,sk P fn G N (cY []) H=s G H):qf E P n λG l H=>yJ l (s G H):=by
 intro G a l H v H' e;obtain⟨rfl,e⟩:=Jy e;exact qx (args:=[]) c a w.f w.b w.d w.n ((h G H).trans e)
def aaD(g:kn P)(w:rU P n fn 1){s:aq->af->ae->O}(h:∀G a H,sk P fn G N (cY [a]) H=s G a H):qf E P n λG l H=>yK l λa=>s G a H:=by
 intro G c l H v H' e;obtain⟨a,rfl,e⟩:=Jz e;exact qx (args:=[a]) g c w.f w.b w.d w.n ((h G a H).trans e)
def aaE(g:kn P)(w:rU P n fn 2){s:aq->af->af->ae->O}(h:∀G a b H,sk P fn G N (cY [a,b]) H=s G a b H):qf E P n λG l H=>yL l λa b=>s G a b H:=by
 intro G c l H v H' e;obtain⟨a,b,rfl,e⟩:=JA e;exact qx (args:=[a,b]) g c w.f w.b w.d w.n ((h G a b H).trans e)
def aaF(i:kn P)(w:rU P n fn 3){s:aq->af->af->af->ae->O}(h:∀G a b c H,sk P fn G N (cY [a,b,c]) H=s G a b c H):qf E P n λG l H=>yM l λa b c=>s G a b c H:=by
 intro G g l H v H' e;obtain⟨a,b,c,rfl,e⟩:=JB e;exact qx (args:=[a,b,c]) i g w.f w.b w.d w.n ((h G a b c H).trans e)
def aaG(i:kn P)(w:rU P n fn 4){s:aq->af->af->af->af->ae->O}(h:∀G a b c d H,sk P fn G N (cY [a,b,c,d]) H=s G a b c d H):qf E P n λG l H=>yN l λa b c d=>s G a b c d H:=by
 intro G g l H v H' e;obtain⟨a,b,c,d,rfl,e⟩:=JC e;exact qx (args:=[a,b,c,d]) i g w.f w.b w.d w.n ((h G a b c d H).trans e)
def aaH(i:kn P)(w:rU P n fn 5){s:aq->af->af->af->af->af->ae->O}(h:∀G a b c d x H,sk P fn G N (cY [a,b,c,d,x]) H=s G a b c d x H):qf E P n λG l H=>DW l λa b c d x=>s G a b c d x H:=by
 intro G g l H v H' e;obtain⟨a,b,c,d,x,rfl,e⟩:=Uh e;exact qx (args:=[a,b,c,d,x]) i g w.f w.b w.d w.n ((h G a b c d x H).trans e)
def uL(b:Bool)(o:O):Bool:= @Option.rec _ (λ_=>Bool) I (λp=> @Prod.rec _ _ (λ_=>Bool) (λv _=>match v with
 | .bool c=>c==b
 |_=>I) p) o
def ZM{b:Bool}{o:O}(h:uL b o=J):∃H,o=A (C b,H):=by
 match o,h with
 |some (C c,H),h=>
  have:c=b:=by simpa [uL]using h
  exact⟨H,by rw[this]⟩
def VI(a:e1 E P aG){t:jd}(ba:t.Ok E P){m f:Nat}{args:List af}{H:ae}{b:Bool}(h:uL b (Lh aG t m f args H)=J):∃H',hr E P f args H (C b) H':=by
 obtain⟨H',e⟩:=ZM h;exact⟨H',o7 a ba m _ _ _ _ _ e⟩
end
end
def yX:List (List af)->List (List af)->Bool
 |[],[]=>J
 |a::us,b::bs=>e6.beq a b&&yX us bs
 |_,_=>I
def Kn:∀{a b:List (List af)},yX a b=J->a=b
 |[],[],_=>rfl
 |[],_::_,h=>by cases h
 |_::_,[],h=>by cases h
 |a::us,b::bs,h=>by
  simp only[yX,Bool.and_eq_true]at h;rw[e6.beq_eq h.1,Kn h.2]
def D6(o:Option bz)(b:bz):Bool:=match o,b with
 |some (.row r e els),.row df a c=>(r==df)&&(Nat.beq e a&&yX els c)
 |_,_=>I
def UT{o:Option bz}{b:bz}(h:D6 o b=J):o=A b:=by
 unfold D6 at h;split at h
 ·simp only[Bool.and_eq_true,beq_iff_eq]at h;obtain⟨rfl,ai,ax⟩:=h;rw[Nat.eq_of_beq_eq_true ai,Kn ax]
 ·cases h
def py:List (Nat×bz)->bK bz
 |[]=> .leaf
 |p::dk=>bK.put p.2 0 (py dk) p.1
def pw(ls:List (Nat×bz))(n:Nat):ae:=⟨py ls,n⟩
def N0{l:Nat}{b:bz}:∀{ls:List (Nat×bz)},(py ls).get l=A b->(l,b)∈ls
 |[],h=>by rw[py,bK.sD]at h;cases h
 |p::dk,h=>by
  by_cases e:p.1=l
  ·subst e;rw[py,bK.put,bK.get,bK.zf]at h;cases h;simp
  ·have:(bK.put p.2 0 (py dk) p.1).get l=(py dk).get l:=bK.sF _ _ _ _ _ e;rw[py,this]at h;exact List.mem_cons_of_mem _ (N0 h)
def abD{ls:List (Nat×bz)}{n l:Nat}{b:bz}(h:(pw ls n).get l=A b):(l,b)∈ls:=by
 unfold ae.get at h;split at h
 ·exact N0 h
 ·cases h
def zh(H:ae)(ls:List (Nat×bz)):Bool:=ls.all λp=>D6 (H.get p.1) p.2
structure Sub(zA B:ae):Prop where
 next:zA.next=B.next
 get:∀l b,zA.get l=some b->B.get l=some b
def Sa{H:ae}{ls:List (Nat×bz)}{n:Nat}(h:zh H ls=J)(aL:Nat.beq H.next n=J):Sub (pw ls n) H:=by
 refine⟨(Nat.eq_of_beq_eq_true aL).symm,λl b aS=> ?_⟩;unfold zh at h;rw[List.all_eq_true]at h;exact UT (h _ (abD aS))
theorem Sub.rw{zA B:ae}(h:Sub zA B){l:Nat}(aw:zA.rw l):B.rw l:=by
 rcases aw with⟨e,s,g⟩|⟨es,g⟩|⟨t,e,s,g⟩
 ·exact .inl ⟨e,s,h.get _ _ g⟩
 ·exact .inr (.inl ⟨es,h.get _ _ g⟩)
 ·exact .inr (.inr ⟨t,e,s,h.get _ _ g⟩)
theorem Sub.live{zA B:ae}(h:Sub zA B){l:Nat}(aw:zA.live l):B.live l:=by
 rcases aw with⟨r,e,s,g⟩|⟨es,g⟩|⟨t,e,s,g⟩
 ·exact .inl ⟨r,e,s,h.get _ _ g⟩
 ·exact .inr (.inl ⟨es,h.get _ _ g⟩)
 ·exact .inr (.inr ⟨t,e,s,h.get _ _ g⟩)
def Sub.owned{ρ:Env}{zA B:ae}{b:Nat}(h:Sub zA B):eX ρ zA b->eX ρ B b:=λ⟨l,loc,ah,ai,ax⟩=>⟨l,loc,h.rw ah,ai,ax⟩
def Sub.rel{ρ:Env}{zA B:ae}{w:World}(h:Sub zA B)(r:Rel ρ B w):Rel ρ zA w:=
 ⟨λl ro esz els g=>r.row l ro esz els (h.get _ _ g),λl es g=>r.map l es (h.get _ _ g),λl t esz els g=>r.dZ l t esz els (h.get _ _ g),λl d a b ah ai=>r.apart l d a b (h.rw ah) (h.live ai),λl s esz els g=>by
  obtain⟨loc,f,e,i⟩:=r.old _ _ _ _ (h.get _ _ g);exact⟨loc,f,e,i.imp id λc=>⟨c.1,λq=>c.2 (h.owned q)⟩⟩⟩
def hr.narrow{E:Env}{P:Program}{g:Nat}{args:List af}{v:af}{H H0 H1 d:ae}(h:hr E P g args H0 v H1)(a:Sub H0 H)(ah:Sub d H1):hr E P g args H v d:=by
 intro ρ w xs n aC o aL next p
 refine h ρ w xs (a.rel n) (by rw[a.next,<-ah.next];exact aC) o (by rw[a.next,<-ah.next];exact aL) next λx r t aE s=>p x r t aE ⟨s.le,by have:=s.next;rw[a.next,<-ah.next]at this;exact this,λl aw=>s.keep l (by rw[a.next,<-ah.next];exact aw),ah.rel s.rel,s.os,s.tape,s.output,s.size,λb c aZ=>s.frame b c λcu=>aZ (a.owned cu),λb c=>(s.own b (ah.owned c)).imp a.owned id,λl esz els g=>a.get _ _ (s.ro l esz els (ah.get _ _ g)),λk q esz els g=>(s.olds k q esz els (ah.get _ _ g)).imp (λ⟨s1,m,j,e⟩=>⟨s1,m,j,a.get _ _ e⟩) λ⟨loc,f,i⟩=>⟨loc,f,i.imp a.owned id⟩⟩
structure gL where
 f:Nat
 args:List af
 dE:Nat
 Fe:List (Nat×bz)
 v:af
 cL:Nat
 zL:List (Nat×bz)
def Ee(o:O)(v:af)(n:Nat)(ls:List (Nat×bz)):Bool:=match o with
 |some (w,H)=>af.beq w v&&(Nat.beq H.next n&&zh H ls)
 |none=>I
def Vu{o:O}{v:af}{n:Nat}{ls:List (Nat×bz)}(h:Ee o v n ls=J):∃H,o=A (v,H)/\Sub (pw ls n) H:=by
 unfold Ee at h;split at h
 ·rename_i w H;simp only[Bool.and_eq_true]at h;exact⟨H,by rw[af.beq_eq h.1],Sa h.2.2 h.2.1⟩
 ·cases h
def gL.Ok(E:Env)(P:Program)(s:gL):Prop:=hr E P s.f s.args (pw s.Fe s.dE) s.v (pw s.zL s.cL)
def gL.oh{E:Env}{P:Program}{s:gL}{G:aq}(a:e1 E P G)(h:Ee (G s.f s.args (pw s.Fe s.dE)) s.v s.cL s.zL=J):s.Ok E P:=by
 obtain⟨H,e,b⟩:=Vu h;exact hr.narrow (a _ _ _ _ _ e) ⟨rfl,λ_ _ g=>g⟩ b
def gL.fits(s:gL)(f:Nat)(args:List af)(H:ae):Bool:=Nat.beq s.f f&&(Nat.beq H.next s.dE&&(e6.beq args s.args&&zh H s.Fe))
def Ix(aG:aq):List gL->aq
 |[],f,args,H=>aG f args H
 |s::a,f,args,H=>bif s.fits f args H then A (s.v,pw s.zL s.cL)else Ix aG a f args H
def Iy{E:Env}{P:Program}{aG:aq}(c:e1 E P aG):∀{b:List gL},(∀s∈b,s.Ok E P)->e1 E P (Ix aG b)
 |[],_=>c
 |s::b,h=>by
  intro f args H v H' e;have a:(bif s.fits f args H then A (s.v,pw s.zL s.cL)else Ix aG b f args H)=A (v,H'):=e;cases aC:s.fits f args H with
  |true=>
   rw[aC]at a;cases a;unfold gL.fits at aC;simp only[Bool.and_eq_true]at aC;obtain⟨ah,ai,ax,aM⟩:=aC;obtain rfl:=Nat.eq_of_beq_eq_true ah;rw[e6.beq_eq ax];exact hr.narrow (h s aX) (Sa aM ai) ⟨rfl,λ_ _ g=>g⟩
  |false=>
   rw[aC]at a;exact Iy c (λt ba=>h t (by simp[ba])) _ _ _ _ _ a
end Go.cw
namespace Go.Proofs.YtmhhnnklfcbgfaaGreat
open Go.cw
open Nat (reduceAdd reduceLeDiff)
section
set_option maxRecDepth 100000
set_option maxHeartbeats 4000000
noncomputable section
def Rm(G:aq)(N:Nat):eh 0 3 4 Tryz.f58 G N (·.aa.aa.aa.aa.aa) (a8 Tryz.f58) []:=⟨_,v3 an⟩
def Rl(G:aq)(N:Nat)(L1:cg):dI 0 3 4 5 Tryz.f58 G N (·.aa.aa.aa.aa.aj.aj.aj) (bI L1 0 3 4 5) [(0,(bn (Rm G N) 0 3 4))]:=⟨_,v4 an⟩
def Rn(G:aq)(N:Nat):Nat->cg
 |0=>fq
 |n+1=>Rl G N (Rn G N n)
def aga(G:aq)(N:Nat):fM Tryz.f58 G N:=⟨_,t1 (ak (ak (ak (ak (ak ((Rm G N).2) (bj (bH (λm=>(Rl G N (Rn G N m)).2)))) an) an) an) an)⟩
def Gg(G:aq)(N:Nat):eJ 1 Tryz.f112 G N (·.aa.aa) (a8 Tryz.f112) []:=⟨_,v1 an⟩
def Qm(G:aq)(N:Nat)(L1:T2)(L2:T2):gG 0 1 Tryz.f112 G N (·.aa.aj.aj.aj.aa.aj.aj.aa.aa.aa.aj.aj.aj) (bd L2 0 1) [(3,(bd L1 0 1)),(2,(bd L1 0 1)),(1,(bd L1 0 1)),(0,(a1 (Gg G N) 1))]:=⟨_,v2 an⟩
def Qo(G:aq)(N:Nat)(L1:T2):Nat->T2
 |0=>m2
 |n+1=>Qm G N L1 (Qo G N L1 n)
def Ql(G:aq)(N:Nat)(L1:T2):gG 0 1 Tryz.f112 G N (·.aa.aj.aj.aj) (bd L1 0 1) [(0,(a1 (Gg G N) 1))]:=⟨_,v2 (ak (bj (bj (ak (c4 an (ak (c4 (bj (bH (λm=>(Qm G N L1 (Qo G N L1 m)).2))) an) an)) an))) an)⟩
def Qn(G:aq)(N:Nat):Nat->T2
 |0=>m2
 |n+1=>Ql G N (Qn G N n)
def afR(G:aq)(N:Nat):fW Tryz.f112 G N:=⟨_,t2 (ak (ak ((Gg G N).2) (bj (bH (λm=>(Ql G N (Qn G N m)).2)))) an)⟩
def afS(G:aq):eO Tryz.f113 G:=⟨_,λN=>t2 an⟩
def afT(G:aq):g5 Tryz.f149 G:=⟨_,λN=>t1 an⟩
def QA(G:aq)(N:Nat):eJ 7 Tryz.f150 G N (·.aa.aa.aa) (a8 Tryz.f150) []:=⟨_,v1 an⟩
def Qz(G:aq)(N:Nat)(L1:cg):dI 0 1 2 7 Tryz.f150 G N (·.aa.aa.aj.aj.aj) (bI L1 0 1 2 7) [(0,(a1 (QA G N) 7))]:=⟨_,v4 an⟩
def QB(G:aq)(N:Nat):Nat->cg
 |0=>fq
 |n+1=>Qz G N (QB G N n)
def afU(G:aq)(N:Nat):m_ Tryz.f150 G N:=⟨_,t3 (ak (ak (ak ((QA G N).2) (bj (bH (λm=>(Qz G N (QB G N m)).2)))) an) an)⟩
def QD(G:aq)(N:Nat):hJ Tryz.f151 G N (·.aa.aa.aa) (a8 Tryz.f151) []:=⟨_,v0 an⟩
def QC(G:aq)(N:Nat)(L1:b6):eh 0 3 4 Tryz.f151 G N (·.aa.aa.aj.aa.aj.aj) (bn L1 0 3 4) [(0,(br (QD G N)))]:=⟨_,v3 an⟩
def QE(G:aq)(N:Nat):Nat->b6
 |0=>gD
 |n+1=>QC G N (QE G N n)
def afV(G:aq)(N:Nat):fM Tryz.f151 G N:=⟨_,t1 (ak (ak (ak ((QD G N).2) (ak (bj (bH (λm=>(QC G N (QE G N m)).2))) an)) an) an)⟩
def QG(G:aq)(N:Nat):hJ Tryz.f152 G N (·.aa.aa.aa) (a8 Tryz.f152) []:=⟨_,v0 an⟩
def QF(G:aq)(N:Nat)(L1:T2):gG 0 3 Tryz.f152 G N (·.aa.aa.aj.aa.aj.aj) (bd L1 0 3) [(0,(br (QG G N)))]:=⟨_,v2 an⟩
def QH(G:aq)(N:Nat):Nat->T2
 |0=>m2
 |n+1=>QF G N (QH G N n)
def afW(G:aq)(N:Nat):fM Tryz.f152 G N:=⟨_,t1 (ak (ak (ak ((QG G N).2) (ak (bj (bH (λm=>(QF G N (QH G N m)).2))) an)) an) an)⟩
def afX(G:aq):g5 Tryz.f153 G:=⟨_,λN=>t1 an⟩
def GB(G:aq)(N:Nat):eJ 4 Tryz.f154 G N (·.aa.aa.aa) (a8 Tryz.f154) []:=⟨_,v1 an⟩
def QI(G:aq)(N:Nat)(L1:b6):eh 0 4 5 Tryz.f154 G N (·.aa.aa.aj.aa.aj.aj) (bn L1 0 4 5) [(0,(a1 (GB G N) 4))]:=⟨λa x4 x5 H=>eM P .len [9] [a] H λx9=>aU (bx P .lss 3 I x5 x9) λx10=>ep (A x10) (aU (qm P 9 a x5) λc=>aU (bx P .sub 5 J c (D .u8 48)) λd=>IY P 5 3 d H λb=>aU (bx P .sub 3 J (D F 9223372036854775807) b) λe=>aU (bx P .quo 3 J e (D F 10)) λf=>aU (bx P .gtr 3 I x4 f) λg=>ep (A g) (A (.tuple [D F 0,C I],H)) (aU (bx P .mul 3 J (D F 10) x4) λh=>aU (bx P .add 3 I h b) λi=>aU (bx P .add 3 J x5 (D F 1)) λx12=>L1 a i x12 H)) (GB G N x4 H),cO an⟩
def QJ(G:aq)(N:Nat):Nat->b6
 |0=>gD
 |n+1=>QI G N (QJ G N n)
def afY(G:aq)(N:Nat):fM Tryz.f154 G N:=⟨_,t1 (ak (ak (ak ((GB G N).2) (ak (bj (bH (λm=>(QI G N (QJ G N m)).2))) an)) an) an)⟩
def QN(G:aq)(N:Nat):hJ Tryz.f155 G N (·.aa.aa.aa.aa.aa) (a8 Tryz.f155) []:=⟨_,v0 an⟩
def QK(G:aq)(N:Nat)(L2:cg):dI 0 1 7 8 Tryz.f155 G N (·.aa.aa.aa.aa.aj.aa.aj.aj) (bI L2 0 1 7 8) [(2,(br (QN G N)))]:=⟨_,v4 an⟩
def QO(G:aq)(N:Nat):Nat->cg
 |0=>fq
 |n+1=>QK G N (QO G N n)
def QM(G:aq)(N:Nat):gG 0 1 Tryz.f155 G N (·.aa.aa.aa) (a8 Tryz.f155) []:=⟨_,v2 (ak (ak ((QN G N).2) (ak (bj (bH (λm=>(QK G N (QO G N m)).2))) an)) an)⟩
def QL(G:aq)(N:Nat)(L3:cg):dI 0 1 5 6 Tryz.f155 G N (·.aa.aa.aj.aa.aj.aj) (bI L3 0 1 5 6) [(0,(bd (QM G N) 0 1))]:=⟨_,v4 an⟩
def GC(G:aq)(N:Nat):Nat->cg
 |0=>fq
 |n+1=>QL G N (GC G N n)
def afZ(G:aq)(N:Nat):fW Tryz.f155 G N:=⟨λa x1 H=>fe H (A (.az (H).next 0 5 1 (A 5),.row I 1 [[X [60,61]],[X [61,61]],[X [33,61]],[X [38,38]],[X [124,124]]])) λx9 ah=>GC G N N a x1 x9 (D F 0) ah,M3 (ak (ak (ak ((QM G N).2) (ak (bj (bH (λm=>(QL G N (GC G N m)).2))) an)) an) an)⟩
def af3(G:aq):uf Tryz.f206 G:=⟨λH=>fe H (A (.az (H).next 0 18 1 (A 18),.row I 1 [[X [114,101,99,111,114,100]],[X [103,108,111,98,97,108]],[X [102,117,110,99]],[X [118,97,114]],[X [108,101,116]],[X [105,102]],[X [101,108,115,101]],[X [119,104,105,108,101]],[X [114,101,116,117,114,110]],[X [112,114,105,110,116]],[X [110,117,108,108]],[X [110,101,119]],[X [108,101,110]],[X [114,101,97,100]],[X [116,114,117,101]],[X [102,97,108,115,101]],[X [105,110,116]],[X [98,111,111,108]]])) λx1 ah=>A (x1,ah),λN=>M1 an⟩
end
end
section
set_option maxRecDepth 100000
noncomputable section
abbrev j:Nat:=1000000
abbrev m6:={t:jd // t.Ok E0 P}
def aV(m:Nat)(a b:m6):m6:=⟨.node m a.1 b.1,a.2,b.2⟩
def zp{n:Nat}{f:Func}{s:aq->ko}(aC:P.funcs[n]? =A f)(h:∀G H,ev f G j (cY []) H=s G H)(a:f.body=A (bL f):=by first|kernel_rfl)(b:gY f.ntmps (bL f)=true:=by first|kernel_rfl)(aL:Nat.ble 0 f.ntmps=true:=by first|kernel_rfl):m6:=⟨.leaf n λG l H=>yJ l (s G H),aaC (N:=j) la ⟨aC,a,b,aL⟩ h⟩
def eZ{n:Nat}{f:Func}{s:aq->T1}(aC:P.funcs[n]? =A f)(h:∀G a H,ev f G j (cY [a]) H=s G a H)(b:f.body=A (bL f):=by first|kernel_rfl)(c:gY f.ntmps (bL f)=true:=by first|kernel_rfl)(aL:Nat.ble 1 f.ntmps=true:=by first|kernel_rfl):m6:=⟨.leaf n λG l H=>yK l λa=>s G a H,aaD (N:=j) la ⟨aC,b,c,aL⟩ h⟩
def dB{n:Nat}{f:Func}{s:aq->T2}(aC:P.funcs[n]? =A f)(h:∀G a b H,ev f G j (cY [a,b]) H=s G a b H)(c:f.body=A (bL f):=by first|kernel_rfl)(d:gY f.ntmps (bL f)=true:=by first|kernel_rfl)(aL:Nat.ble 2 f.ntmps=true:=by first|kernel_rfl):m6:=⟨.leaf n λG l H=>yL l λa b=>s G a b H,aaE (N:=j) la ⟨aC,c,d,aL⟩ h⟩
def iX{n:Nat}{f:Func}{s:aq->b6}(aC:P.funcs[n]? =A f)(h:∀G a b c H,ev f G j (cY [a,b,c]) H=s G a b c H)(d:f.body=A (bL f):=by first|kernel_rfl)(e:gY f.ntmps (bL f)=true:=by first|kernel_rfl)(aL:Nat.ble 3 f.ntmps=true:=by first|kernel_rfl):m6:=⟨.leaf n λG l H=>yM l λa b c=>s G a b c H,aaF (N:=j) la ⟨aC,d,e,aL⟩ h⟩
def zq{n:Nat}{f:Func}{s:aq->cg}(aC:P.funcs[n]? =A f)(h:∀G a b c d H,ev f G j (cY [a,b,c,d]) H=s G a b c d H)(e:f.body=A (bL f):=by first|kernel_rfl)(g:gY f.ntmps (bL f)=true:=by first|kernel_rfl)(aL:Nat.ble 4 f.ntmps=true:=by first|kernel_rfl):m6:=⟨.leaf n λG l H=>yN l λa b c d=>s G a b c d H,aaG (N:=j) la ⟨aC,e,g,aL⟩ h⟩
def MS{n:Nat}{f:Func}{s:aq->cx}(aC:P.funcs[n]? =A f)(h:∀G a b c d x H,ev f G j (cY [a,b,c,d,x]) H=s G a b c d x H)(e:f.body=A (bL f):=by first|kernel_rfl)(g:gY f.ntmps (bL f)=true:=by first|kernel_rfl)(aL:Nat.ble 5 f.ntmps=true:=by first|kernel_rfl):m6:=⟨.leaf n λG l H=>DW l λa b c d x=>s G a b c d x H,aaH (N:=j) la ⟨aC,e,g,aL⟩ h⟩
def M5:m6:=(aV 155 (aV 84 (aV 43 (aV 20 (aV 14 (aV 11 (eZ Tryz.func11 λG=>(Av G).2 j) (aV 13 (dB Tryz.func13 λG=>(vt G j).2) (eZ Tryz.func14 λG=>(A6 G).2 j))) (aV 17 (aV 16 (zp Tryz.func16 λG=>(QP G).2 j) (dB Tryz.func17 λG=>(vW G j).2)) (aV 18 (eZ Tryz.func18 λG=>(af0 G j).2) (eZ Tryz.func20 λG=>(af2 G j).2)))) (aV 38 (aV 35 (aV 22 (dB Tryz.func22 λG=>(af4 G).2 j) (eZ Tryz.func35 λG=>(lS G).2 j)) (aV 36 (eZ Tryz.func36 λG=>(HG G j).2) (eZ Tryz.func38 λG=>(BV G j).2))) (aV 41 (aV 40 (iX Tryz.func40 λG=>(af5 G j).2) (eZ Tryz.func41 λG=>(af7 G).2 j)) (aV 42 (eZ Tryz.func42 λG=>(af8 G).2 j) (eZ Tryz.func43 λG=>(w8 G).2 j))))) (aV 74 (aV 46 (aV 44 (dB Tryz.func44 λG=>(HL G).2 j) (aV 45 (dB Tryz.func45 λG=>(af9 G).2 j) (dB Tryz.func46 λG=>(HN G j).2))) (aV 58 (aV 47 (dB Tryz.func47 λG=>(HP G).2 j) (eZ Tryz.func58 λG=>(aga G j).2)) (aV 73 (eZ Tryz.func73 λG=>(HS G j).2) (dB Tryz.func74 λG=>(Cm G j).2)))) (aV 78 (aV 76 (aV 75 (eZ Tryz.func75 λG=>(Co G j).2) (eZ Tryz.func76 λG=>(HV G j).2)) (aV 77 (eZ Tryz.func77 λG=>(HX G j).2) (dB Tryz.func78 λG=>(HY G).2 j))) (aV 80 (aV 79 (eZ Tryz.func79 λG=>(HZ G j).2) (eZ Tryz.func80 λG=>(H7 G j).2)) (aV 81 (dB Tryz.func81 λG=>(tG G j).2) (dB Tryz.func84 λG=>(Ia G).2 j)))))) (aV 128 (aV 100 (aV 94 (aV 85 (dB Tryz.func85 λG=>(Ib G).2 j) (aV 93 (iX Tryz.func93 λG=>(agb G).2 j) (dB Tryz.func94 λG=>(Ij G).2 j))) (aV 98 (aV 97 (dB Tryz.func97 λG=>(agd G j).2) (iX Tryz.func98 λG=>(Ik G).2 j)) (aV 99 (dB Tryz.func99 λG=>(Il G).2 j) (dB Tryz.func100 λG=>(Ge G).2 j)))) (aV 124 (aV 112 (aV 101 (dB Tryz.func101 λG=>(pL G j).2) (dB Tryz.func112 λG=>(afR G j).2)) (aV 113 (dB Tryz.func113 λG=>(afS G).2 j) (dB Tryz.func124 λG=>(ox G).2 j))) (aV 126 (aV 125 (eZ Tryz.func125 λG=>(Gh G).2 j) (dB Tryz.func126 λG=>(Gi G j).2)) (aV 127 (eZ Tryz.func127 λG=>(Gj G j).2) (eZ Tryz.func128 λG=>(Gl G).2 j))))) (aV 146 (aV 131 (aV 129 (dB Tryz.func129 λG=>(Gm G).2 j) (aV 130 (zq Tryz.func130 λG=>(Gn G j).2) (eZ Tryz.func131 λG=>(Gp G).2 j))) (aV 133 (aV 132 (eZ Tryz.func132 λG=>(Gq G j).2) (dB Tryz.func133 λG=>(AU G).2 j)) (aV 134 (dB Tryz.func134 λG=>(vI G j).2) (dB Tryz.func146 λG=>(Gz G j).2)))) (aV 151 (aV 149 (aV 147 (dB Tryz.func147 λG=>(A_ G).2 j) (eZ Tryz.func149 λG=>(afT G).2 j)) (aV 150 (iX Tryz.func150 λG=>(afU G j).2) (eZ Tryz.func151 λG=>(afV G j).2))) (aV 153 (aV 152 (eZ Tryz.func152 λG=>(afW G j).2) (eZ Tryz.func153 λG=>(afX G).2 j)) (aV 154 (eZ Tryz.func154 λG=>(afY G j).2) (dB Tryz.func155 λG=>(afZ G j).2))))))) (aV 220 (aV 181 (aV 173 (aV 169 (aV 167 (zp Tryz.func167 λG=>(GD G).2 j) (aV 168 (iX Tryz.func168 λG=>(GF G).2 j) (MS Tryz.func169 λG=>(GG G).2 j))) (aV 171 (aV 170 (dB Tryz.func170 λG=>(GI G).2 j) (dB Tryz.func171 λG=>(GJ G j).2)) (aV 172 (dB Tryz.func172 λG=>(Bb G).2 j) (dB Tryz.func173 λG=>(GL G).2 j)))) (aV 177 (aV 175 (aV 174 (dB Tryz.func174 λG=>(GM G).2 j) (dB Tryz.func175 λG=>(GN G).2 j)) (aV 176 (dB Tryz.func176 λG=>(Bc G).2 j) (dB Tryz.func177 λG=>(GO G).2 j))) (aV 179 (aV 178 (zq Tryz.func178 λG=>(GP G).2 j) (zq Tryz.func179 λG=>(q8 G).2 j)) (aV 180 (dB Tryz.func180 λG=>(q9 G j).2) (dB Tryz.func181 λG=>(Bf G).2 j))))) (aV 188 (aV 184 (aV 182 (eZ Tryz.func182 λG=>(GR G j).2) (aV 183 (eZ Tryz.func183 λG=>(GU G j).2) (iX Tryz.func184 λG=>(GW G).2 j))) (aV 186 (aV 185 (eZ Tryz.func185 λG=>(GX G j).2) (eZ Tryz.func186 λG=>(GZ G j).2)) (aV 187 (dB Tryz.func187 λG=>(G1 G j).2) (dB Tryz.func188 λG=>(G3 G j).2)))) (aV 206 (aV 190 (aV 189 (eZ Tryz.func189 λG=>(G5 G j).2) (dB Tryz.func190 λG=>(Br G).2 j)) (aV 191 (iX Tryz.func191 λG=>(G6 G j).2) (zp Tryz.func206 λG=>(af3 G).2 j))) (aV 218 (aV 217 (eZ Tryz.func217 λG=>(hE G).2 j) (eZ Tryz.func218 λG=>(G9 G).2 j)) (aV 219 (dB Tryz.func219 λG=>(G_ G j).2) (iX Tryz.func220 λG=>(Bx G).2 j)))))) (aV 246 (aV 227 (aV 223 (aV 221 (iX Tryz.func221 λG=>(wy G).2 j) (aV 222 (dB Tryz.func222 λG=>(Hb G).2 j) (eZ Tryz.func223 λG=>(wz G).2 j))) (aV 225 (aV 224 (eZ Tryz.func224 λG=>(Hc G).2 j) (iX Tryz.func225 λG=>(Hd G j).2)) (aV 226 (dB Tryz.func226 λG=>(Hf G j).2) (iX Tryz.func227 λG=>(Hh G).2 j)))) (aV 242 (aV 240 (aV 228 (dB Tryz.func228 λG=>(Hi G j).2) (MS Tryz.func240 λG=>(fz G).2 j)) (aV 241 (dB Tryz.func241 λG=>(Hk G).2 j) (dB Tryz.func242 λG=>(Hl G).2 j))) (aV 244 (aV 243 (dB Tryz.func243 λG=>(wD G).2 j) (iX Tryz.func244 λG=>(Hm G j).2)) (aV 245 (eZ Tryz.func245 λG=>(Ho G).2 j) (zq Tryz.func246 λG=>(Hp G).2 j))))) (aV 253 (aV 249 (aV 247 (iX Tryz.func247 λG=>(Hq G).2 j) (aV 248 (iX Tryz.func248 λG=>(tv G).2 j) (eZ Tryz.func249 λG=>(Hr G).2 j))) (aV 251 (aV 250 (dB Tryz.func250 λG=>(Hs G j).2) (iX Tryz.func251 λG=>(Ht G j).2)) (aV 252 (dB Tryz.func252 λG=>(Hu G).2 j) (dB Tryz.func253 λG=>(Hv G).2 j)))) (aV 261 (aV 259 (aV 258 (eZ Tryz.func258 λG=>(Hw G j).2) (dB Tryz.func259 λG=>(BG G).2 j)) (aV 260 (iX Tryz.func260 λG=>(wL G).2 j) (dB Tryz.func261 λG=>(Hx G j).2))) (aV 282 (aV 281 (iX Tryz.func281 λG=>(Hz G).2 j) (iX Tryz.func282 λG=>(HA G).2 j)) (aV 283 (eZ Tryz.func283 λG=>(HB G).2 j) (dB Tryz.func284 λG=>(HC G).2 j))))))))
def M6:m6:=(aV 13 (dB Tryz.func13 λG=>(vt G j).2) (aV 16 (zp Tryz.func16 λG=>(QP G).2 j) (dB Tryz.func17 λG=>(vW G j).2)))
abbrev aag:jd:=M5.1
def sK:aag.Ok E0 P:=M5.2
abbrev aah:jd:=M6.1
def aai:aah.Ok E0 P:=M6.2
