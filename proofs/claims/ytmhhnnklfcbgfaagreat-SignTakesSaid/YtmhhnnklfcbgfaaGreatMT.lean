/-
  Texts of one proof, laid together: Va Vb Vc ShL Vd Zb SgR Zc Zd Ze Zf Zg Zh SgS Zi Zj.
-/
import Derived.Test.YtmhhnnklfcbgfaaGreatMS
set_option linter.unusedVariables false
set_option linter.unusedSimpArgs false
set_option linter.defProp false
open Option renaming some→A,none→Z
open Bool renaming true→J,false→I
open Go.cv.af renaming int→D,str→X,bool→C
open Go.IntKind renaming i64→F
namespace Go.Proofs.YtmhhnnklfcbgfaaGreat
open Go.cv
open Nat (reduceAdd reduceLeDiff)
section
open Go.a2
set_option maxRecDepth 2000
noncomputable def lB(x:bq)(k:a2.cK)(f:Nat):List Nat:=match x.ax[f]? with
 |some c=>oU x k f c
 |none=>[]
section
variable {x:bq}{k:a2.cK}{zX W0:Nat}{a b cc d ov nv fv gv uv ch b6:af}
theorem N7(au:right x=J){f:Nat}{co:bQ}(aB:x.ax[f]? =A co){B:Nat}(l:W0<B){L3:af->af->af->ae->O}{Q:af->ae->Prop}{N:Nat}:∀(j i q:Nat) (H:ae) (v:af),i+j=co.vars.length->j<q->fX x k zX W0 a b cc d ov nv fv gv uv ch b6 H->B<=H.next->aZ aN B ba H (aO ((List.range i).map λv=>bj x.ax f+v)) v->
  (∀(H':ae) (v:af),cg B H H'->aZ aN B ba H' (aO ((List.range co.vars.length).map λv=>bj x.ax f+v)) v->W (CR (aK P aD) N L3 (.ptr zX 0 0) (.ptr W0 0 0) (D F (f:Nat)) v H') Q)->
  W (xN (aK P aD) N L3 q (.ptr zX 0 0) (.ptr W0 0 0) (D F (f:Nat)) v (D F (i:Nat)) H) Q
 |_,_,0,_,_,_,aH,_,_,_,_=>aa
 |j,i,q+1,H,v,aP,aH,s,w,ar,fin=>by
  have h:=fG au;have R:=(List.getElem?_eq_some_iff.1 aB).1;have U:=(hI (h.code aB)).vars;obtain⟨L,n,M,gw,m,y,bS,b2⟩:=s.ax.oC (j:=(f:Int)) (g:=co) aa al;have o:=(y _ (aw.refl _)).2.1
  match j,aP,aH with
  |0,aP,_=>
   have S:¬(i:Int)<(co.vars.length:Int):=aa;refine bb @xN.eq_2 @CN.eq_1 (dh s.aQ) m o (bS.bf cW) ?_;obtain rfl:i=co.vars.length:=aa;exact fin H v (.refl _ _) ar
  |j+1,aP,aH=>
   have on:=N7 au aB l (L3:=L3) (Q:=Q) (N:=N) j (i+1) q;refine bb @xN.eq_2 @CN.eq_1 (dh s.aQ) m o (ag (bS.bf cW) (cq s.aQ)) ?_;refine bz (Ry h s.aF (f:=f) (v:=i) aa aa) λH1 c=> ?_
   have T:=c.1;obtain⟨z,H',r,e,t,K⟩:=(ar.aC c).Gp (a:=bj x.ax f+i) aa al;refine bF @c3 r ?_;have pu:cg B H H':=(ek c w).trans t;have u:((List.range i).map λv=>bj x.ax f+v)++[bj x.ax f+i]=(List.range (i+1)).map λv=>bj x.ax f+v:=by grind[List.range_succ]
   rw[u]at e;exact on H' z aa aa (s.eu pu l) aa e λp v2 E G=>fin p v2 (pu.trans E) G
theorem ac6(a:fN (b7 x) x.sites.length k)(i:In):(eX x k i).length<=k.count:=by
 unfold eX;split
 ·have:=zU k.fields [k.site i.n];rw[a.dz]at this;omega
 grind[AN]
theorem Py{i:In}{c:Nat}(h:c∈eX x k i):c<k.fields.length:=by
 unfold eX at h;split at h
 ·exact(g4.1 h).1
 ·split at h
  ·exact tt h
  grind
def qM(k:a2.cK)(l:List Int):Prop:=fP l/\∀a∈l,0<=a/\a<k.fields.length
def qM.len{l:List Int}(h:qM k l):l.length<=k.fields.length:=vV h.1 h.2
theorem W4{l:List Nat}(au:fP (aO l))(h:∀c∈l,c<k.fields.length):qM k (aO l):=⟨au,λa b=>by
 obtain⟨c,aA,rfl⟩:=List.mem_map.1 b;grind⟩
theorem W1{l:List Int}{m:List Nat}(h:qM k l)(hm:∀c∈m,c<k.fields.length):qM k (sO l (aO m)):=⟨Q5 _ _,λa b=>by
 rcases OY.1 b with ah|ah
 ·exact h.2 a ah
 ·obtain⟨c,aA,rfl⟩:=List.mem_map.1 ah;grind⟩
theorem N4(au:right x=J)(e:fN (b7 x) x.sites.length k){f:Nat}{co:bQ}(aB:x.ax[f]? =A co){H0:ae}(y:fX x k zX W0 a b cc d ov nv fv gv uv ch b6 H0){M:Nat->Prop}(t:aI (bp aN) H0 M ((List.range x.ax.length).map λf=>aO (cr x k f)) uv){L3:af->af->af->ae->O}{Q:af->ae->Prop}{N:Nat}:∀(j i q:Nat) (H:ae) (cur:List Int) (h:af),i+j=co.ins.length->j<q->aw H0 H->aI aN H ba cur h->qM k cur->
  (∀(H':ae) (m:af),aw H0 H'->aI aN H' ba (l1 cur ((co.ins.drop i).map λi=>aO (eX x k i))) m->W (CS (aK P aD) N L3 (.ptr zX 0 0) (.ptr W0 0 0) (D F (f:Nat)) m H') Q)->
  W (xM (aK P aD) N L3 q (.ptr zX 0 0) (.ptr W0 0 0) (D F (f:Nat)) h (D F (i:Nat)) H) Q
 |_,_,0,_,_,_,_,aH,_,_,_,_=>aa
 |j,i,q+1,H,cur,h,aP,aH,p,aA,o,fin=>by
  have l:=fG au;have s:=y.aC p;have E:=l.sites;have aj:=e.dz;have ai:=e.kH;have ab:=(List.getElem?_eq_some_iff.1 aB).1;have ad:=nT au;have ah:=oH (List.mem_of_getElem? aB);obtain⟨L,n,Y,gw,v,S,bS,b2⟩:=s.ax.oC (j:=(f:Int)) (g:=co) aa al;have w:=(S _ (aw.refl _)).2.2
  match j,aP,aH with
  |0,aP,_=>
   have ak:¬(i:Int)<(co.ins.length:Int):=aa;refine bb @xM.eq_2 @CM.eq_1 (dh s.aQ) v w (b2.bf eJ) ?_;rw[List.drop_of_length_le aa]at fin;exact fin H h p aA
  |j+1,aP,aH=>
   have r:i<co.ins.length:=aa;obtain⟨L2,ao,wi,T,U,V⟩:=b2.rf (j:=(i:Int)) (i:=co.ins[i]) aa al;have B:dM x f co co.ins[i]=true:=(hI (l.code aB)).ins (List.getElem_mem r);have on:=N4 au e aB y t (L3:=L3) (Q:=Q) (N:=N) j (i+1) q;rw[List.drop_eq_getElem_cons r,List.map_cons,l1]at fin;generalize co.ins[i]=ins at*;refine bb @xM.eq_2 @CM.eq_1 (dh s.aQ) v w (ag (b2.bf eJ) (ag T (U _ (aw.refl _)))) ?_;refine e2 (ale l e E aB B V s (t.aC p)) λap H1 G u=> ?_
   have am:=o.len;have an:=ac6 e ins;refine e2 (ad4 (aA.aC u) G aa (by rw[fI];omega)) ?_;rintro bv z ⟨K,_⟩ R;refine bM ?_;exact on z _ bv aa aa ((p.trans u).trans R) K.any (W1 o λc aA=>Py aA) fin
theorem N5(au:right x=J)(e:fN (b7 x) x.sites.length k){E:Nat}(O:W0<E){N:Nat}(ay:4100<N):∀(j i q:Nat) (H:ae) (b6:af),i+j=x.ax.length->j<q->fX x k zX W0 a b cc d ov nv fv gv uv ch b6 H->E<=H.next->aI aN H (λq=>W0<q/\q<E) (aO (hM x k)) gv->aI (bp aN) H (λq=>W0<q/\q<E) ((List.range x.ax.length).map λf=>aO (cr x k f)) uv->aZ (bp aN) E (E<= ·) H ((List.range i).map λf=>aO (lB x k f)) b6->
  W (xL (aK P aD) N q (.ptr zX 0 0) (.ptr W0 0 0) (D F (i:Nat)) H) λr H'=>r= .ptr W0 0 0/\∃wv',fX x k zX W0 a b cc d ov nv fv gv uv ch wv' H'/\aZ (bp aN) E (E<= ·) H' ((List.range x.ax.length).map λf=>aO (lB x k f)) wv'/\H.next<=H'.next/\∀q,q<E->q≠W0->H'.get q=H.get q
 |_,_,0,_,_,_,aH,_,_,_,_,_=>aa
 |0,i,q+1,H,b6,aP,_,s,M,aR,hu,ar=>by
  have bn:¬(i:Int)<(x.ax.length:Int):=aa;refine dd @xL.eq_2 @CL.eq_1 @qq.eq_1 (dh s.aQ) (s.ax.bf cG) ?_;grind[aE]
 |j+1,i,q+1,H,b6,aP,aH,s,M,aR,hu,ar=>by
  have t:=fG au;have bg:=t.ax;have aM:=t.sites;have bm:=e.dz;have bl:=e.kH;have aG:i<x.ax.length:=aa;have aB:x.ax[i]? =A x.ax[i]:=al;have bh:=(hI (t.code aB)).vars;have on:=N5 au e O ay j (i+1) q;have bo:lB x k i=oU x k i x.ax[i]:=by grind[lB]
  have aJ:cr x k i=kU x k i x.ax[i]:=by grind[cr]
  have bq:∀v,v<x.ax[i].vars.length->bj x.ax i+v<b7 x:=λv U=>by
   have:=si aB U;grind[b7]
  have bi:=nT au;have bk:=oH (List.getElem_mem aG);generalize x.ax[i]=co at*;have a5:=e8 (show i<=1000000000 by omega);have pP:=s.lt;refine cu @xL.eq_2 @CL.eq_1 (dh s.aQ) (s.ax.bf cG) ?_;refine N7 au aB (B:=H.next) aa co.vars.length 0 N H .aq aa aa s Nat.le.refl (aZ.nil _ _ _ _) ?_;intro H1 v1 a0 aT;have ai:aw H H1:=a0.aC;have s1:=s.aC ai;simp-implicitDefEqProofs(disch:=try exact aY)only[CR];refine cB (JP e aM al (λv U=> ?_) s1 aT.az) ?_
  ·grind
  rintro a1 ao ⟨aU,w⟩;refine⟨w.1,?_⟩;have s2:=s1.aC w;have ad:=ai.trans w;have Q:qM k (aO (fa k.fields (((List.range co.vars.length).map λv=>bj x.ax i+v).map k.node))):=W4 (GY _ _) λc aA=>(g4.1 aA).1
  refine N4 au e aB s2 (hu.aC ad) co.ins.length 0 N ao _ a1 aa aa (.refl _) aU.az Q ?_;intro G a_ aj Y;rw[List.drop_zero]at Y;have y:=s2.aC aj;have m:=ad.trans aj;have T:fP (l1 (aO (fa k.fields (((List.range co.vars.length).map λv=>bj x.ax i+v).map k.node))) (co.ins.map λi=>aO (eX x k i))):=Q6 Q.1;have R:∀z,z∈l1 (aO (fa k.fields (((List.range co.vars.length).map λv=>bj x.ax i+v).map k.node))) (co.ins.map λi=>aO (eX x k i))↔∃n:Nat,z=n/\(fC k.fields ((List.range co.vars.length).map λv=>k.node (bj x.ax i+v)) n\/∃i∈co.ins,n∈eX x k i):=by
   intro z;rw[OZ,List.map_map];simp only[List.mem_map,aO];constructor
   ·rintro(⟨n,aL,rfl⟩|⟨_,⟨ii,aF,rfl⟩,h⟩)
    ·exact⟨n,rfl,.inl (nP.1 aL)⟩
    grind
   ·rintro⟨n,rfl,h|⟨ii,aF,h⟩⟩
    ·exact .inl ⟨n,nP.2 h,rfl⟩
    grind
  have hlen:(l1 (aO (fa k.fields (((List.range co.vars.length).map λv=>bj x.ax i+v).map k.node))) (co.ins.map λi=>aO (eX x k i))).length<=k.fields.length:=vV T λz aS=>by
   obtain⟨n,rfl,h⟩:=(R z).1 aS;rcases h with h|⟨ii,_,h⟩
   ·have:=(g4.1 (nP.2 h)).1;omega
   ·have:=Py h;omega
  have bd:h3 (h3 (l1 (aO (fa k.fields (((List.range co.vars.length).map λv=>bj x.ax i+v).map k.node))) (co.ins.map λi=>aO (eX x k i))) (aO (hM x k))) (aO (kU x k i co))=aO (oU x k i co):=adK aB _ T R;generalize l1 (aO (fa k.fields (((List.range co.vars.length).map λv=>bj x.ax i+v).map k.node))) (co.ins.map λi=>aO (eX x k i))=ol at*;simp-implicitDefEqProofs(disch:=try exact aY)only[CS];refine e2 (alf y Y (aR.aC m) (hu.aC m) (f:=i) (u:=aO (cr x k i)) al aa (by grind[fI,zU,hM]) (by grind[fI,AN])) λam K aV ak=> ?_
  rw[aJ]at aV;have ab:aZ aN G.next ba K (aO (lB x k i)) am:=al
  have hq:=y.aC ak;have ah:=m.trans ak;have aW:dS (.ptr W0 0 0)=A (.ptr W0 0 0):=rfl;obtain⟨l,H',ap,p,L,bc⟩:=ar.qV dJ M ah ((ab.kt fy).keep (.le λq (aH:G.next<=q)=>by show H.next<=q;have:=m.1;omega)) al;have aX:=aw.push K (.row I 1 [[am]]);have a3:=hq.aC aX;have a2:bG (A b6) b6=true:=by simp[bG,ar.az.rd]
  have an:=s.eu L O;have st:=aiR (v:=l) an.cC p.az.one;refine bb aW (gL hq.cC) (λz0=>qB z0 ab.az.one) ap st (ag (gL y.cC) (ag (gL a3.cC) (ag a2 (ag @qt.eq_1 a5)))) ?_;have o:∀q,q≠W0->(H'.set W0 (.row I 13 [fi a b cc d x.main k.count ov nv fv gv uv ch l])).get q=H'.get q:=λq aH=>ae.b_ (Ne.symm aH)
  have be:=ah.1;have ec:∀q,q<E->q≠W0->(H'.set W0 (.row I 13 [fi a b cc d x.main k.count ov nv fv gv uv ch l])).get q=H.get q:=λq aH S=>by rw[o q S,L.2 q aH]
  have av:((List.range i).map λf=>aO (lB x k f))++[aO (lB x k i)]=(List.range (i+1)).map λf=>aO (lB x k f):=by grind[List.range_succ]
  rw[av]at p;have V:du H (λq=>W0<q/\q<E) (H'.set W0 (.row I 13 [fi a b cc d x.main k.count ov nv fv gv uv ch l])) (λq=>W0<q/\q<E):=λq c aH g=>⟨aH,al⟩
  refine(on _ l aa aa an.set (by simp;omega) (aR.keep V) (hu.keep V) (p.keep λq c (aH:E<=q) g=>⟨aH,al⟩)).mono ?_;rintro r a9 ⟨rfl,a4,a6,a7,a8,br⟩;exact⟨rfl,a4,a6,a7,by simp at a8;omega,λq aH S=>al⟩
end
end
section
open Go.a2
set_option maxRecDepth 2000
structure Ux(x:bq)(zX W0:Nat)(a b cc d ov nv fv gv uv ch b6:af)(H:ae):Prop where
 aV:fX x (a2.fK x) zX W0 a b cc d ov nv fv gv uv ch b6 H
 aR:aI aN H (W0< ·) (aO (hM x (a2.fK x))) gv
 hu:aI (bp aN) H (W0< ·) ((List.range x.ax.length).map λf=>aO (cr x (a2.fK x) f)) uv
 a_:aI (bp aN) H (W0< ·) ((List.range x.ax.length).map λf=>aO (lI x (a2.fK x) f)) ch
 hw:aI (bp aN) H (W0< ·) ((List.range x.ax.length).map λf=>aO (lB x (a2.fK x) f)) b6
section
variable {x:bq}{H:ae}{ok:Nat->Prop}
theorem FK(au:right x=J){V:af}(aF:cE H ok x V):W (aK P aD 39 [V] H) λr H'=>∃zX W0 a b cc d ov nv fv gv uv ch b6,r= .ptr W0 0 0/\Ux x zX W0 a b cc d ov nv fv gv uv ch b6 H'/\aw H H':=by
 have p:=fG au;have R:=aF;have m:=u_ x;have aV:=p.sites;have bh:=p.ax;have bi:=p.globals;obtain⟨_,rfl,a,b,cc,d,rfl,ah,ai,ay,aM⟩:=aF;refine agv 5000 ?_;obtain⟨zX,N⟩:∃zX,zX=H.next:=⟨_,rfl⟩
 have ad:=aw.push H (.row I 5 [[a,b,cc,d,D F x.main]]);have l:=ae.a1 H (.row I 5 [[a,b,cc,d,D F x.main]]);have w:(H.push (.row I 5 [[a,b,cc,d,D F x.main]])).next=zX+1:=by rw[N];rfl
 refine bT @Sj.eq_1 (dQ ah ai ay aM) (cq l) ?_;refine e2 (ad7 au (R.aC ad)) ?_;rintro _ h ⟨ov,nv,fv,rfl,a6,bd,bo,bO⟩ y;rw[<-N]at l ⊢;have K:=y.get l;generalize aU:a2.fK x=k at*;have ao:ey P 78 [(0,.agg [a,b,cc,d,D F x.main]),(1,.agg (bl k.count ov nv fv))]=A (.agg (fi a b cc d x.main k.count ov nv fv .aq .aq .aq .aq)):=K0;have ap:fl h.next (.agg (fi a b cc d x.main k.count ov nv fv .aq .aq .aq .aq))=A (.ptr h.next 0 0,.row I 13 [fi a b cc d x.main k.count ov nv fv .aq .aq .aq .aq]):=by
  have ar:=ah.one;have av:=ai.one;have aA:=ay.one;have aB:=aM.one;have aE:=a6.one;have aG:=bd.one;have aJ:=bo.one;simp[fl,af.cells,fi,ar,av,aA,aB,aE,aG,aJ];rfl
 have bb:bG (A (.agg [a,b,cc,d,D F x.main])) (.agg [a,b,cc,d,D F x.main])=true:=by simp[bG,af.beq,e9.beq,ah.rd,ai.rd,ay.rd,aM.rd]
 have z:=aw.push h (.row I 13 [fi a b cc d x.main k.count ov nv fv .aq .aq .aq .aq]);have cC:=ae.a1 h (.row I 13 [fi a b cc d x.main k.count ov nv fv .aq .aq .aq .aq]);refine dd (cq K) ao ap (cq l) bb ?_;obtain⟨W0,M⟩:∃W0,W0=h.next:=⟨_,rfl⟩
 have bk:(h.push (.row I 13 [fi a b cc d x.main k.count ov nv fv .aq .aq .aq .aq])).next=W0+1:=by rw[M];rfl
 rw[<-M]at cC ⊢;have ba:=ad.trans y;have ab:=ba.trans z;have aT:zX<W0:=by have:=y.1;omega
 have S:fX x k zX W0 a b cc d ov nv fv .aq .aq .aq .aq (h.push (.row I 13 [fi a b cc d x.main k.count ov nv fv .aq .aq .aq .aq])):=by
  have t:du h (λL=>zX+1<=L) (h.push (.row I 13 [fi a b cc d x.main k.count ov nv fv .aq .aq .aq .aq])) (· <W0):=λq c _ g=>⟨by have:=ae.bm g;omega,z.get g⟩
  refine⟨z.get K,cC,R.keep λq c _ g=>⟨by have:=ae.bm g;omega,ab.get g⟩,?_,?_,?_,aT⟩
  ·exact a6.keep (w▸t)
  ·exact bd.keep (w▸t)
  ·exact bo.keep (w▸t)
 generalize h.push (.row I 13 [fi a b cc d x.main k.count ov nv fv .aq .aq .aq .aq])=aj at*;refine N3 au (B:=W0+1) aa x.globals.length 0 _ aj .aq aa aa S aa (aZ.nil _ _ _ _) ?_;intro ak v4 G a5;have T:=S.eu G aa;have a9:dS (.ptr W0 0 0)=A (.ptr W0 0 0):=rfl;simp-implicitDefEqProofs(disch:=try exact aY)only[CP];refine cB (JP m aV al (λv bj=> ?_) T a5.az) ?_
 ·grind[eA,b7]
 rintro gv e ⟨u,o⟩;refine⟨o.1,?_⟩;have U:=T.aC o;have aL:((List.range x.globals.length).map (eA x)).map k.node=(List.range x.globals.length).map λg=>k.node (eA x g):=by rw[List.map_map];rfl
 rw[aL]at u;have st:=aiS (v:=gv) U.cC u.az.one;have aX:=U.set (gv':=gv) (uv':= .aq) (tv':= .aq) (wv':= .aq);have a_:∀q,q≠W0->(e.set W0 (.row I 13 [fi a b cc d x.main k.count ov nv fv gv .aq .aq .aq])).get q=e.get q:=λq aH=>ae.b_ (Ne.symm aH)
 have n6:(e.set W0 (.row I 13 [fi a b cc d x.main k.count ov nv fv gv .aq .aq .aq])).next=e.next:=rfl
 have hle:e.next<=(e.set W0 (.row I 13 [fi a b cc d x.main k.count ov nv fv gv .aq .aq .aq])).next:=Nat.le.refl
 refine bF a9 st ?_;have bc:=G.1;have be:=o.1;have O:aI aN (e.set W0 (.row I 13 [fi a b cc d x.main k.count ov nv fv gv .aq .aq .aq])) (λq=>W0<q/\q<e.next) (aO (hM x k)) gv:=(u.kt fy).keep λq c (aH:ak.next<=q) g=>⟨⟨aa,ae.bm g⟩,al⟩
 generalize e.set W0 (.row I 13 [fi a b cc d x.main k.count ov nv fv gv .aq .aq .aq])=am at*;refine N2 au m (E:=e.next) aa aa x.ax.length 0 _ am .aq aa aa aX aa O (aZ.nil _ _ _ _) ?_;intro i uv a0 bf aP a7;have Q:aI aN i (λq=>W0<q/\q<i.next) (aO (hM x k)) gv:=O.keep λq c aH g=>⟨⟨aH.1,aa⟩,al⟩
 have s:aI (bp aN) i (λq=>W0<q/\q<i.next) ((List.range x.ax.length).map λf=>aO (cr x k f)) uv:=a7.az.keep λq c (aH:e.next<=q) g=>⟨⟨aa,ae.bm g⟩,g⟩
 simp-implicitDefEqProofs(disch:=try exact aY)only[r0];refine cB (ajW au m a0 s aa Nat.le.refl) ?_;rintro _ j ⟨rfl,ch,a3,aW,aS,aQ⟩;refine⟨aS,?_⟩;have n:du i (λq=>W0<q/\q<i.next) j (λq=>W0<q/\q<j.next):=λq c aH g=>⟨⟨aH.1,aa⟩,al⟩
 refine(N5 au m (E:=j.next) aa aa x.ax.length 0 _ j .aq aa aa a3 Nat.le.refl (Q.keep n) (s.keep n) (aZ.nil _ _ _ _)).mono ?_;rintro r an ⟨rfl,b6,a4,a8,bg,aR⟩;have Y:du j (λq=>W0<q/\q<j.next) an (W0< ·):=λq c aH g=>⟨aH.1,al⟩
 subst aU;refine⟨_,_,_,_,_,_,_,_,_,_,_,_,_,rfl,⟨a4,(Q.keep n).keep Y,(s.keep n).keep Y,aW.keep λq c (aH:i.next<=q) g=>⟨aa,by grind[ae.bm]⟩,a8.az.keep λq c (aH:j.next<=q) g=>⟨aa,g⟩⟩,aa,λq aH=> ?_⟩;rw[aR q aa aa,aQ q aa aa,aP q aa aa,a_ q aa,o.2 q aa,G.2 q aa,ab.2 q aH]
end
end
section
open Go.a2
set_option maxRecDepth 2000
def qO(x:bq):Prop:=(∀g∈x.ax,g.vars.length<=1000000000)/\∀c∈x.ax,c.ins.length<=1000000000
noncomputable def pa(x:bq):List (List Int):=if right x=J then(List.range x.ax.length).map λf=>aO (lI x (a2.fK x) f)else[]
noncomputable def oT(x:bq):List (List Int):=if right x=J then(List.range x.ax.length).map λf=>aO (lB x (a2.fK x) f)else[]
noncomputable def p3(x:bq)(f:Int):List Int:=if right x=J then(if 0<=f then aO (cr x (a2.fK x) f.toNat)else[])else[]
section
variable {x:bq}{H:ae}{ok:Nat->Prop}
theorem aim(aB:qO x){V:af}(aF:cE H ok x V){f:Int}:W (aK P aD 22 [V,D F f] H) λr H'=>aI aN H' ba (p3 x f) r/\aw H H':=by
 by_cases au:right x=J
 ·grind[p3,ain]
 ·have e:p3 x f=[]:=if_neg au;rw[e];have h:=aF;obtain⟨_,rfl,a,b,cc,d,rfl,ah,ai,ay,aM⟩:=aF;refine Rt 0 ?_;have c:=aw.push H (.row I 5 [[a,b,cc,d,D F x.main]]);have g:=ae.a1 H (.row I 5 [[a,b,cc,d,D F x.main]]);refine bT @Cg.eq_1 (dQ ah ai ay aM) (cq g) ?_;refine bz (JI aB.1 aB.2 al (h.aC c)) λK p=> ?_
  have ne:bx P .neq 73 J .gC .gC=A (C I):=aG;refine bK ne ?_;exact aE.2 ⟨.nil,c.trans p⟩
theorem aeL(aB:qO x){V:af}(aF:cE H ok x V):W (aK P aD 19 [V] H) λr H'=>aI (bp aN) H' ba (pa x) r/\aw H H':=by
 have h:=aF;obtain⟨_,rfl,a,b,cc,d,rfl,ah,ai,ay,aM⟩:=aF;refine afJ 0 ?_;have c:=aw.push H (.row I 5 [[a,b,cc,d,D F x.main]]);have g:=ae.a1 H (.row I 5 [[a,b,cc,d,D F x.main]]);refine bT @R9.eq_1 (dQ ah ai ay aM) (cq g) ?_;refine bz (A0 (h.aC c) aB.1 aB.2) λK p=> ?_
 by_cases au:right x=J
 ·have e:pa x=(List.range x.ax.length).map λf=>aO (lI x (a2.fK x) f):=if_pos au
  rw[e,au];refine bK (cq (p.get g)) ?_;refine cB (FK au (h.aC (c.trans p))) ?_;rintro _ l ⟨zX,W0,bY,b',m,n,ov,nv,fv,gv,uv,ch,b6,rfl,s,i⟩;refine⟨i.1,?_⟩;have k:dS (.ptr W0 0 0)=A (.ptr W0 0 0):=rfl;refine bF k (gL s.aV.cC) ?_;exact aE.2 ⟨s.a_.any,c.trans (p.trans i)⟩
 ·have e:pa x=[]:=if_neg au;have j:right x=false:=al;rw[e,j];refine bM ?_;exact aE.2 ⟨.nil,c.trans p⟩
theorem aeF(aB:qO x){V:af}(aF:cE H ok x V):W (aK P aD 21 [V] H) λr H'=>aI (bp aN) H' ba (oT x) r/\aw H H':=by
 have h:=aF;obtain⟨_,rfl,a,b,cc,d,rfl,ah,ai,ay,aM⟩:=aF;refine afP 0 ?_;have c:=aw.push H (.row I 5 [[a,b,cc,d,D F x.main]]);have g:=ae.a1 H (.row I 5 [[a,b,cc,d,D F x.main]]);refine bT @Sc.eq_1 (dQ ah ai ay aM) (cq g) ?_;refine bz (A0 (h.aC c) aB.1 aB.2) λK p=> ?_
 by_cases au:right x=J
 ·have e:oT x=(List.range x.ax.length).map λf=>aO (lB x (a2.fK x) f):=if_pos au
  rw[e,au];refine bK (cq (p.get g)) ?_;refine cB (FK au (h.aC (c.trans p))) ?_;rintro _ l ⟨zX,W0,bY,b',m,n,ov,nv,fv,gv,uv,ch,b6,rfl,s,i⟩;refine⟨i.1,?_⟩;have k:dS (.ptr W0 0 0)=A (.ptr W0 0 0):=rfl;refine bF k (gL s.aV.cC) ?_;exact aE.2 ⟨s.hw.any,c.trans (p.trans i)⟩
 ·have e:oT x=[]:=if_neg au;have j:right x=false:=al;rw[e,j];refine bM ?_;exact aE.2 ⟨.nil,c.trans p⟩
theorem aeC(aB:qO x){V:af}(aF:cE H ok x V){f:Int}:W (aK P aD 23 [V,D F f] H) λr H'=>aI aN H' ba (p3 x f) r/\aw H H':=by
 have k:=aF;obtain⟨_,rfl,a,b,cc,d,rfl,ah,ai,ay,aM⟩:=aF;refine af1 0 ?_;have c:=aw.push H (.row I 5 [[a,b,cc,d,D F x.main]]);have h:=ae.a1 H (.row I 5 [[a,b,cc,d,D F x.main]]);refine bT @Sd.eq_1 (dQ ah ai ay aM) (cq h) ?_;refine bz (A0 (k.aC c) aB.1 aB.2) λK p=> ?_
 have l:aJ P K 24 (.ptr H.next 0 2)=A cc:=rp (p.get h);have lc:∀H0,bD P H0 .len [24] [cc]=A (D F x.ax.length):=λH0=>ay.len cG
 by_cases au:right x=J
 ·have e:p3 x f=if 0<=f then aO (cr x (a2.fK x) f.toNat)else[]:=if_pos au
  rw[e,au];by_cases g:f<0
  ·refine bK g ?_;rw[if_neg aa];exact aE.2 ⟨.nil,c.trans p⟩
  ·by_cases i:(x.ax.length:Int)<=f
   ·refine cu g i l lc ?_;have n:cr x (a2.fK x) f.toNat=[]:=by
     grind[cr]
    rw[n];exact aE.2 ⟨by split<;>exact .nil,c.trans p⟩
   ·refine dd g i l lc (cq (p.get h)) ?_;refine cB (FK au (k.aC (c.trans p))) ?_;rintro _ u ⟨zX,W0,bY,b',v,y,ov,nv,fv,gv,uv,ch,b6,rfl,s,m⟩;refine⟨m.1,?_⟩;have t:dS (.ptr W0 0 0)=A (.ptr W0 0 0):=rfl;obtain⟨q,w,i1,i2,i3⟩:=aI.list s.hu (j:=f) (a:=aO (cr x (a2.fK x) f.toNat)) aa (by
     grind)
    refine cu t (gL s.aV.cC) i1 i2 ?_;rw[if_pos aa];exact aE.2 ⟨i3.any,c.trans (p.trans m)⟩
 ·have e:p3 x f=[]:=if_neg au;have o:right x=false:=al;rw[e,o];refine bM ?_;exact aE.2 ⟨.nil,c.trans p⟩
end
end
section
set_option maxRecDepth 100000
set_option maxHeartbeats 4000000
noncomputable section
def hq(G:ao):eQ Tryz.f4 G:=⟨_,λN=>pD an (x:=trivial)⟩
def uB(G:ao)(N:Nat):hX Tryz.f9 G N (·.ad.ad.ad) (a8 Tryz.f9) []:=⟨_,v0 an⟩
def uA(G:ao)(N:Nat)(L1:T2):gT 1 3 Tryz.f9 G N (·.ad.ad.aj.ad.aj.aj) (bd L1 1 3) [(0,(bu (uB G N)))]:=⟨_,v2 an⟩
def r7(G:ao)(N:Nat):Nat->T2
 |0=>ns
 |n+1=>uA G N (r7 G N n)
def n4(G:ao)(N:Nat):f_ Tryz.f9 G N:=⟨_,t1 (ak (ak (ak ((uB G N).2) (ak (bh (bH (λm=>(uA G N (r7 G N m)).2))) an)) an) an)⟩
def ag4(N:Nat):=eo Tryz.func9 λG=>(n4 G N).2
def R8(G:ao):uT Tryz.f16 G:=⟨λH=>eg H (G 33 [X [114,101,99,111,114,100,32,82,32,123,32,110,58,32,82,59,32,125,32,102,117,110,99,32,102,40,114,58,32,82,41,58,32,82,32,123,32,114,101,116,117,114,110,32,114,46,110,59,32,125,32,102,117,110,99,32,109,97,105,110,40,41,32,123,32,108,101,116,32,97,58,32,82,32,61,32,110,101,119,32,82,59,32,97,46,110,32,61,32,110,101,119,32,82,59,32,108,101,116,32,98,58,32,82,32,61,32,102,40,97,41,59,32,105,102,32,98,32,61,61,32,110,117,108,108,32,82,32,123,32,112,114,105,110,116,32,49,59,32,125,32,112,114,105,110,116,32,50,59,32,125]] H) λx7 ah=>aU (jd x7 0) λx8=>aU (jd x7 1) λx9=>fA ah [af.aq,af.aq,af.aq] λx1 ai=>fA ai [D F 0,D F 0] λx2 ay=>gG ay (cz P ay 62 x1 x8) λaM=>gG aM (cz P aM 65 x2 x9) λm=>aU (aJ P m 62 x1) λx11=>eg m (G 34 [x11] m) λx12 Q=>aU (jd x12 0) λS=>aU (jd x12 1) λT=>fA Q [af.aq,af.aq,af.aq,af.aq,D F 0] λx3 R=>fA R [D F 0,D F 0] λx4 B=>gG B (cz P B 27 x3 S) λE=>gG E (cz P E 65 x4 T) λd=>aU (aJ P d 27 x3) λx15=>eg d (G 11 [x15] d) λx16 L=>fA L [D F 0,af.aq,af.aq,af.aq] λx5 n=>gG n (cz P n 33 x5 x16) λe=>aU (bP P 33 x5 0) λx17=>aU (aJ P e 3 x17) λU=>aU (bx P .eql 3 J U (D F 2)) λb=>b1 b J e (qr (aJ P e 27 x3)) λV f=>b1 b J f (λq=>eh f (G 22 [V,D F 0] f) q) λW o=>b1 b J o (λq=>jK (A (.az (o).next 0 2 1 (A 2),.row I 1 [[D F 0],[D F 1]])) q) λY g=>b1 b J g (λq=>eh g (G 13 [W,Y] g) q) λaa p=>aU (dA b (A aa) (A (C I))) λx25=>b1 x25 J p (qr (aJ P p 27 x3)) λab h=>b1 x25 J h (λq=>eh h (G 20 [ab] h) q) λad r=>b1 x25 J r (λq=>jK (A (.az (r).next 0 0 1 (A 0),.row I 1 [])) q) λae s=>b1 x25 J s (λq=>jK (A (.az (s).next 0 2 1 (A 2),.row I 1 [[D F 0],[D F 1]])) q) λaj t=>b1 x25 J t (λq=>jK (gu P (t).next 31 2 [(0,ae),(1,aj)]) q) λak i=>b1 x25 J i (λq=>eh i (G 17 [ad,ak] i) q) λal u=>aU (dA x25 (A al) (A (C I))) λa=>b1 a J u (qr (aJ P u 27 x3)) λam j=>b1 a J j (λq=>eh j (G 18 [am] j) q) λap v=>b1 a J v (λq=>jK (A (.az (v).next 0 0 1 (A 0),.row I 1 [])) q) λar w=>b1 a J w (λq=>jK (A (.az (w).next 0 0 1 (A 0),.row I 1 [])) q) λau x=>b1 a J x (λq=>jK (gu P (x).next 31 2 [(0,ar),(1,au)]) q) λav k=>b1 a J k (λq=>eh k (G 17 [ap,av] k) q) λax y=>aU (dA a (A ax) (A (C I))) λc=>b1 c J y (qr (aJ P y 27 x3)) λaA l=>b1 c J l (λq=>eh l (G 14 [aA] l) q) λK z=>b1 c J z (λq=>iZ (bD P .empty .len [30] [K]) (bD P z .len [30] [K]) q) λaB M=>b1 c J M (cn (bx P .eql 3 J aB (D F 0))) λaC O=>aU (dA c (A aC) (A (C I))) λaD=>A (aD,O),λN=>N8 an⟩
end
end
section
open Go.a2
set_option maxRecDepth 2000
structure Small(x:bq):Prop where
 ca:x.ca.length<=20
 globals:x.globals.length<=20
 ax:x.ax.length<=20
 sites:x.sites.length<=80
 code:∀c∈x.ax,c.vars.length<=150/\c.ins.length<=150
def Small.s3{x:bq}(h:Small x):qO x:=⟨λc aA=>by have:=(h.code c aA).1;omega,λc aA=>by have:=(h.code c aA).2;omega⟩
section
variable {x:bq}{H:ae}{ok:Nat->Prop}
theorem Nm{a b cc d:af}{zX:Nat}(i:x.ax.length<=20)(aF:aI fO H ok x.ax cc)(aQ:H.get zX=A (.row I 5 [[a,b,cc,d,D F x.main]])){N:Nat}:∀(j k m:Nat),k+j=x.ax.length->j<m->(∀c∈x.ax.take k,c.vars.length<=150/\c.ins.length<=150)->
  W (r7 (aK P aD) N m (.ptr zX 0 0) (D F (k:Nat)) H) λr H'=>(∃q,r= C q/\(q=I->∀c∈x.ax,c.vars.length<=150/\c.ins.length<=150))/\H'=H
 |_,_,0,_,hm,_=>aa
 |0,k,m+1,l,_,o=>by
  have e:¬(k:Int)<(x.ax.length:Int):=aa;have lc:∀H0,bD P H0 .len [24] [cc]=A (D F x.ax.length):=λH0=>aF.len cG
  refine bb @uB.eq_1 @uA.eq_1 @r7.eq_2 @n4.eq_1 (dh aQ) lc ?_;grind[aE]
 |j+1,k,m+1,l,s,o=>by
  have e:(k:Int)<(x.ax.length:Int):=aa;have p:k<x.ax.length:=aa;have lc:∀H0,bD P H0 .len [24] [cc]=A (D F x.ax.length):=λH0=>aF.len cG
  obtain⟨L,n,gv,gw,f,h,bS,b2⟩:=aF.oC (j:=(k:Int)) (g:=x.ax[k]) aa al;have lv:∀H0,bD P H0 .len [23] [gv]=A (D F x.ax[k].vars.length):=λH0=>bS.len cW
  have li:∀H0,bD P H0 .len [47] [gw]=A (D F x.ax[k].ins.length):=λH0=>b2.len eJ
  have on:=Nm i aF aQ (N:=N) j (k+1) m aa aa;by_cases a6:(150:Int)<(x.ax[k].vars.length:Int)
  ·simp-implicitDefEqProofs(disch:=try exact aY)only[uB,uA,r7,n4,reduceAdd,reduceLeDiff,reduceIte,bB,dh aQ,lc,e,decide_true,f,h _ (aw.refl _),lv,a6,gt_iff_lt];grind[aE]
  ·by_cases bd:(150:Int)<(x.ax[k].ins.length:Int)
   ·simp-implicitDefEqProofs(disch:=try exact aY)only[uB,uA,r7,n4,reduceAdd,reduceLeDiff,reduceIte,bB,dh aQ,lc,e,decide_true,f,h _ (aw.refl _),lv,li,a6,bd,gt_iff_lt,decide_false];grind[aE]
   ·simp-implicitDefEqProofs(disch:=try exact aY)only[uB,uA,r7,n4,reduceAdd,reduceLeDiff,reduceIte,bB,dh aQ,lc,e,decide_true,f,h _ (aw.refl _),lv,li,a6,bd,gt_iff_lt,decide_false,e8 (show k<=1000000000 by omega)];grind[List.take_add_one]
theorem aah{V:af}(aF:cE H ok x V):W (aK P aD 9 [V] H) λr H'=>(∃q,r= C q/\(q=I->Small x))/\aw H H':=by
 obtain⟨_,rfl,a,b,cc,d,rfl,ah,ai,ay,aM⟩:=aF;refine ag4 (x.ax.length+1) ?_;have g:=aw.push H (.row I 5 [[a,b,cc,d,D F x.main]]);have aQ:=ae.a1 H (.row I 5 [[a,b,cc,d,D F x.main]]);have cy:∀H0,bD P H0 .len [22] [a]=A (D F x.ca.length):=λH0=>ah.len fx
 have f:∀H0,bD P H0 .len [23] [b]=A (D F x.globals.length):=λH0=>ai.len cW
 have lc:∀H0,bD P H0 .len [24] [cc]=A (D F x.ax.length):=λH0=>ay.len cG
 have fE:∀H0,bD P H0 .len [25] [d]=A (D F x.sites.length):=λH0=>aM.len fV
 have c:=dQ ah ai ay aM x.main;have yes:W (A (af.bool J,H.push (.row I 5 [[a,b,cc,d,D F x.main]]))) λr H'=>(∃q,r= C q/\(q=I->Small x))/\aw H H':=(by grind[aE])
 by_cases bu:(20:Int)<(x.ca.length:Int)
 ·simp-implicitDefEqProofs(disch:=try exact aY)only[n4,reduceAdd,reduceLeDiff,reduceIte,bB,c,dh aQ,cy,bu,decide_true,gt_iff_lt];omega
 by_cases a6:(20:Int)<(x.globals.length:Int)
 ·simp-implicitDefEqProofs(disch:=try exact aY)only[n4,reduceAdd,reduceLeDiff,reduceIte,bB,c,dh aQ,cy,f,bu,a6,decide_true,decide_false,gt_iff_lt];omega
 by_cases bd:(20:Int)<(x.ax.length:Int)
 ·simp-implicitDefEqProofs(disch:=try exact aY)only[n4,reduceAdd,reduceLeDiff,reduceIte,bB,c,dh aQ,cy,f,lc,bu,a6,bd,decide_true,decide_false,gt_iff_lt];omega
 by_cases bo:(80:Int)<(x.sites.length:Int)
 ·simp-implicitDefEqProofs(disch:=try exact aY)only[n4,reduceAdd,reduceLeDiff,reduceIte,bB,c,dh aQ,cy,f,lc,fE,bu,a6,bd,bo,decide_true,decide_false,gt_iff_lt];omega
 simp-implicitDefEqProofs(disch:=try exact aY)only[n4,reduceAdd,reduceLeDiff,reduceIte,bB,c,dh aQ,cy,f,lc,fE,bu,a6,bd,bo,decide_true,decide_false,gt_iff_lt];refine(Nm (x:=x) (ok:=ok) aa (ay.aC g) aQ x.ax.length 0 (x.ax.length+1) aa aa aW).mono ?_;rintro r H' ⟨⟨q,rfl,aH⟩,rfl⟩;exact⟨⟨q,rfl,λe=>⟨aa,aa,aa,aa,aH e⟩⟩,g⟩
end
end
section
open Go.a2
set_option maxRecDepth 2000
structure iM(x:bq)(k:a2.cK)(zX W0 B:Nat)(a b cc d:af)(n:Nat)(ov nv fv gv uv:af)(H:ae):Prop where
 aQ:H.get zX=some (.row false 5 [[a,b,cc,d,.int .i64 x.main]])
 cC:H.get W0=some (.row false 11 [gP a b cc d x.main n ov nv fv gv uv])
 aF:cE H (· <B) x (.agg [a,b,cc,d,.int .i64 x.main])
 aX:aI aN H (· <B) (aO k.of) ov
 aL:aI aN H (· <B) k.nodes nv
 aA:hF nv
 aB:aI (bp aN) H (· <B) k.fields fv
 aR:aI aN H (· <B) (aO (hM x k)) gv
 hu:aI (bp aN) H (· <B) ((List.range x.ax.length).map λf=>aO (cr x k f)) uv
 iD:zX<B
 pP:W0<B
 oM:B<=H.next
section
variable {x:bq}{k:a2.cK}{zX W0 B E:Nat}{a b cc d ov nv fv gv uv:af}{n:Nat}{H:ae}
def iM.eu{H':ae}(s:iM x k zX W0 B a b cc d n ov nv fv gv uv H)(p:cg B H H'):iM x k zX W0 B a b cc d n ov nv fv gv uv H':=by
 have e:du H (· <B) H' (· <B):=λq c (aH:q<B) g=>⟨aH,by rw[p.2 q aH];exact g⟩
 have:=s.oM;have:=p.1;exact⟨(p.2 zX s.iD).trans s.aQ,(p.2 W0 s.pP).trans s.cC,s.aF.keep e,s.aX.keep e,s.aL.keep e,s.aA,s.aB.keep e,s.aR.keep e,s.hu.keep e,s.iD,s.pP,aa⟩
theorem iM.aC{H':ae}(s:iM x k zX W0 B a b cc d n ov nv fv gv uv H)(p:aw H H'):iM x k zX W0 B a b cc d n ov nv fv gv uv H':=s.eu (ek p s.oM)
def oi.T_(s:oi x k zX W0 E x.ax.length a b cc d n ov nv fv gv uv H):iM x k zX W0 H.next a b cc d n ov nv fv gv uv H:=by
 obtain⟨f,l2,h⟩:=s.gr;have e:∀{ok:Nat->Prop},du H ok H (· <H.next):=λq c _ g=>⟨ae.bm g,g⟩
 exact⟨s.aQ,s.cC,s.aF.keep e,s.aX.keep e,s.aL.keep e,s.aA,s.aB.keep e,s.aR.keep e,s.hu.az.keep e,aa,aa,aa⟩
end
end
end Go.Proofs.YtmhhnnklfcbgfaaGreat
namespace Go.a2
open Go.cv
open Classical
noncomputable def jT(out:List Int):List Int->List Int->List Int
 |[],cur=>cur
 |a::r,cur=>jT out r (if a∈out/\a∉cur then cur++[a]else cur)
def Ex{out:List Int}:∀{r cur:List Int},∃t,jT out r cur=cur++t
 |[],cur=>⟨[],by simp[jT]⟩
 |a::r,cur=>by
  rw[jT];split
  ·obtain⟨t,e⟩:=Ex (out:=out) (r:=r) (cur:=cur++[a]);grind
  ·exact Ex
theorem F9{out:List Int}{z:Int}:∀{r cur:List Int},z∈jT out r cur↔z∈cur\/(z∈r/\z∈out)
 |[],cur=>by simp[jT]
 |a::r,cur=>by
  rw[jT,F9 (r:=r)];grind
theorem AA{out:List Int}:∀{r cur:List Int},cur.Nodup->(jT out r cur).Nodup
 |[],cur,h=>h
 |a::r,cur,h=>by
  rw[jT];split
  ·rename_i e;exact AA (by grind)
  ·exact AA h
noncomputable def iu(k:cK)(tl:Nat->List Int)(out:List Int):List In->List Int->List Int
 |[],cur=>cur
 |i::is,cur=>iu k tl out is (jT out (gf k tl i) cur)
theorem Gc{k:cK}{tl:Nat->List Int}{out:List Int}{z:Int}:∀{is:List In} {cur:List Int},z∈iu k tl out is cur↔z∈cur\/∃i∈is,z∈gf k tl i/\z∈out
 |[],cur=>by simp[iu]
 |i::is,cur=>by
  rw[iu,Gc (is:=is),F9];grind
def PJ{k:cK}{tl:Nat->List Int}{out:List Int}:∀{is:List In} {cur:List Int},cur.Nodup->(iu k tl out is cur).Nodup
 |[],_,h=>h
 |_::is,_,h=>PJ (is:=is) (AA h)
def Gl{k:cK}{tl:Nat->List Int}{out:List Int}:∀{is:List In} {cur:List Int},∃t,iu k tl out is cur=cur++t
 |[],cur=>⟨[],by simp[iu]⟩
 |i::is,cur=>by
  obtain⟨t,e⟩:=Ex (out:=out) (r:=gf k tl i) (cur:=cur);obtain⟨u,a⟩:=Gl (k:=k) (tl:=tl) (out:=out) (is:=is) (cur:=jT out (gf k tl i) cur);grind[iu]
def hT(l:List Int):List Int:=l.mergeSort λx y=>decide (x<=y)
theorem Ge{l:List Int}{a:Int}:a∈hT l↔a∈l:=List.mem_mergeSort
theorem S9(l:List Int):(hT l).length=l.length:=List.length_mergeSort l
def Q_{l:List Int}(h:l.Nodup):fP (hT l):=by
 have ah:(hT l).Pairwise λx y=>decide (x<=y)=true:=List.pairwise_mergeSort (λa b c ah ai=>by grind) (λa b=>by grind) l
 have ai:(hT l).Nodup:=(List.mergeSort_perm l _).nodup_iff.2 h;refine ah.imp₂ (λa b (ay:decide (a<=b)=J) (aM:a≠b)=> ?_) ai;simp at ay;omega
structure jc(x:bq)(k:cK)(tl:Nat->List Int):Prop where
 cA:∀f,(tl f).Nodup
 snd:∀f,∀a∈tl f,∃c:Nat,a=c/\c<k.count/\jP x k f c
theorem jc.start(x:bq)(k:cK):jc x k λ_=>[]:=⟨λ_=>List.nodup_nil,λf a h=>by grind⟩
def Pw{m:Nat}{l:List Int}(h:l.Nodup)(d:∀a∈l,∃c:Nat,a=c/\c<m):l.length<=m:=by
 rw[<-S9];refine vV (Q_ h) λa b=> ?_
 grind[Ge]
def jc.len{x:bq}{k:cK}{tl:Nat->List Int}(h:jc x k tl)(f:Nat):(tl f).length<=k.count:=Pw (h.cA f) λa b=>by
 obtain⟨c,e,ah,_⟩:=h.snd f a b;grind
def jc.more{x:bq}{k:cK}{tl:Nat->List Int}(h:jc x k tl)(j:k.fields.length=k.count){f:Nat}{co:bQ}(aB:x.ax[f]? =A co){is:List In}(b:∀i∈is,i∈co.ins){cur:List Int}(aA:∀a∈cur,∃c:Nat,a=c/\c<k.count/\jP x k f c):∀a∈iu k tl ((cr x k f).map λ(n:Nat)=>(n:Int)) is cur,∃c:Nat,a=c/\c<k.count/\jP x k f c:=by
 intro a g;rcases Gc.1 g with ah|⟨i,aP,ah,ai⟩
 ·grind
 ·obtain⟨c,aA,rfl⟩:=List.mem_map.1 ai;refine⟨c,rfl,j▸tt aA,?_⟩;unfold gf at ah;split at ah
  ·rename_i aX;simp only[List.mem_singleton]at ah;exact .site aB (b i aP) aX ah.symm aA
  ·split at ah
   ·rename_i aX;obtain⟨d,e,_,a_⟩:=h.snd _ _ ah;obtain rfl:c=d:=by omega
    exact .call aB (b i aP) aX a_ aA
   grind
theorem jc.dF{x:bq}{k:cK}{tl:Nat->List Int}(h:jc x k tl){f:Nat}{l:List Int}(au:l.Nodup)(b:∀a∈l,∃c:Nat,a=c/\c<k.count/\jP x k f c):jc x k (g8 tl f l):=by
 refine⟨λg=> ?_,λg=> ?_⟩
 ·unfold g8;split
  ·omega
  ·exact h.cA g
 ·unfold g8;split
  ·grind
  ·exact h.snd g
def WZ{x:bq}{k:cK}{tl:Nat->List Int}{f:Nat}{co:bQ}(aB:x.ax[f]? =A co)(h:(iu k tl ((cr x k f).map λ(n:Nat)=>(n:Int)) co.ins (tl f)).length<=(tl f).length):lM x k tl f:=by
 intro a b i aP z c d;obtain rfl:co=a:=(by grind);obtain⟨t,e⟩:=Gl (k:=k) (tl:=tl) (out:=(cr x k f).map λ(n:Nat)=>(n:Int)) (is:=co.ins) (cur:=tl f);have hm:z∈iu k tl ((cr x k f).map λ(n:Nat)=>(n:Int)) co.ins (tl f):=(by grind[Gc]);grind
def jc.end{x:bq}{k:cK}{tl:Nat->List Int}(h:jc x k tl)(aA:∀f,f<x.ax.length->lM x k tl f)(f:Nat):hT (tl f)=(lI x k f).map λ(n:Nat)=>(n:Int):=by
 have key:∀{f c},jP x k f c->(c:Int)∈tl f:=by
  intro f c a_
  induction a_ with
  |site ah aP aX e d=>
   refine aA _ (by grind) _ ah _ aP _ ?_ (by grind);grind[gf]
  |call ah aP aX _ d g=>
   refine aA _ (by grind) _ ah _ aP _ ?_ (by grind);grind[gf]
 exact vW (Q_ (h.cA f)) (λa b=>h.snd f a (Ge.1 b)) (by grind[Ge])
end Go.a2
namespace Go.Proofs.YtmhhnnklfcbgfaaGreat
open Go.cv
open Nat (reduceAdd reduceLeDiff)
section
open Go.a2
set_option maxRecDepth 2000
def Ml{H H':ae}(aR:∀q b,H.get q=A b->H'.get q=A b):∀{k l:Nat} {r:Nat×List (List af)},hx H k l=A r->hx H' k l=A r
 |0,_,_,h=>by cases h
 |k+1,l,r,h=>by
  rw[hx]at h ⊢;split at h
  ·grind
  ·rename_i s esz els e;rw[aR _ _ e];simp only
   split at h
   ·rename_i a;rw[Ml aR a];exact h
   grind
  grind
def Mo{H:ae}:∀{k l:Nat} {r:Nat×List (List af)},hx H k l=A r->hx H (k+1) l=A r
 |0,_,_,h=>by cases h
 |k+1,l,r,h=>by
  rw[hx]at h ⊢;split at h
  ·exact h
  ·split at h
   ·rename_i a;rw[Mo a];exact h
   grind
  omega
def Mm{H:ae}{l:Nat}{r:Nat×List (List af)}{k:Nat}(h:hx H k l=A r):∀{m:Nat},k<=m->hx H m l=A r
 |0,hm=>al
 |m+1,hm=>by
  rcases Nat.lt_or_eq_of_le hm with ah|rfl
  ·exact Mo (Mm h aa)
  omega
def Rh:∀(l:List Int),oX (l.map fR) (l.map fR)=J
 |[]=>rfl
 |a::l=>by
  simp only[List.map_cons,oX,Rh l,Bool.and_true];simp[fR,e9.beq,af.beq]
def Mk{H H':ae}{L N:Nat}{els:List Int}{a:Int}(d:H.get L=A (.row I 1 (els.map fR)))(f:H'.get L=A (.old N 1 (els.map fR)))(g:H'.get N=A (.row I 1 ((els++[a]).map fR)))(aX:∀q b,q≠L->H.get q=A b->H'.get q=A b):∀{k l:Nat} {r:Nat×List (List af)},hx H k l=A r->hx H' (k+1) l=A r
 |0,_,_,h=>by cases h
 |k+1,l,r,h=>by
  rw[hx]at h;by_cases e:l=L
  ·subst e;rw[d]at h;cases h;have c:hx H' (k+1) N=A (1,(els++[a]).map fR):=by rw[hx,g]
   have j:((els++[a]).map fR).take (els.map fR).length=els.map fR:=al;rw[hx,f];simp only[c,j,Rh];rfl
  ·rw[hx];split at h
   ·grind
   ·rename_i s esz els i;rw[aX _ _ e i];simp only
    split at h
    ·rename_i c;rw[Mk d f g aX c];exact h
    grind
   grind
def ch(l:List Int)(b:Nat):af:=match l with
 |[]=> .aq
 |_::_=> .az b 0 l.length 1 Z
def hQ(l:List Int):bA:= .row I 1 (l.map fR)
theorem qI{l:List Int}{b:Nat}(h:l≠[]):ch l b= .az b 0 l.length 1 none:=by
 cases l with
 |nil=>grind
 |cons=>rfl
def akA(l:List Int)(b:Nat):(ch l b).one=true:=by cases l<;>rfl
def JG(l:List Int)(b:Nat)(H:ae):bD P H .len [30] [ch l b]=A (D F l.length):=by
 cases l with
 |nil=>exact len_nil bV.un
 |cons=>exact hN bV.un _ _ _ _ _
def TN{H:ae}{ok:Nat->Prop}{l:List Int}{b:Nat}(h:l≠[]->ok b/\H.get b=A (hQ l)):aI aN H ok l (ch l b):=by
 by_cases e:l=[]
 ·subst e;exact .nil
 ·rw[qI e];exact .inr (.inl ⟨b,0,Z,I,_,rfl,(h e).1,(h e).2,aW,λj x a=>⟨fR x,al,rfl⟩⟩)
theorem PV{H:ae}{k:Nat}{l:List Int}{b:Nat}(h:l≠[]->hx H k b=A (1,l.map fR))(g:k<=1000){j:Nat}{a:Int}(f:l[j]? =A a):∃p,ct P 30 (ch l b) (D F (j:Nat))=A p/\aJ P H 3 p=A (D F a):=by
 have ar:=(List.getElem?_eq_some_iff.1 f).1;have i:l≠[]:=al;have he:=Mm (h i) g;have aA:(l.map fR)[j]? =A (fR a):=al;have e:ev P 3=A false:=qG;refine⟨.ptr b j 0,?_,?_⟩
 ·grind[qI,nJ,bV]
 ·have d:=he;rw[hx]at d;split at d
  ·rename_i c;cases d;simp only[aJ,c,aA,e];rfl
  ·rename_i c;simp only[aJ,c,he,aA,e];rfl
  grind
def Vq{H:ae}{l:List Int}{a:Int}{b M:Nat}(ar:l.length<=1000000)(g:l≠[]->H.get b=A (hQ l))(bR:H.get M=A (.row I 1 [[D F a]])):
  ∃c,ej P H [30,30] (ch l b) (.az M 0 1 1 (A 1))=A (ch (l++[a]) H.next,c)/\c.next=H.next+1/\c.get H.next=A (hQ (l++[a]))/\(l≠[]->c.get b=A (.old H.next 1 (l.map fR)))/\∀q,q≠H.next->(l≠[]->q≠b)->c.get q=H.get q:=by
 have y:=bV;obtain⟨d,f,o⟩:=y.iz;obtain⟨z,j,k,_⟩:=y.ft;have i:oJ P 30=false:=by simp[oJ,y.un]
 have aL:ld P H 30 1 (.az M 0 1 1 (A 1))=A [[D F a]]:=by simp[ld,y.un,hH,bR]
 have n:u2 (.az M 0 1 1 (A 1)) 3=none:=rfl;have ah:(l.length+1)*d<=140737488355328:=Nat.le_trans (Nat.mul_le_mul_left _ o) aa;have ai:l.length+1<=9223372036854775807:=aa;by_cases e:l=[]
 ·subst e;have m:d<=140737488355328:=aa;refine⟨H.push (hQ [a]),?_,aW,ae.a1 _ _,λh=>absurd rfl h,λq aH _=>ae.eI aH⟩;simp[ej,ch,hQ,fR,y.un,y.ts,f,j,k,i,aL,m,n,eT]
 ·have r:=ae.bm (g e);have p:hH H b 0 l.length 1=A (l.map fR):=by
   grind[hQ,hH]
  refine⟨(H.set b (.old H.next 1 (l.map fR))).push (hQ (l++[a])),?_,aW,?_,λ_=> ?_,λq aH s=> ?_⟩
  ·rw[qI e,qI aW];have ge:=g e;simp[ej,hQ,fR,y.un,y.ts,f,j,k,i,aL,ah,ai,p,ge,gone]
  ·exact ae.a1 (H.set b _) _
  ·rw[ae.eI (by simp;omega),ae.cO r]
  ·rw[ae.eI (fH aH),ae.b_ (Ne.symm (s e))]
structure ib(b:Nat)(a:List Int)(H0:ae)(cur:List Int)(cl:Nat)(H:ae):Prop where
 next:H0.next<=H.next
 ec:∀q,q<H0.next->(a≠[]->q≠b)->H.get q=H0.get q
 pre:∃t,cur=a++t
 oB:cur≠[]->H.get cl=some (hQ cur)/\((cl=b/\a≠[])\/H0.next<=cl)
 rd:a≠[]->∃k,k<=cur.length+1/\hx H k b=some (1,a.map fR)
 same:cur=a->a≠[]->cl=b
theorem ib.start{b:Nat}{a:List Int}{H0:ae}(h:a≠[]->H0.get b=A (hQ a)):ib b a H0 a b H0:=
 ⟨aa,λ_ _ _=>rfl,⟨[],aW⟩,al,λe=>⟨1,aa,by rw[hx,h e];rfl⟩,aa⟩
theorem ib.aC{a:Nat}{c cur:List Int}{H0 H H':ae}{cl:Nat}(s:ib a c H0 cur cl H)(p:aw H H'):ib a c H0 cur cl H':=
 ⟨Nat.le_trans s.next p.1,λq aH d=>(p.2 q (Nat.lt_of_lt_of_le aH s.next)).trans (s.ec q aH d),s.pre,λe=>⟨p.get (s.oB e).1,(s.oB e).2⟩,λe=>by
  obtain⟨k,ah,ai⟩:=s.rd e;exact⟨k,ah,Ml (λq b g=>p.get g) ai⟩,s.same⟩
def ib.app{f:Nat}{m cur:List Int}{H0 H:ae}{cl:Nat}(s:ib f m H0 cur cl H)(aA:cur.length<=1000000)(a:Int):
  ∃c,ej P (H.push (.row I 1 [[D F a]])) [30,30] (ch cur cl) (.az H.next 0 1 1 (A 1))=A (ch (cur++[a]) (H.next+1),c)/\(H.push (.row I 1 [[D F a]])).next<=c.next/\ib f m H0 (cur++[a]) (H.next+1) c/\H.next<=c.next/\∀q,q<H.next->(cur≠[]->q≠cl)->c.get q=H.get q:=by
 have p:=aw.push H (.row I 1 [[D F a]]);have s1:=s.aC p;have n:=ae.a1 H (.row I 1 [[D F a]]);obtain⟨c,ah,ai,ay,aM,h⟩:=Vq (H:=H.push (.row I 1 [[D F a]])) (l:=cur) (a:=a) (b:=cl) (M:=H.next) aA (λe=>(s1.oB e).1) n;have aL:(H.push (.row I 1 [[D F a]])).next=H.next+1:=aW
 rw[aL]at ah ai ay aM h;have i:∀q,q<H.next->(cur≠[]->q≠cl)->c.get q=H.get q:=λq aH r=>by rw[h q aa r,p.2 q aH]
 have w:=s.next
 refine⟨c,ah,aa,⟨aa,λq aH o=> ?_,?_,λ_=>⟨ay,.inr aa⟩,λe=> ?_,λe _=> ?_⟩,aa,i⟩
 ·rw[i q aa λe=> ?_,s.ec q aH o];rcases(s.oB e).2 with⟨d,u⟩|d
  ·grind
  omega
 ·obtain⟨t,e⟩:=s.pre;grind
 ·have j:cur≠[]:=by
   obtain⟨t,d⟩:=s.pre;grind
  obtain⟨k,bS,b2⟩:=s1.rd e;refine⟨k+1,al,Mk (s1.oB j).1 (aM j) ay (λq b aH g=> ?_) b2⟩;have v:=ae.bm g;grind
 ·obtain⟨t,d⟩:=s.pre;grind
end
section
open Go.a2
set_option maxRecDepth 2000
section
variable {x:bq}{k:a2.cK}{zX W0 B T:Nat}{a b cc d ov nv fv gv uv:af}{n:Nat}{H:ae}
structure ix(n T:Nat)(tl:Nat->List Int)(a:Nat->Nat)(H:ae):Prop where
 g:H.get T=some (.row false 1 ((List.range n).map λf=>[ch (tl f) (a f)]))
 ar:∀f,f<n->tl f≠[]->T<a f/\H.get (a f)=some (hQ (tl f))
 inj:∀f g,f<n->g<n->tl f≠[]->tl g≠[]->a f=a g->f=g
theorem ix.at_{tl:Nat->List Int}{a:Nat->Nat}(g:H.get T=A (.row I 1 ((List.range n).map λf=>[ch (tl f) (a f)]))){f:Nat}(aB:f<n):ct P 31 (.az T 0 n 1 (A n)) (D F (f:Nat))=A (.ptr T f 0)/\aJ P H 30 (.ptr T f 0)=A (ch (tl f) (a f)):=by
 refine⟨mQ dJ aB,?_⟩;rw[eW sg g (e:=[ch (tl f) (a f)]) al];rfl
theorem SU(a:fN (b7 x) x.sites.length k){n:Int}(b:0<=n)(ah:n.toNat<x.sites.length):(aO k.of)[n.toNat]? =A (k.site n):=by
 have ar:n.toNat<k.of.length:=by rw[a.Gz];omega
 grind[cK.site,aO]
def J4(k:a2.cK)(m:Nat)(tl:Nat->List Int)(a:Nat->Nat)(i:In)(B:Nat)(r:af)(H:ae):Prop:=(gf k tl i=[k.site i.n]/\∃M,B<=M/\r= .az M 0 1 1 (A 1)/\H.get M=A (.row I 1 [[D F (k.site i.n)]]))\/(∃g,g<m/\gf k tl i=tl g/\r=ch (tl g) (a g))\/(gf k tl i=[]/\r= .aq)
theorem aae{ok:Nat->Prop}{tl:Nat->List Int}{v:Nat->Nat}(O:fN (b7 x) x.sites.length k){f:Nat}{co:bQ}{i:In}{wi:af}(u:dM x f co i=J)(hw:aI aN H ok i.args wi)(s:iM x k zX W0 B a b cc d n ov nv fv gv uv H)(g:H.get T=A (.row I 1 ((List.range x.ax.length).map λf=>[ch (tl f) (v f)]))):
  W (aK P aD 93 [.ptr W0 0 0,.agg (cf i wi),.az T 0 x.ax.length 1 (A x.ax.length)] H) λr H'=>J4 k x.ax.length tl v i H.next r H'/\aw H H':=by
 refine ag8 0 ?_;have R:dS (.ptr W0 0 0)=A (.ptr W0 0 0):=rfl;have e:=aw.push H (.row I 6 [cf i wi]);have U:(H.push (.row I 6 [cf i wi])).get H.next=A (.row I 6 [[D F i.op,D F i.a,D F i.b,D F i.c,D F i.n,wi]]):=ae.a1 _ _
 refine bF @Jh.eq_1 (dm hw) ?_;have G:=s.aC e;have N:=e.get g;have Q:=e.1;generalize H.push (.row I 6 [cf i wi])=H0 at*;have l:=fU U;have alloc:0<=i.n->i.n.toNat<x.sites.length->(i.op=11\/i.op=12)->W (yT (aK P aD) (.ptr W0 0 0) (.az T 0 x.ax.length 1 (A x.ax.length)) (.ptr H.next 0 0) (D F i.op) (C J) H0) λr H'=>J4 k x.ax.length tl v i H.next r H'/\aw H H':=by
  intro w ah aX;obtain⟨ai,V,Y⟩:=G.aX.int (j:=i.n) (a:=k.site i.n) w (SU O w ah);have S:=aw.push H0 (.row I 1 [[D F (k.site i.n)]]);refine bb @yT.eq_1 R (iU G.cC) (o U) V (ag Y @c3) ?_;exact aE.2 ⟨.inl ⟨if_pos aX,H0.next,Q,rfl,ae.a1 _ _⟩,e.trans S⟩
 by_cases p:i.op=11
 ·have t:∀j:Int,(i.op==j)=(11==j):=λj=>al
  have h:=kF (o9 p u).2;have:=alloc h.1 h.2.1 (.inl p);simp-implicitDefEqProofs(disch:=try exact aY)only[reduceAdd,reduceLeDiff,reduceIte,bB,l,t,Int.reduceBEq];omega
 have K:(i.op==11)=false:=beq_eq_false_iff_ne.2 p;by_cases q:i.op=12
 ·have t:∀j:Int,(i.op==j)=(12==j):=λj=>al
  have h:=kF (o_ q u).2;have:=alloc h.1 h.2.1 (.inr q);simp-implicitDefEqProofs(disch:=try exact aY)only[reduceAdd,reduceLeDiff,reduceIte,bB,l,t,Int.reduceBEq];omega
 have L:(i.op==12)=false:=beq_eq_false_iff_ne.2 q;by_cases y:i.op=13
 ·obtain⟨ad,aR⟩:=ni y u;have z:=(List.getElem?_eq_some_iff.1 aR.at_.2).1;have t13:(i.op==13)=true:=al;obtain⟨E,aa⟩:=ix.at_ N z;have M:((i.c.toNat:Nat):Int)=i.c:=Int.toNat_of_nonneg aR.at_.1;rw[M]at E;refine bb @yT.eq_1 l K L t13 (ag (o U) (ag E aa)) ?_;have m:gf k tl i=tl i.c.toNat:=by grind[gf]
  exact aE.2 ⟨.inr (.inl ⟨_,z,m,rfl⟩),e⟩
 ·have ab:(i.op==13)=false:=beq_eq_false_iff_ne.2 y;refine bb @yT.eq_1 @DU.eq_1 l K L ab ?_;have m:gf k tl i=[]:=by grind[gf]
  exact aE.2 ⟨.inr (.inr ⟨m,rfl⟩),e⟩
end
end
section
open Go.a2
set_option maxRecDepth 2000
section
variable {x:bq}{k:a2.cK}{zX W0 B T:Nat}{a b cc d ov nv fv gv uv:af}{n:Nat}
def uP(cur:List Int)(cl:Nat)(H H':ae):Prop:=H.next<=H'.next/\∀q,q<H.next->(cur≠[]->q≠cl)->H'.get q=H.get q
theorem uP.refl(cur:List Int)(cl:Nat)(H:ae):uP cur cl H H:=⟨aa,λ_ _ _=>rfl⟩
theorem ib.view{c:Nat}{e cur:List Int}{cl:Nat}{H0 H:ae}(m:ib c e H0 cur cl H)(f:e≠[]->B<=c)(s:iM x k zX W0 B a b cc d n ov nv fv gv uv H0):iM x k zX W0 B a b cc d n ov nv fv gv uv H:=
 s.eu ⟨m.next,λq aH=>m.ec q (Nat.lt_of_lt_of_le aH s.oM) al⟩
def zc(m:Nat)(z:Int):Prop:=∃c:Nat,z=c/\c<m
theorem Pl{o:Nat}{v:List Int}{H0:ae}(R:iM x k zX W0 B a b cc d n ov nv fv gv uv H0)(G:v≠[]->B<=o){f:Nat}(aB:f<x.ax.length)(ad:(cr x k f).length<=1000000){m:Nat}(hm:m<=60){l:List Int}{lv:af}{H1:ae}{t:List Int}{r:Nat}(U:t≠[]->r<H1.next)(Y:l.length<=1000000)
  (M:∀(H:ae) (cur:List Int) (cl:Nat),ib o v H0 cur cl H->uP t r H1 H->cur.length<=60->∀(j:Nat) (a:Int),l[j]? =A a->∃p,ct P 30 lv (D F (j:Nat))=A p/\aJ P H 3 p=A (D F a)) (K:∀z∈l,z∈aO (cr x k f)->zc m z)
  {x2 gw x25 x26:af} {L1:af->af->af->af->af->af->af->ae->O} {Q:af->ae->Prop} {N:Nat}:∀(j i q:Nat) (H:ae) (cur:List Int) (cl:Nat),i+j=l.length->j<q->ib o v H0 cur cl H->uP t r H1 H->(cur≠[]->(t≠[]/\cl=r)\/H1.next<=cl)->cur.Nodup->(∀z∈cur,zc m z)->
  (∀(H':ae) (E:Nat),ib o v H0 (jT (aO (cr x k f)) (l.drop i) cur) E H'->W (r1 (aK P aD) N L1 (.ptr W0 0 0) (D F (f:Nat)) x2 (ch (jT (aO (cr x k f)) (l.drop i) cur) E) gw x25 x26 H') Q)->
  W (um (aK P aD) N L1 q (.ptr W0 0 0) (D F (f:Nat)) x2 (ch cur cl) gw x25 x26 lv (D F l.length) (D F (i:Nat)) H) Q
 |_,_,0,_,_,_,_,aH,_,_,_,_,_,_=>aa
 |0,i,q+1,H,cur,cl,aP,_,c,_,_,_,_,fin=>by
  have aA:¬(i:Int)<(l.length:Int):=aa;refine bF @um.eq_2 @CU.eq_1 ?_;rw[List.drop_of_length_le aa]at fin;exact fin H cl c
 |j+1,i,q+1,H,cur,cl,aP,aH,c,g,av,ab,V,fin=>by
  have L:i<l.length:=aa;have ak:dS (.ptr W0 0 0)=A (.ptr W0 0 0):=rfl;have ay:=Pw ab V;have s:=c.view G R;obtain⟨aE,am,an⟩:=M H cur cl c g aa i l[i] al;obtain⟨aF,w,ao,ap,ar⟩:=s.hu.list (j:=(f:Int)) (a:=aO (cr x k f)) aa al;have y:=e8 (show i<=1000000000 by omega);have on:=Pl R G aB ad hm (lv:=lv) U Y M K (x2:=x2) (gw:=gw) (x25:=x25) (x26:=x26) (L1:=L1) (Q:=Q) (N:=N) j (i+1) q;have aC:=K _ (List.getElem_mem L);rw[List.drop_eq_getElem_cons L,jT]at fin;generalize l[i]=z at*;refine bb @um.eq_2 @CU.eq_1 ak (iU s.cC) ao (ag ap (ag am an)) ?_;refine dK (Fc ar (by rw[fI];omega)) ?_;have aj:aI aN H ba cur (ch cur cl):=TN λe=>⟨trivial,(c.oB e).1⟩
  by_cases he:z∈aO (cr x k f)
  ·refine bK he ?_;refine hY (Fc aj aa) ?_;by_cases u:z∈cur
   ·rw[if_neg (λh=>h.2 u)]at fin;refine cu @CV.eq_1 he u y ?_;grind
   ·rw[if_pos ⟨he,u⟩]at fin;obtain⟨S,T,au,a3,a4,a5⟩:=c.app aa z;refine bb @CV.eq_1 he u @c3 T y ?_;refine on S _ _ aa aa a3 ⟨Nat.le_trans g.1 a4,λp ah ai=> ?_⟩ (λ_=> .inr (by have:=g.1;omega)) ?_ ?_ fin
    ·have aL:=g.1;rw[a5 p aa λe=> ?_,g.2 p ah ai];grind
    ·grind
    grind
  ·rw[if_neg (λh=>he h.1)]at fin;refine bT @CV.eq_1 he y ?_;grind
end
end
section
open Go.a2
set_option maxRecDepth 2000
section
variable {x:bq}{k:a2.cK}{zX W0 B T:Nat}{a b cc d ov nv fv gv uv:af}{n:Nat}
theorem Qa(a:fN (b7 x) x.sites.length k){f:Nat}{z:Int}(h:z∈aO (cr x k f)):zc k.count z:=by
 obtain⟨c,aA,rfl⟩:=List.mem_map.1 h;have:=tt aA;rw[a.dz]at this;exact⟨c,rfl,this⟩
theorem GG(a:fN (b7 x) x.sites.length k)(f:Nat):(cr x k f).length<=k.count:=by
 unfold cr;split
 ·unfold kU oR;refine Nat.le_trans (List.length_filter_le _ _) ?_;unfold fa;rw[a.dz];exact kW _ _
 ·simp
theorem Pn(V:ep x)(K:fN (b7 x) x.sites.length k){tl:Nat->List Int}{u:Nat->Nat}(am:jc x k tl){f:Nat}{co:bQ}(aB:x.ax[f]? =A co){H0:ae}(ab:iM x k zX W0 B a b cc d n ov nv fv gv uv H0)(t:ix x.ax.length T tl u H0)(ay:B<=T){gw:af}(ai:aI fJ H0 (· <B) co.ins gw)(aG:co.ins.length<=1000000){N:Nat}(aA:100<N):∀(j i q:Nat) (H:ae) (cur:List Int) (cl:Nat),i+j=co.ins.length->j<q->ib (u f) (tl f) H0 cur cl H->cur.Nodup->(∀z∈cur,zc k.count z)->
  W (uk (aK P aD) N q (.ptr W0 0 0) (D F (f:Nat)) (.az T 0 x.ax.length 1 (A x.ax.length)) (ch cur cl) gw (D F co.ins.length) (D F (i:Nat)) H) λr H'=>∃h,r=ch (iu k tl (aO (cr x k f)) (co.ins.drop i) cur) h/\ib (u f) (tl f) H0 (iu k tl (aO (cr x k f)) (co.ins.drop i) cur) h H'
 |_,_,0,_,_,_,_,aH,_,_,_=>aa
 |0,i,q+1,H,cur,cl,aP,_,v,_,_=>by
  have a_:¬(i:Int)<(co.ins.length:Int):=aa;refine bT @uk.eq_2 @CT.eq_1 @uj.eq_1 ?_;rw[List.drop_of_length_le aa];exact aE.2 ⟨cl,rfl,v⟩
 |j+1,i,q+1,H,cur,cl,aP,aH,v,aL,aF=>by
  have Y:i<co.ins.length:=aa;have Q:=(List.getElem?_eq_some_iff.1 aB).1;have a9:=K.kH;have bf:=V.sites;have ad:tl f≠[]->B<=u f:=λe=>by have:=(t.ar f Q e).1;omega
  have s:=v.view ad ab;have aR:=ae.bm t.g;have g:H.get T=A (.row I 1 ((List.range x.ax.length).map λf=>[ch (tl f) (u f)])):=(v.ec T aR λe=>by have:=(t.ar f Q e).1;omega).trans t.g;have hw:aI fJ H (· <B) co.ins gw:=ai.keep λp c (aM:p<B) av=>⟨aM,by
   rw[v.ec p (ae.bm av) λe=>al];omega⟩
  obtain⟨L,nn,wi,aV,aX,ak⟩:=hw.rf (j:=(i:Int)) (i:=co.ins[i]) aa al;have aN:dM x f co co.ins[i]=true:=(hI (V.code aB)).ins (List.getElem_mem Y);have a0:=e8 (show i<=1000000000 by omega);have on:=Pn V K am aB ab t ay ai aG aA j (i+1) q;have ba:=List.getElem_mem Y;rw[List.drop_eq_getElem_cons Y,iu];generalize co.ins[i]=ins at*;have st:=qD (i:=ins) (w:=wi) (ae.a1 H (.row I 6 [[D F 0,D F 0,D F 0,D F 0,D F 0,.aq]])) ak.one;have pp:=aw.push H (.row I 6 [cf ins wi]);have U:=ae.a1 H (.row I 6 [cf ins wi]);refine bb @uk.eq_2 @CT.eq_1 aV (aX _ (aw.refl _)) st (ag @ae.gD (gK U)) ?_
  refine e2 (aae K aN (ak.aC pp) (s.aC pp) (pp.get g)) λlv S ra aU=> ?_
  have aj:=pp.trans aU;have aT:=v.aC aj;have bc:=aj.1;have bd:H.next<(H.push (.row I 6 [cf ins wi])).next:=aW
  have a8:cur≠[]->cl<H.next:=λe=>ae.bm (v.oB e).1
  have be:=GG K f;have walk:∀{l:List Int},gf k tl ins=l->l.length<=90->(∀(H:ae) (E:List Int) (h:Nat),ib (u f) (tl f) H0 E h H->uP cur cl S H->E.length<=60->∀(j:Nat) (a:Int),l[j]? =A a->∃p,ct P 30 lv (D F (j:Nat))=A p/\aJ P H 3 p=A (D F a))->
    W (um (aK P aD) N (uk (aK P aD) N q) N (.ptr W0 0 0) (D F (f:Nat)) (.az T 0 x.ax.length 1 (A x.ax.length)) (ch cur cl) gw (D F co.ins.length) (D F (i:Nat)) lv (D F l.length) (D F 0) S) λr H'=>∃h,r=ch (iu k tl (aO (cr x k f)) (co.ins.drop (i+1)) (jT (aO (cr x k f)) (gf k tl ins) cur)) h/\ib (u f) (tl f) H0 (iu k tl (aO (cr x k f)) (co.ins.drop (i+1)) (jT (aO (cr x k f)) (gf k tl ins) cur)) h H':=by
   intro l el ar aZ;rw[el];refine Pl ab ad Q aa (m:=k.count) aa (l:=l) (λe=>al) aa aZ (λz _ aQ=>Qa K aQ) l.length 0 N S cur cl aa aa aT (.refl _ _ _) (λe=> .inl ⟨e,rfl⟩) aL aF ?_;intro a3 a4 aS;rw[List.drop_zero]at aS ⊢;refine bF @r1.eq_1 a0 ?_;grind[AA,F9,Qa]
  rcases ra with⟨G,M,a6,rfl,bR⟩|⟨o,ah,G,rfl⟩|⟨G,rfl⟩
  ·have O:bD P .empty .len [30] [.az M 0 1 1 (A 1)]=A (D F ([k.site ins.n].length:Nat)):=hN bV.un _ _ _ _ _;have:=walk G aW λH' E h _ au _ j z y=>by
    match j,y with
    |0,y=>
     cases y;have a5:H'.get M=A (.row I 1 [[D F (k.site ins.n)]]):=(au.2 M (ae.bm bR) λe=>al).trans bR;grind[nJ,bV,iE]
   refine bK O ?_;omega
  ·have O:bD P .empty .len [30] [ch (tl o) (u o)]=A (D F ((tl o).length:Nat)):=JG _ _ _;have bg:=am.len o;have:=walk G aa λH' E h gi _ a7 j z y=>by
    by_cases e:o=f
    ·subst e;have R:tl o≠[]:=al;obtain⟨cR,bS,b2⟩:=gi.rd R;grind[PV]
    ·refine PV (k:=1) (λR=> ?_) aa y;obtain⟨bh,an⟩:=t.ar o ah R;have a2:H'.get (u o)=A (hQ (tl o)):=(gi.ec _ (ae.bm an) λao ap=>e (t.inj _ _ ah Q R ao ap)).trans an;rw[hx,a2];rfl
   refine bK O ?_;omega
  ·have O:bD P .empty .len [30] [af.aq]=A (D F (([]:List Int).length:Nat)):=len_nil bV.un;have:=walk G aW λH' E h _ _ _ j z y=>al
   refine bK O ?_;omega
theorem acV(au:right x=J)(u:fN (b7 x) x.sites.length k){tl:Nat->List Int}{h:Nat->Nat}(i:jc x k tl){f:Nat}{co:bQ}(aB:x.ax[f]? =A co){H:ae}(s:iM x k zX W0 B a b cc d n ov nv fv gv uv H)(t:ix x.ax.length T tl h H)(o:B<=T):
  W (aK P aD 40 [.ptr W0 0 0,D F (f:Nat),.az T 0 x.ax.length 1 (A x.ax.length)] H) λr H'=>∃l,r=ch (iu k tl (aO (cr x k f)) co.ins (tl f)) l/\ib (h f) (tl f) H (iu k tl (aO (cr x k f)) co.ins (tl f)) l H':=by
 have p:=fG au;have m:=(List.getElem?_eq_some_iff.1 aB).1;have U:=nT au;have V:=oH (List.mem_of_getElem? aB);refine agw (co.ins.length+101) ?_;have w:dS (.ptr W0 0 0)=A (.ptr W0 0 0):=rfl;obtain⟨K,M⟩:=ix.at_ t.g m;have q:aI fO H (· <B) x.ax cc:=by
  obtain⟨_,e,bY,b',O,Q,R,ah,ai,ay,aM⟩:=s.aF;grind
 obtain⟨L,li,S,gw,y,E,bS,b2⟩:=q.oC (j:=(f:Int)) (g:=co) aa al;have G:=(E _ (aw.refl _)).2.2;refine bb @II.eq_1 w (iU s.cC) K M (ag y (ag G (b2.bf eJ))) ?_;have:=Pn p u i aB s t o b2 aa (N:=co.ins.length+101) aa co.ins.length 0 (co.ins.length+101) H (tl f) (h f) aa aa (.start λe=>(t.ar f m e).2) (i.cA f) λz v=>by
  obtain⟨c,e,ah,_⟩:=i.snd f z v;exact⟨c,e,ah⟩
 grind
end
end
section
open Go.a2
set_option maxRecDepth 2000
section
variable {x:bq}{k:a2.cK}{zX W0 B T:Nat}{a b cc d ov nv fv gv uv:af}{n:Nat}
def mm(a:Nat->Nat)(f c:Nat):Nat->Nat:=λg=>if g=f then c else a g
def ix.kept{m f cl:Nat}{tl:Nat->List Int}{c:Nat->Nat}{H H':ae}(t:ix m T tl c H)(aB:f<m)(b:ib (c f) (tl f) H (tl f) cl H'):ix m T tl c H':=by
 have i:=ae.bm t.g;refine⟨(b.ec T i λe=>by have:=(t.ar f aB e).1;omega).trans t.g,λg aR a=>⟨(t.ar g aR a).1,?_⟩,t.inj⟩;by_cases e:g=f
 ·subst e;have:=(b.oB a).1;rw[b.same rfl a]at this;omega
 ·exact(b.ec _ (ae.bm (t.ar g aR a).2) λd h=>e (t.inj _ _ aR aB a d h)).trans (t.ar g aR a).2
theorem ix.store{m f cl:Nat}{tl:Nat->List Int}{a:Nat->Nat}{l:List Int}{H H':ae}(t:ix m T tl a H)(aB:f<m)(ec:∀q,q<H.next->(tl f≠[]->q≠a f)->H'.get q=H.get q)(aA:l≠[]->H'.get cl=A (hQ l)/\((cl=a f/\tl f≠[])\/H.next<=cl)):
  cz P H' 30 (.ptr T f 0) (ch l cl)=A (H'.set T (.row I 1 ((List.range m).map λg=>[ch (g8 tl f l g) (mm a f cl g)])))/\ix m T (g8 tl f l) (mm a f cl) (H'.set T (.row I 1 ((List.range m).map λg=>[ch (g8 tl f l g) (mm a f cl g)]))):=by
 have v:=ae.bm t.g;have h:H'.get T=A (.row I 1 ((List.range m).map λg=>[ch (tl g) (a g)])):=(ec T v λe=>by have:=(t.ar f aB e).1;omega).trans t.g;have o:∀(i:bA) q,q≠T->(H'.set T i).get q=H'.get q:=(by grind[ae.b_]);have j:(λg=>[dp (λg=>ch (tl g) (a g)) f (ch l cl) g])=λg=>[ch (g8 tl f l g) (mm a f cl g)]:=by
  grind[hl,g8,mm,fm]
 have st:=y0 (t:=30) aG h aB (akA l cl);rw[j]at st;refine⟨st,ae.cO (ae.bm h),λg aR c=> ?_,λg b aR u ah ai ay=> ?_⟩
 ·by_cases e:g=f
  ·subst e;rw[show g8 tl g l g=l from if_pos rfl]at c ⊢;rw[show mm a g cl g=cl from if_pos rfl];obtain⟨ah,ai⟩:=aA c;have dU:T<cl:=by
    rcases ai with⟨ai,ay⟩|ai
    ·rw[ai];exact(t.ar g aR ay).1
    omega
   grind
  ·rw[show g8 tl f l g=tl g from if_neg e]at c ⊢;rw[show mm a f cl g=a g from if_neg e];obtain⟨ah,ai⟩:=t.ar g aR c;exact⟨ah,by rw[o _ _ aa,ec _ (ae.bm ai) λk n=>e (t.inj _ _ aR aB c k n)];omega⟩
 ·have key:∀g,g<m->g≠f->tl g≠[]->l≠[]->a g≠cl:=λg aR e aM p w=>by
   have x:=ae.bm (t.ar g aR aM).2;rcases(aA p).2 with⟨r,s⟩|r
   ·exact e (t.inj _ _ aR aB aM s aa)
   omega
  by_cases e:g=f
  ·grind[g8,mm]
  ·by_cases d:b=f
   ·grind[g8,mm]
   ·rw[show g8 tl f l g=tl g from if_neg e]at ah;rw[show g8 tl f l b=tl b from if_neg d]at ai;rw[show mm a f cl g=a g from if_neg e,show mm a f cl b=a b from if_neg d]at ay;exact t.inj _ _ aR u ah ai ay
theorem ib.eu{a:Nat}{b cur:List Int}{cl:Nat}{H0 H:ae}(m:ib a b H0 cur cl H)(d:b≠[]->B<=a)(c:B<=H0.next):cg B H0 H:=⟨m.next,λq aH=>m.ec q aa al⟩
theorem Tx(au:right x=J)(w:fN (b7 x) x.sites.length k)(U:B<=T){L3:af->af->af->ae->O}{Q:af->ae->Prop}{N:Nat}:∀(j i q:Nat) (H:ae) (tl:Nat->List Int) (l:Nat->Nat) (t:Bool),i+j=x.ax.length->j<q->jc x k tl->iM x k zX W0 B a b cc d n ov nv fv gv uv H->ix x.ax.length T tl l H->(t=I->∀f,f<i->lM x k tl f)->
  (∀(H':ae) (u:Nat->List Int) (aE:Nat->Nat) (z:Bool),jc x k u->iM x k zX W0 B a b cc d n ov nv fv gv uv H'->ix x.ax.length T u aE H'->lS x.ax.length t tl z u->(z=I->∀f,f<x.ax.length->lM x k u f)->cg B H H'->W (L3 (.ptr W0 0 0) (.az T 0 x.ax.length 1 (A x.ax.length)) (C z) H') Q)->
  W (w8 (aK P aD) N L3 q (.ptr W0 0 0) (.az T 0 x.ax.length 1 (A x.ax.length)) (C t) (D F x.ax.length) (D F (i:Nat)) H) Q
 |_,_,0,_,_,_,_,_,aH,_,_,_,_,_=>aa
 |0,i,q+1,H,tl,l,t,aP,_,o,s,eZ,aA,fin=>by
  have aN:¬(i:Int)<(x.ax.length:Int):=aa;refine bF @w8.eq_2 @B7.eq_1 ?_;exact fin H tl l t o s eZ (.refl _ _ _) al (.refl _ _)
 |j+1,i,q+1,H,tl,l,t,aP,aH,o,s,eZ,aA,fin=>by
  have an:=fG au;have aJ:=an.ax;have p:i<x.ax.length:=aa;have aB:x.ax[i]? =A x.ax[i]:=al;have on:=Tx au w U (L3:=L3) (Q:=Q) (N:=N) j (i+1) q;have aj:=e8 (show i<=1000000000 by omega);generalize x.ax[i]=co at*;refine bF @w8.eq_2 @B7.eq_1 ?_;refine cB (acV au w o aB s eZ U) ?_;rintro _ H1 ⟨cl,rfl,m⟩;refine⟨m.next,?_⟩;have aI:tl i≠[]->T<l i:=λe=>(eZ.ar i p e).1
  have V:tl i≠[]->B<=l i:=al;have aC:=ae.bm eZ.g;have am:H1.get T=A (.row I 1 ((List.range x.ax.length).map λf=>[ch (tl f) (l f)])):=(m.ec T aC al).trans eZ.g;obtain⟨ab,ad⟩:=ix.at_ am p;have s1:=m.view V s;have pu:=m.eu V s.oM;have ao:=WZ (k:=k) (tl:=tl) aB;have ap:=PJ (k:=k) (tl:=tl) (out:=aO (cr x k i)) (is:=co.ins) (o.cA i);have av:=o.more w.dz aB (is:=co.ins) (λ_ h=>h) (o.snd i);obtain⟨t0,aG⟩:=Gl (k:=k) (tl:=tl) (out:=aO (cr x k i)) (is:=co.ins) (cur:=tl i);have aL:(iu k tl (aO (cr x k i)) co.ins (tl i)).length<=(tl i).length->lM x k tl i:=ao;have ay:∀a∈iu k tl (aO (cr x k i)) co.ins (tl i),∃c:Nat,a=c/\c<k.count/\jP x k i c:=av
  generalize iu k tl (aO (cr x k i)) co.ins (tl i)=r at*;by_cases hlen:(tl i).length<r.length
  ·have d1:decide ((((tl i).length:Nat):Int)<((r.length:Nat):Int))=true:=decide_eq_true aa;obtain⟨st,aF⟩:=eZ.store p (λq ah ai=>m.ec q ah ai) m.oB;refine bb @JG ab ad d1 st (ag @HY.eq_1 aj) ?_;have Y:cg B H (H1.set T (.row I 1 ((List.range x.ax.length).map λg=>[ch (g8 tl i r g) (mm l i cl g)]))):=⟨by simpa using m.next,λq aH=>by rw[ae.b_ aa];exact pu.2 q aH⟩;refine on _ _ _ J aa aa (o.dF ap ay) (s.eu Y) aF (λe=>by cases e) λv E y t2 G K L M R S=>fin v E y t2 G K L ((lS.dF p aa).trans M) R (Y.trans S)
  ·have d1:decide ((((tl i).length:Nat):Int)<((r.length:Nat):Int))=false:=decide_eq_false aa;have ak:r=tl i:=by
    have a_:t0=[]:=List.eq_nil_of_length_eq_zero al;grind
   refine bb @JG ab ad d1 @HY.eq_1 aj ?_;rw[ak]at m;refine on H1 tl l t aa aa o s1 (eZ.kept p m) (λe f aM=> ?_) λv E y t2 G K L M R S=>fin v E y t2 G K L M R (pu.trans S)
   grind
theorem Ty(au:right x=J)(i:fN (b7 x) x.sites.length k)(h:B<=T){Q:af->ae->Prop}{N:Nat}(r:25<N):∀(q:Nat) (H:ae) (tl:Nat->List Int) (c:Nat->Nat) (t:Bool),(x.ax.length*k.count-km tl x.ax.length)+(if t then 1 else 0)<q->jc x k tl->iM x k zX W0 B a b cc d n ov nv fv gv uv H->ix x.ax.length T tl c H->(t=I->∀f,f<x.ax.length->lM x k tl f)->
  (∀(H':ae) (g:Nat->List Int) (u:Nat->Nat),jc x k g->ix x.ax.length T g u H'->(∀f,f<x.ax.length->lM x k g f)->cg B H H'->W (tX (aK P aD) N (.az T 0 x.ax.length 1 (A x.ax.length)) H') Q)->
  W (w7 (aK P aD) N q (.ptr W0 0 0) (.az T 0 x.ax.length 1 (A x.ax.length)) (C t) H) Q
 |0,_,_,_,_,aH,_,_,_,_,_=>aa
 |q+1,H,tl,c,t,aH,e,s,eZ,aA,fin=>by
  have on:=Ty au i h (Q:=Q) r q;cases t with
  |false=>
   refine bF @w7.eq_2 @B6.eq_1 ?_;exact fin H tl c e eZ (aA rfl) (.refl _ _)
  |true=>
   have y:∀H0,bD P H0 .len [31] [.az T 0 x.ax.length 1 (A x.ax.length)]=A (D F (x.ax.length:Nat)):=λH0=>hN dJ.un _ _ _ _ _
   refine bT @w7.eq_2 @B6.eq_1 y ?_;have R:=(fG au).ax;refine Tx au i h x.ax.length 0 N H tl c I aa aa e s eZ aa ?_;intro H1 j v t1 l E G o K L;have ah:=va (tl:=j) (m:=k.count) l.len x.ax.length;have ai:=va (tl:=tl) (m:=k.count) e.len x.ax.length;have ay:=o.le;simp only[if_true]at aH;refine on H1 j v t1 ?_ l E G K λp z w M O z3 z4=>fin p z w M O z3 (L.trans z4)
   cases t1 with
   |false=>grind
   |true=>
    have:=o.on rfl;grind
end
end
section
open Go.a2
set_option maxRecDepth 2000
theorem FD:∀l:List Int,oI (l.map fR)=A l
 |[]=>rfl
 |a::l=>by
  rw[List.map_cons,fR,oI,FD l];rfl
theorem Lm(ro:Bool)(v:af):u7 (A (.row ro 1 [[v]]))=A v:=by simp[u7]
theorem aeE(els:List (List af)):v7 (A (.row I 1 els))=A els:=by simp[v7]
theorem S_:hT []=[]:=by simp[hT]
def Kg{f:Nat}{args:List af}{H H':ae}{v:af}{Q:af->ae->Prop}(h:aD f args H=A (v,H'))(aH:Q v H'):W (aK P aD f args H) Q:=⟨v,H',XK h,aH⟩
section
variable {H:ae}{l:List Int}{b M:Nat}
theorem adE(bR:H.get M=A (.row I 1 [[ch l b]]))(g:l≠[]->H.get b=A (hQ l))(ar:l.length<=1000000):
  ∃H',aD 95 [.func (.func 97) [] [.ptr M 0 0]] H=A (ch l H.next,H')/\aw H H'/\(l≠[]->H'.get H.next=A (hQ l)):=by
 by_cases e:l=[]
 ·subst e;refine⟨H,?_,.refl _,λh=>absurd rfl h⟩;grind[aD,ch,Lm]
 ·have a:hH H b 0 l.length 1=A (l.map fR):=by
   grind[hQ,hH]
  refine⟨H.push (hQ l),?_,aw.push _ _,λ_=>ae.a1 _ _⟩;rw[qI e]at bR;rw[qI e];unfold aD;simp only[bR,Lm,a,FD,if_pos ar];cases l with
  |nil=>grind
  |cons=>rfl
theorem adH(g:l≠[]->H.get b=A (hQ l))(ar:l.length<=1000000):
  ∃H',aD 96 [ch l b] H=A (.tuple [],H')/\H'.next=H.next/\(∀q,q≠b\/l=[]->H'.get q=H.get q)/\(l≠[]->H'.get b=A (hQ (hT l))):=by
 by_cases e:l=[]
 ·grind[aD,ch]
 ·have a:=ae.bm (g e);refine⟨H.set b (hQ (hT l)),?_,rfl,(by grind[ae.b_]),λ_=>ae.cO a⟩;grind[qI,aD,hQ,aeE,FD,hT]
theorem akP:W (aK P aD 42 [ch l b] H) λr H'=>r= .func (.func 97) [] [.ptr H.next 0 0]/\H'=H.push (.row I 1 [[ch l b]]):=by
 refine agy 0 ?_;have a:fl H.next (ch l b)=A (.ptr H.next 0 0,.row I 1 [[ch l b]]):=by
  cases l<;>rfl
 refine bF @IL.eq_1 a ?_;grind[aE]
theorem aik(bR:H.get M=A (.row I 1 [[ch l b]]))(g:l≠[]->H.get b=A (hQ l))(ar:l.length<=1000000):
  W (aK P aD 41 [.func (.func 97) [] [.ptr M 0 0]] H) λr H'=>r=ch (hT l) H.next/\(hT l≠[]->H'.get H.next=A (hQ (hT l)))/\aw H H':=by
 refine agx 0 ?_;obtain⟨H1,ah,a,d⟩:=adE bR g ar;obtain⟨c,ai,f,h,i⟩:=adH (H:=H1) (b:=H.next) d ar;simp-implicitDefEqProofs(disch:=try exact aY)only[IK];refine cB (Kg ah (Q:=λv H'=>v=ch l H.next/\H'=H1) ⟨rfl,rfl⟩) ?_;rintro _ _ ⟨rfl,rfl⟩;refine⟨a.1,cB (Kg ai (Q:=λv H'=>H'=c) rfl) ?_⟩;rintro _ _ rfl;refine⟨aa,aE.2 ⟨?_,(by grind[S_]),by rw[f];exact a.1,λq aH=>by rw[h q aa,a.2 q aH]⟩⟩;by_cases e:l=[]
 ·grind[S_]
 grind[S9,qI]
end
section
variable {x:bq}{k:a2.cK}{B T:Nat}
theorem TD{m:Nat}(hm:m<=1000){tl:Nat->List Int}(k:∀f,(tl f).length<=1000000)(w:B<=T){N:Nat}:∀(j i q:Nat) (H:ae) (a:Nat->Nat),i+j=m->j<q->ix m T (λf=>if f<i then hT (tl f)else tl f) a H->
  W (w6 (aK P aD) N q (.az T 0 m 1 (A m)) (D F m) (D F (i:Nat)) H) λr H'=>r= .az T 0 m 1 (A m)/\(∃z,ix m T (λf=>hT (tl f)) z H')/\cg B H H'
 |_,_,0,_,_,_,aH,_=>aa
 |0,i,q+1,H,a,aP,_,eZ=>by
  have K:¬(i:Int)<(m:Int):=aa;refine bT @w6.eq_2 @B5.eq_1 @HX.eq_1 ?_;refine aE.2 ⟨rfl,⟨a,?_,λf aB L=> ?_,λf g aB aR ah ai ay=> ?_⟩,.refl _ _⟩
  ·have:=eZ.g;grind[List.map_congr_left]
  ·have:=eZ.ar f aB al;grind
  ·exact eZ.inj f g aB aR al al ay
 |j+1,i,q+1,H,a,aP,aH,eZ=>by
  have c:i<m:=aa;have E:=e8 (show i<=1000000000 by omega);have on:=TD hm (tl:=tl) k w (N:=N) j (i+1) q;obtain⟨s,t⟩:=ix.at_ eZ.g c;have x:(if i<i then hT (tl i)else tl i)=tl i:=if_neg aa;have n:=eZ.ar i c;simp only[x]at t n;refine cu @w6.eq_2 @B5.eq_1 s t ?_;refine cB akP ?_;rintro _ _ ⟨rfl,rfl⟩;have b:=aw.push H (.row I 1 [[ch (tl i) (a i)]]);have v:=ae.a1 H (.row I 1 [[ch (tl i) (a i)]]);refine⟨b.1,?_⟩;refine cB (aik v (λe=>b.get (n e).2) (k i)) ?_;rintro _ G ⟨rfl,h,p⟩;refine⟨p.1,?_⟩;have d:=b.trans p;have o:H.next<=(H.push (.row I 1 [[ch (tl i) (a i)]])).next:=b.1
  have y:(H.push (.row I 1 [[ch (tl i) (a i)]])).next=H.next+1:=aW
  rw[y]at h o;obtain⟨st,u⟩:=eZ.store (l:=hT (tl i)) (cl:=H.next+1) c (λq aH _=>d.2 q aH) λe=>⟨h e,.inr o⟩
  have M:=ae.bm eZ.g;refine bT s st E ?_;have e:g8 (λf=>if f<i then hT (tl f)else tl f) i (hT (tl i))=λf=>if f<i+1 then hT (tl f)else tl f:=by
   grind[g8]
  rw[e]at u ⊢;refine(on _ _ aa aa u).mono ?_;rintro r H' ⟨ah,ai,ay⟩;refine⟨ah,ai,cg.trans ⟨by simpa using d.1,λq aH=> ?_⟩ ay⟩;have:q≠T:=aa;rw[ae.b_ (Ne.symm this),d.2 q aa]
theorem ajY{H:ae}{ok:Nat->Prop}(au:right x=J){V:af}(aF:cE H ok x V):
  W (aK P aD 18 [V] H) λr H'=>aI (bp aN) H' ba ((List.range x.ax.length).map λf=>aO (lI x (a2.fK x) f)) r/\aw H H':=by
 have y:=aF;have j:=fG au;have l:=u_ x;have S:=j.ax;have Y:=j.sites;have T:=l.kH;obtain⟨_,rfl,a,b,cc,d,rfl,ah,ai,ay,aM⟩:=aF;refine Rr (x.ax.length*(a2.fK x).count+3000) ?_;have m:=aw.push H (.row I 5 [[a,b,cc,d,D F x.main]]);have i:=ae.a1 H (.row I 5 [[a,b,cc,d,D F x.main]]);refine bT @BS.eq_1 (dQ ah ai ay aM) (cq i) ?_;refine cB (JJ au (y.aC m)) ?_;rintro _ K ⟨zX,W0,E,bY,b',Q,R,n,ov,nv,fv,gv,uv,rfl,s,p⟩;refine⟨p.1,?_⟩;have ne:bx P .eql 73 J (.ptr W0 0 0) .gC=A (C I):=aG;have L:aJ P K 24 (.ptr H.next 0 2)=A cc:=rp (p.get i);have lc:∀H0,bD P H0 .len [24] [cc]=A (D F x.ax.length):=λH0=>ay.len cG
 have mk:=tn K.next x.ax.length aa
 have c:=aw.push K (.row I 1 ((List.range x.ax.length).map λ_=>[.aq]));have w:=ae.a1 K (.row I 1 ((List.range x.ax.length).map λ_=>[.aq]));have sv:=s.T_;generalize U:a2.fK x=k at*;refine cu ne L lc mk ?_;have eZ:ix x.ax.length K.next (λ_=>[]) (λ_=>0) (K.push (.row I 1 ((List.range x.ax.length).map λ_=>[.aq]))):=⟨w,λf _ h=>absurd rfl h,λf g _ _ h=>absurd rfl h⟩
 have O:=sv.aC c;refine Ty au l (B:=K.next) (ds _) aa _ _ (λ_=>[]) (λ_=>0) J al (jc.start x k) O eZ (λe=>by cases e) ?_;intro v tl z t ab aA pu;have M:∀H0,bD P H0 .len [31] [.az K.next 0 x.ax.length 1 (A x.ax.length)]=A (D F (x.ax.length:Nat)):=λH0=>hN dJ.un _ _ _ _ _
 refine bF @tX.eq_1 M ?_;refine(TD (B:=K.next) (tl:=tl) aa (λf=>by have:=t.len f;omega) (ds _) x.ax.length 0 _ v z aa aa al).mono ?_;rintro r H' ⟨rfl,⟨G,u⟩,N⟩;have o:=pu.trans N;refine⟨?_,m.trans (p.trans ⟨Nat.le_trans c.1 o.1,λq aH=>by rw[o.2 q aH,c.2 q aH]⟩)⟩;refine yV (K:=aN) (ok:=ba) (f:=λf=>aO (lI x k f)) trivial u.g λf aB=> ?_
 have e:hT (tl f)=aO (lI x k f):=t.end aA f;show aI aN H' ba (aO (lI x k f)) (ch (hT (tl f)) (G f));rw[<-e];exact TN λh=>⟨trivial,(u.ar f aB h).2⟩
end
end
end Go.Proofs.YtmhhnnklfcbgfaaGreat
namespace Go.a2
open Go.cv
open Classical
section
variable {x:bq}{k:cK}
theorem Pz{i:In}{c:Nat}(h:c∈eX x k i):c<k.fields.length:=by
 unfold eX at h;split at h
 ·exact(g4.1 h).1
 ·split at h
  ·exact tt h
  grind
theorem ad5{i:In}{c a:Nat}(aA:c∈eX x k i)(h:fC k.fields [(c:Int)] a)(d:a∉hM x k):a∈eX x k i:=by
 have one:∀{r:List Int},fC k.fields r c->fC k.fields r a:=λau=>h.mono (by grind)
 unfold eX at aA ⊢;split at aA
 ·grind[nP]
 ·rename_i e;rw[if_neg e];split at aA
  ·rename_i b;rw[if_pos b];unfold cr at aA ⊢;split at aA
   ·exact Gb.2 ⟨nP.2 (one (nP.1 (Gb.1 aA).1)),d⟩
   grind
  grind
theorem O0{l:List Nat}{n:Nat}:((n:Nat):Int)∈(l.map λ(n:Nat)=>(n:Int))↔n∈l:=by
 grind
theorem Qd{vars:List Int}{is:List In}{a:Nat}(e:a∉hM x k):fC k.fields (vars++is.flatMap λi=>(eX x k i).map λ(n:Nat)=>(n:Int)) a↔fC k.fields vars a\/∃i∈is,a∈eX x k i:=by
 constructor
 ·intro h
  induction h with
  |root hm ar=>
   rcases List.mem_append.1 hm with h|h
   ·exact .inl (.root h ar)
   grind
  |step aA aB b ar j=>
   rename_i c fs d;have f:c∉hM x k:=λh=>e (nP.2 (.step (nP.1 h) aB b ar))
   rcases j f with h|⟨i,aP,h⟩
   ·exact .inl (.step h aB b ar)
   ·have g:=Pz h;exact .inr ⟨i,aP,ad5 h (.step (.root (by simp) g) aB b ar) e⟩
 ·rintro(h|⟨i,aP,h⟩)
  ·grind[fC.append]
  ·exact .root (by grind) (Pz h)
theorem adL{f:Nat}{co:bQ}:(((fa k.fields (((List.range co.vars.length).map λv=>k.node (bj x.ax f+v))++co.ins.flatMap λi=>(eX x k i).map λ(n:Nat)=>(n:Int))).map λ(n:Nat)=>(n:Int)).filter λa=>decide (∀o∈[(hM x k).map λ(n:Nat)=>(n:Int),(kU x k f co).map λ(n:Nat)=>(n:Int)],a∉o))=(oU x k f co).map λ(n:Nat)=>(n:Int):=by
 unfold oU;refine vW (List.Pairwise.filter _ (GY _ _)) (λa b=> ?_) λn aL c=> ?_
 ·obtain⟨ah,ai⟩:=List.mem_filter.1 b;obtain⟨n,aL,rfl⟩:=List.mem_map.1 ah;simp only[decide_eq_true_eq,List.mem_cons,List.not_mem_nil,or_false,forall_eq_or_imp,forall_eq,O0]at ai;exact⟨n,rfl,(g4.1 aL).1,(Qd ai.1).1 (nP.1 aL),ai.1,ai.2⟩
 grind[O0,nP,Qd]
end
end Go.a2
namespace Go.Proofs.YtmhhnnklfcbgfaaGreat
open Go.cv
open Nat (reduceAdd reduceLeDiff)
section
open Go.a2
set_option maxRecDepth 2000
section
variable {x:bq}{k:a2.cK}{zX W0 B:Nat}{a b cc d ov nv fv gv uv:af}{n:Nat}{H:ae}
theorem ac7{ok:Nat->Prop}(Q:ep x)(G:fN (b7 x) x.sites.length k){f:Nat}{co:bQ}{i:In}{wi:af}(y:dM x f co i=J)(hw:aI aN H ok i.args wi)(s:iM x k zX W0 B a b cc d n ov nv fv gv uv H):
  W (aK P aD 45 [.ptr W0 0 0,.agg (cf i wi)] H) λr H'=>aI aN H' ba (aO (eX x k i)) r/\aw H H':=by
 refine agB 0 ?_;have R:=Q.sites;have K:dS (.ptr W0 0 0)=A (.ptr W0 0 0):=rfl;have p:=aw.push H (.row I 6 [cf i wi]);have U:(H.push (.row I 6 [cf i wi])).get H.next=A (.row I 6 [[D F i.op,D F i.a,D F i.b,D F i.c,D F i.n,wi]]):=ae.a1 _ _
 refine bF @IN.eq_1 (dm hw) ?_;have l:=s.aC p;generalize H.push (.row I 6 [cf i wi])=H0 at*;generalize H.next=zI at*
 have m:=fU U;have alloc:0<=i.n->i.n.toNat<x.sites.length->(i.op=11\/i.op=12)->W (xQ (aK P aD) (.ptr W0 0 0) (.ptr zI 0 0) (D F i.op) (C J) H0) λr H'=>aI aN H' ba (aO (eX x k i)) r/\aw H H':=by
  intro z ah aX;obtain⟨ak,S,T⟩:=l.aX.int (j:=i.n) (a:=k.site i.n) z (SU G z ah);have L:=aw.push H0 (.row I 1 [[D F (k.site i.n)]]);have M:=l.aC L;refine bb @xQ.eq_1 K (iU l.cC) (o U) S (ag T @c3) ?_;refine e2 (Ed G R M.cC M.aB (hd H0 ba trivial (k.site i.n)) aW) λr H1 ad ai=> ?_
  have e:eX x k i=fa k.fields [k.site i.n]:=if_pos aX;rw[e];exact aE.2 ⟨ad.az,(p.trans L).trans ai⟩
 by_cases u:i.op=11
 ·have t:∀j:Int,(i.op==j)=(11==j):=λj=>al
  have h:=kF (o9 u y).2;have:=alloc h.1 h.2.1 (.inl u);simp-implicitDefEqProofs(disch:=try exact aY)only[reduceAdd,reduceLeDiff,reduceIte,bB,m,t,Int.reduceBEq];omega
 have N:(i.op==11)=false:=beq_eq_false_iff_ne.2 u;by_cases v:i.op=12
 ·have t:∀j:Int,(i.op==j)=(12==j):=λj=>al
  have h:=kF (o_ v y).2;have:=alloc h.1 h.2.1 (.inr v);simp-implicitDefEqProofs(disch:=try exact aY)only[reduceAdd,reduceLeDiff,reduceIte,bB,m,t,Int.reduceBEq];omega
 have O:(i.op==12)=false:=beq_eq_false_iff_ne.2 v;by_cases E:i.op=13
 ·obtain⟨g,aR⟩:=ni E y;have aj:=(List.getElem?_eq_some_iff.1 aR.at_.2).1;have t13:(i.op==13)=true:=al;obtain⟨q,w,V,Y,aa⟩:=l.hu.list (j:=i.c) (a:=aO (cr x k i.c.toNat)) aR.at_.1 al;refine bb @xQ.eq_1 m N O t13 (ag K (ag (iU l.cC) (ag (o U) (ag V Y)))) ?_;have e:eX x k i=cr x k i.c.toNat:=by grind[eX]
  rw[e];exact aE.2 ⟨aa.any,p⟩
 ·have ab:(i.op==13)=false:=beq_eq_false_iff_ne.2 E;refine bb @xQ.eq_1 @CW.eq_1 m N O ab ?_;have e:eX x k i=[]:=by grind[eX]
  rw[e];exact aE.2 ⟨.nil,p⟩
theorem Px(a:fN (b7 x) x.sites.length k)(i:In):(eX x k i).length<=k.count:=by
 unfold eX;split
 ·unfold fa;rw[a.dz];exact kW _ _
 grind[GG]
theorem Qc(e:ep x)(g:fN (b7 x) x.sites.length k){f:Nat}{co:bQ}(aB:x.ax[f]? =A co){H0:ae}{R:Nat}(M:B<=R)(G:iM x k zX W0 B a b cc d n ov nv fv gv uv H0){gw:af}(y:aI fJ H0 (· <B) co.ins gw)(S:co.ins.length<=1000000){x4 x15 x16 x17:af}{L1:af->af->af->af->af->ae->O}{Q:af->ae->Prop}{N:Nat}:∀(j i q:Nat) (H:ae) (l:List Int) (v:af),i+j=co.ins.length->j<q->cg R H0 H->R<=H.next->aZ aN R ba H l v->l.length+60*j<=900000000->
  (∀(H':ae) (m:af),cg R H0 H'->R<=H'.next->aZ aN R ba H' (l++(co.ins.drop i).flatMap λi=>aO (eX x k i)) m->W (Ce (aK P aD) N L1 (.ptr W0 0 0) x4 (D F (f:Nat)) m x15 x16 x17 H') Q)->
  W (xd (aK P aD) N L1 q (.ptr W0 0 0) x4 (D F (f:Nat)) v x15 x16 x17 gw (D F co.ins.length) (D F (i:Nat)) H) Q
 |_,_,0,_,_,_,_,aH,_,_,_,_,_=>aa
 |0,i,q+1,H,l,v,aP,_,pu,r,ar,_,fin=>by
  have an:¬(i:Int)<(co.ins.length:Int):=aa;refine bF @xd.eq_2 @Cd.eq_1 ?_;grind
 |j+1,i,q+1,H,l,v,aP,aH,pu,r,ar,ao,fin=>by
  have t:i<co.ins.length:=aa;have am:=g.kH;have av:=e.sites;have z:cg B H0 H:=⟨pu.1,λq aH=>pu.2 q aa⟩;have s:=G.eu z;have hw:aI fJ H (· <B) co.ins gw:=y.keep λp c (u:p<B) ak=>⟨u,by rw[z.2 p u];omega⟩
  obtain⟨L,nn,wi,ab,ad,E⟩:=hw.rf (j:=(i:Int)) (i:=co.ins[i]) aa al;have T:dM x f co co.ins[i]=true:=(hI (e.code aB)).ins (List.getElem_mem t);have ah:=e8 (show i<=1000000000 by omega);have on:=Qc e g aB M G y S (x4:=x4) (x15:=x15) (x16:=x16) (x17:=x17) (L1:=L1) (Q:=Q) (N:=N) j (i+1) q;rw[List.drop_eq_getElem_cons t,List.flatMap_cons]at fin;generalize co.ins[i]=ins at*;have st:=qD (i:=ins) (w:=wi) (ae.a1 H (.row I 6 [[D F 0,D F 0,D F 0,D F 0,D F 0,.aq]])) E.one;have pp:=aw.push H (.row I 6 [cf ins wi]);have U:=ae.a1 H (.row I 6 [cf ins wi]);refine bb @xd.eq_2 @Cd.eq_1 ab (ad _ (aw.refl _)) st (ag @ae.gD (gK U)) ?_
  refine e2 (ac7 e g T (E.aC pp) (s.aC pp)) λay ai V Y=> ?_
  have h:=pp.trans Y;have ap:=h.1;have au:=Px g ins;obtain⟨m,H',K,aj,o,_,_⟩:=(ar.aC h).ints aa V (by rw[fI];omega);have hle:=o.1;refine bF K ah ?_;have aA:cg R H0 H':=pu.trans ((ek h r).trans o);grind[fI]
end
end
section
open Go.a2
set_option maxRecDepth 2000
noncomputable def nR(x:bq)(k:a2.cK)(f:Nat):List Nat:=match x.ax[f]? with
 |some c=>oU x k f c
 |none=>[]
section
variable {x:bq}{k:a2.cK}{zX W0 B:Nat}{a b cc d ov nv fv gv uv:af}{n:Nat}
def aid(l:Nat){v w:af}(a:v.one=J)(hw:w.one=J):gu P l 31 2 [(0,v),(1,w)]=A (.az l 0 2 1 (A 2),.row I 1 [[v],[w]]):=by
 have u:P.underlying 31=A (.slice 30):=aG;have d:cM P 30=A 1:=aG;have z3:gb P 30=A .aq:=aG;have c:=dn a;have cw:=dn hw;have b:af.aq.cells=[af.aq]:=rfl;have on:af.aq.one=true:=rfl;simp[gu,u,d,z3,lZ,c,cw,b,a,hw,on,List.replicate]
theorem M9(fs:List (List Int))(r:List Int):(aO (fa fs r)).length<=fs.length:=by rw[fI];exact kW _ _
theorem Qb(au:right x=J)(e:fN (b7 x) x.sites.length k){cw:af}{N:Nat}(a3:900000<N):∀(j i q:Nat) (H:ae) (v:af),i+j=x.ax.length->j<q->iM x k zX W0 B a b cc d n ov nv fv gv uv H->aI fO H (· <B) x.ax cw->aZ (bp aN) B (B<= ·) H ((List.range i).map λf=>aO (nR x k f)) v->
  W (xc (aK P aD) N q (.ptr W0 0 0) v cw (D F x.ax.length) (D F (i:Nat)) H) λr H'=>aZ (bp aN) B (B<= ·) H' ((List.range x.ax.length).map λf=>aO (nR x k f)) r/\cg B H H'
 |_,_,0,_,_,_,aH,_,_,_=>aa
 |0,i,q+1,H,v,aP,_,s,_,ar=>by
  have bP:¬(i:Int)<(x.ax.length:Int):=aa;refine bT @xc.eq_2 @Cc.eq_1 @t_.eq_1 ?_;obtain rfl:i=x.ax.length:=aa;exact aE.2 ⟨ar,.refl _ _⟩
 |j+1,i,q+1,H,v,aP,aH,s,am,ar=>by
  have E:=fG au;have a9:=E.sites;have bH:=E.ax;have bO:=e.dz;have bN:=e.kH;have U:i<x.ax.length:=aa;have aB:x.ax[i]? =A x.ax[i]:=al;have bL:=nT au;have bM:=oH (List.getElem_mem U);have bI:=(hI (E.code aB)).vars;have on:=Qb au e (cw:=cw) a3 j (i+1) q;have a8:nR x k i=oU x k i x.ax[i]:=by grind[nR]
  have a7:cr x k i=kU x k i x.ax[i]:=by grind[cr]
  have aU:=adL (x:=x) (k:=k) (f:=i) (co:=x.ax[i]);have bt:=e8 (show i<=1000000000 by omega);obtain⟨L,nn,T,gw,bm,bn,bS,b2⟩:∃L n v w,ct P 24 cw (D F i)=A (.ptr L n 0)/\(∀H',aw H H'->aJ P H' 49 (.ptr L n 0)=A (.agg (cL x.ax[i] v w)))/\aI fc H (· <B) x.ax[i].vars v/\aI fJ H (· <B) x.ax[i].ins w:=by
   obtain⟨L,n,ro,els,cs,ah,_,ai,ay,v,w,rfl,bS,b2⟩:=am.at_ (K:=fO) cG (j:=(i:Int)) (a:=x.ax[i]) aa (by simp[U]);exact⟨L,n,v,w,ah,λH' p=>hA (n:=7) (c:=0) aG aG (p.get ai) ay (by exact ds 7),bS,b2⟩
  generalize x.ax[i]=co at*;have st:=o8 (c:=co) (v:=T) (w:=gw) (ae.a1 H (.row I 7 [[D F 0,.aq,C I,D F 0,D F 0,D F 0,.aq]])) bS.one b2.one;have pp:=aw.push H (.row I 7 [cL co T gw]);have b5:=ae.a1 H (.row I 7 [cL co T gw]);have Q:=s.aC pp;refine bb @xc.eq_2 @Cc.eq_1 bm (bn _ (aw.refl _)) st @ae.gD ?_;refine cB (T9 au e Q.cC Q.aF Q.aL Q.aA aB) ?_;rintro v1 H1 ⟨bd,G,_⟩;refine⟨G.1,?_⟩;refine cB (LC bd (by simp[k4];omega)) ?_;rintro v2 av ⟨be,M,_⟩;refine⟨M.1,?_⟩;have Y:=(pp.trans G).trans M;have s2:=s.aC Y;have a0:=M.get (G.get b5);have bQ:=(pp.trans G).1
  have a5:=M.1;have oM:=s.oM;refine bF (h2 a0) (b2.bf eJ) ?_;refine Qc E e aB (B:=B) (R:=H1.next) aa s2 (b2.aC Y) aa co.ins.length 0 N av _ v2 aa aa (.refl _ _) a5 be (by simp[k4];omega) ?_;intro aM v3 bl bR an;rw[List.drop_zero]at an;have ab:aw H aM:=⟨aa,λz a_=>by rw[bl.2 z aa,Y.2 z a_]⟩;have ad:=s.aC ab;have bh:dS (.ptr W0 0 0)=A (.ptr W0 0 0):=rfl;have bc:∀l:List In,(l.flatMap λi=>aO (eX x k i)).length<=60*l.length:=λl=>by
   induction l with
   |nil=>simp
   |cons z l bW=>
    grind[Px,fI]
  have bJ:=bc co.ins;have bV:(k4 x k i co).length=co.vars.length:=by simp[k4]
  refine bK @Ce.eq_1 ?_;refine e2 (Ed e a9 ad.cC ad.aB an.az al) λv4 u bg bk=> ?_
  have m:=ab.trans bk;have hq:=s.aC m;obtain⟨L5,i5,bX,bE,bC,bu,_,bv,bw,h,rfl,aj⟩:=s.hu.at_ (K:=bp aN) dJ (j:=(i:Int)) (a:=aO (cr x k i)) aa (by simp[U]);have lw:∀{H':ae},aw H H'->aJ P H' 30 (.ptr L5 i5 0)=A h:=λp=>by rw[eW sg (p.get bv) bw];rfl
  have O:=aw.push u (.row I 1 [[gv],[h]]);have a4:=s.aR.one;have a6:=aj.one;have bi:aI (bp aN) (u.push (.row I 1 [[gv],[h]])) ba [aO (hM x k),aO (cr x k i)] (.az u.next 0 2 1 (A 2)):= .inr (.inl ⟨u.next,0,A 2,I,_,rfl,trivial,ae.a1 _ _,aW,λj y t=>by
   match j,t with
   |0,t=>cases t;exact⟨[gv],rfl,gv,rfl,((s.aR.aC m).aC O).any⟩
   |1,t=>cases t;exact⟨[h],rfl,h,rfl,((aj.aC m).aC O).any⟩⟩)
  have bU:=GG e i;refine dd bh (iU hq.cC) bu (lw m) (λz0=>aid z0 a4 a6) ?_;refine cB (O8 (by grind[M9]) aW (λo aX=>by
   simp only[List.mem_cons,List.not_mem_nil,or_false]at aX;rcases aX with rfl|rfl
   ·have:=M9 k.fields ((List.range x.globals.length).map λg=>k.node (eA x g));exact Nat.le_trans this aa
   grind[fI]) (bg.az.aC O) bi) ?_
  rintro v6 aQ ⟨V,ap⟩;refine⟨ap.1,?_⟩;have aT:nQ (aO (fa k.fields (k4 x k i co++co.ins.flatMap λi=>aO (eX x k i)))) [aO (hM x k),aO (cr x k i)]=aO (nR x k i):=by
   rw[a8,a7];exact aU
  rw[aT]at V;have ao:=m.trans O;have bj:=ao.trans ap;have a2:=ao.1;obtain⟨bs,H',aS,ak,S,bD⟩:=ar.qV dJ oM bj ((V.kt fy).keep (.le λq aH=>Nat.le_trans a2 aH)) al;have hle:(aQ.push (.row I 1 [[v6]])).next<=H'.next:=by grind[ae.fW]
  have bo:bG (A gv) gv=true:=dD s.aR;have bq:bG (A uv) uv=true:=dD s.hu;have br:bG (A h) h=true:=dD aj;refine bb (λz0=>qB z0 V.az.one) aS (iU ad.cC) (iU hq.cC) (lw ab) (ag (lw m) (ag bo (ag bq (ag br (ag @xb.eq_1 bt))))) ?_;have aV:((List.range i).map λf=>aO (nR x k f))++[aO (nR x k i)]=(List.range (i+1)).map λf=>aO (nR x k f):=by grind[List.range_succ]
  rw[aV]at ak;refine(on H' bs aa aa (s.eu S) (am.keep λq c (aH:q<B) g=>⟨aH,by rw[S.2 q aH];exact g⟩) ak).mono ?_;rintro r bA ⟨bx,bz⟩;exact⟨bx,S.trans bz⟩
theorem adM{H:ae}{ok:Nat->Prop}(au:right x=J){V:af}(aF:cE H ok x V):
  W (aK P aD 20 [V] H) λr H'=>aI (bp aN) H' ba ((List.range x.ax.length).map λf=>aO (nR x (a2.fK x) f)) r/\aw H H':=by
 have j:=aF;have h:=fG au;have i:=u_ x;have t:=h.ax;obtain⟨_,rfl,a,b,cc,d,rfl,ah,ai,ay,aM⟩:=aF;refine Rs 1000000 ?_;have e:=aw.push H (.row I 5 [[a,b,cc,d,D F x.main]]);have c:=ae.a1 H (.row I 5 [[a,b,cc,d,D F x.main]]);refine bT @Cb.eq_1 (dQ ah ai ay aM) (cq c) ?_;refine cB (JJ au (j.aC e)) ?_;rintro _ K ⟨zX,W0,E,bY,b',o,q,n,ov,nv,fv,gv,uv,rfl,s,p⟩;refine⟨p.1,?_⟩;have ne:bx P .eql 73 J (.ptr W0 0 0) .gC=A (C I):=aG;have k:aJ P K 24 (.ptr H.next 0 2)=A cc:=rp (p.get c);have lc:∀H0,bD P H0 .len [24] [cc]=A (D F x.ax.length):=λH0=>ay.len cG
 have sv:=s.T_;have g:=e.trans p;refine bT ne k lc ?_;refine(Qb au i (B:=K.next) aa x.ax.length 0 _ K .aq aa aa sv (ay.aC g).below (aZ.nil _ _ _ _)).mono ?_;rintro r H' ⟨l,m⟩;exact⟨l.az.any,g.trans m.aC⟩
