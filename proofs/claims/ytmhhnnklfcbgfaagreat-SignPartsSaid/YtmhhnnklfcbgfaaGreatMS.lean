/-
  Texts of one proof, laid together: Sk Sm Sn Sq Tw SgO SgP Tx Ty Tz Va Vb Vc Zb SgR Zc Zd Ze Zf Zg Zh SgS Zi.
-/
import Derived.Test.YtmhhnnklfcbgfaaGreatMR
set_option linter.unusedVariables false
set_option linter.unusedSimpArgs false
set_option linter.defProp false
open Option renaming some→D,none→I
open Bool renaming true→C,false→Z
open Go.bz.ae renaming int→J,bool→A
open Go.IntKind renaming i64→X
namespace Go.Proofs.YtmhhnnklfcbgfaaGreat
open Go.bz
section
open Go.a2
set_option maxRecDepth 2000
section
variable {x:bj}{k:a2.cB}{zX W0 E:Nat}{a b cc d:ae}{n:Nat}{ov nv fv gv:ae}
def LO(l:Nat){v:ae}(a:v.one=C):gd P l 31 1 [(0,v)]=D (.aD l 0 1 1 (D 1),.row Z 1 [[v]]):=DU l a
def IF(au:right x=C)(t:gg (ck x) x.sites.length k){N:Nat}:∀(j i q:Nat) (H:ad) (uv:ae),i+j=x.ay.length->j<q->my x k zX W0 E i a b cc d n ov nv fv gv uv H->
  W (tS (aQ P aK) N q (.ptr zX 0 0) (.ptr W0 0 0) (J X x.ay.length) (J X i) H) λr H'=>r= .ptr W0 0 0/\(∃bx,my x k zX W0 E x.ay.length a b cc d n ov nv fv gv bx H')/\H.next<=H'.next/\∀q,q<E->q≠W0->H'.get q=H.get q
 |_,_,0,_,_,_,aN,_=>aa
 |0,i,q+1,H,uv,ba,_,s=>by
  have ag:¬(i:Int)<(x.ay.length:Int):=aa;simp-implicitDefEqProofs(disch:=try exact ai)only[tS,x_,Db,aj,aC,ag,decide_false];obtain rfl:i=x.ay.length:=aa;exact aG.2 ⟨rfl,⟨uv,s⟩,bC _,λ_ _ _=>rfl⟩
 |j+1,i,q+1,H,uv,ba,aN,s=>by
  have ag:(i:Int)<(x.ay.length:Int):=aa;have ar:i<x.ay.length:=aa;have ab:=gA au;have be:=ab.sites;have bO:=ab.ay;have on:=IF au t (N:=N) j (i+1) q;have az:x.ay[i]? =D x.ay[i]:=List.getElem?_eq_getElem ar;generalize x.ay[i]=c at az;have ap:=jZ (ab.code az);obtain⟨a8,bo,bJ⟩:=ap.params;have bQ:=ap.vars;obtain⟨bS,bh,bi⟩:=s.fZ;simp-implicitDefEqProofs(disch:=try exact ai)only[tS,x_,aj,aC,ag,decide_true];refine aZ (MM au t s.du s.aA s.aH s.aq az) ?_;rintro bW H1 ⟨v1,m,bz⟩;refine⟨m.1,?_⟩;have a5:=m.get s.aS;simp-implicitDefEqProofs(disch:=try exact ai)only[aj,cH a5];refine aZ (W3 au (s.aA.aE m) ar) ?_
  rintro _ V ⟨rfl,T⟩;refine⟨T.1,?_⟩;have l:=m.trans T;have a6:=l.get s.aS;have a1:=l.get s.du;obtain⟨_,bc,bG,bH,bI,d1,ao,aW,aY,Y,a0⟩:=s.aA;cases bc;simp only[List.cons.injEq,and_true]at ao;obtain⟨rfl,rfl,rfl,rfl⟩:=ao;have aA:cM H (· <W0) x (.agg [a,b,cc,d,J X x.main]):=s.aA;obtain⟨L,li,bL,bM,br,bs,bR,b0⟩:=Y.oC (j:=(i:Int)) aa (by simpa using az);have B:∀{H':ad},av H H'->aI P H' 3 (.ptr L li 0)=D (J X ((c.params.toNat:Nat):Int)):=λp=>by rw[(bs _ p).1,Int.toNat_of_nonneg a8]
  have M:(h2 x k i c).length=c.vars.length:=by simp[h2]
  obtain⟨w,bX,bE,s1,s2,bm,bV,hc⟩:=Ws (H:=V) (v1.aE T) (by
   rw[M];rcases bz with z|⟨L',bf,cap,ro,els,bB,bD,z3,z4⟩
   ·exact .inl z
   ·exact .inr ⟨L',bf,cap,ro,els,bB,T.get bD,z3,z4⟩) (p:=c.params.toNat) (by rw[M];omega) (by rw[M];omega) (k.node (fQ x i))
  have bd:fQ x i<ck x:=by unfold fQ ck;omega
  obtain⟨bn,i1,i2⟩:=(s.aH.aE l).int (j:=((fQ x i:Nat):Int)) (a:=k.node (fQ x i)) aa (by simpa using Ba t bd);simp-implicitDefEqProofs(disch:=try exact ai)only[Nat.reduceAdd,aj,aJ,aL,qj a6,br,B l,s1,hs a1,i1,i2,ej,s2];have R:=l.trans bm;have a2:=R.get s.du;refine aZ (y0 t be a2 (s.az.aE R) hc (by simp[M];omega)) ?_;rintro ho u ⟨f1,aM⟩;refine⟨aM.1,?_⟩;have S:=R.trans aM;have a3:=S.get s.du;have a9:=s.aP.one;have am:=av.push u (.row Z 1 [[gv]]);simp-implicitDefEqProofs(disch:=try exact ai)only[aj,aJ,aL,hs a3,LO _ a9];have bP:=t.ez;have bN:=t.l3;have ax:∀r,(aX (dS k.fields r)).length<=60:=λr=>by
   have:=j_ k.fields.length (eX k.fields r);have e:(aX (dS k.fields r)).length=(dS k.fields r).length:=by simp[aX]
   have bK:(dS k.fields r).length<=k.fields.length:=this;omega
  have bj:aO (b1 aT) (u.push (.row Z 1 [[gv]])) bk [aX (gu x k)] (.aD u.next 0 1 1 (D 1)):= .inr (.inl ⟨u.next,0,D 1,Z,_,rfl,trivial,ad.a_ _ _,by simp,λj y af=>by
   match j,af with
   |0,af=>cases af;exact⟨[gv],rfl,gv,rfl,((s.aP.aE S).aE am).any⟩⟩)
  refine aZ (IX (by have:=ax ((h2 x k i c).take c.params.toNat++[k.node (fQ x i)]);omega) (by simp) (λo aR=>by
   have:=ax ((List.range x.globals.length).map λg=>k.node (fl x g));simp only[List.mem_singleton]at aR;subst aR;exact Nat.le_trans this bU) (f1.aD.aE am) bj) ?_
  rintro v G ⟨O,aU⟩;refine⟨aU.1,?_⟩;rw[Wf aa]at O;have aV:cS x k i=jo x k i c:=by unfold cS;rw[az]
  rw[<-aV]at O;have ah:=S.trans am;have ak:=ah.trans aU;have bb:H.next<=(u.push (.row Z 1 [[gv]])).next:=ah.1
  obtain⟨yX,an,x1,x2,U,x4,x5⟩:=bq.rF (K:=b1 aT) (ok:=(E<= ·)) (ok':=(E<= ·)) e4 s.hu bi ak (a:=aX (cS x k i)) (cs:=[v]) ⟨v,rfl,(O.q7 fP).keep (.le λq aN=>Nat.le_trans bb aN)⟩ (λq aN=>by rcases aN with h|h<;>omega) (by simp;omega);have bY:(G.push (.row Z 1 [[v]])).next<=an.next:=by rw[ad.dm];exact x4
  have bA:ee P (G.push (.row Z 1 [[v]])) [31,31] uv (.aD G.next 0 1 1 (D 1))=D (yX,an):=x1;have a7:((List.range i).map λf=>aX (cS x k f))++[aX (cS x k i)]=(List.range (i+1)).map λf=>aX (cS x k f):=by rw[List.range_succ,List.map_append];rfl
  rw[a7]at x2;have a4:=(U.2 W0 bh).trans s.du;have st:=aa4 a4 x2.aD.one;have bp:=av.push G (.row Z 1 [[v]]);have bl:=ak.trans bp;have al:=l.trans (av.push V (.row Z 1 [[J X (k.node (fQ x i))]]));have bw:bF (D (.agg [a,b,cc,d,J X x.main])) (.agg [a,b,cc,d,J X x.main])=true:=by simp[bF,ae.beq,er.beq,aW.rd,aY.rd,Y.rd,a0.rd]
  have bg:bF (D cc) cc=true:=by simp[bF,Y.rd]
  have bu:bF (D nv) nv=true:=by simp[bF,s.aH.rd]
  have bt:bF (D gv) gv=true:=by simp[bF,s.aP.rd]
  have bv:bF (D uv) uv=true:=by simp[bF,s.hu.aD.rd]
  have aF:∀{H':ad},av H H'->aI P H' 27 (.ptr zX 0 0)=D (.agg [a,b,cc,d,J X x.main]):=λp=>cH (p.get s.aS)
  have lc:∀{H':ad},av H H'->aI P H' 24 (.ptr zX 0 2)=D cc:=λp=>qj (p.get s.aS)
  have lw:∀{H':ad},av H H'->aI P H' 30 (.ptr W0 0 7)=D nv/\aI P H' 30 (.ptr W0 0 9)=D gv/\aI P H' 31 (.ptr W0 0 10)=D uv:=λp=>⟨(hs (p.get s.du)).2.2.1,(hs (p.get s.du)).2.2.2.2.1,(hs (p.get s.du)).2.2.2.2.2⟩
  have Q:=av.refl H;have bT:aI P V 3 bn=D (J X (k.node (fQ x i))):=i2;simp-implicitDefEqProofs(disch:=try exact ai)only[aj,aJ,aC,aL,lw ak,LO _ O.aD.one,bA,st,aF Q,aF m,lc Q,lc m,lc l,lc al,B Q,B m,B l,B al,lw Q,lw m,lw l,lw R,lw S,lw ah,lw bl,lw al,i2,bw,bg,bu,bt,bv,cq (show i<=1000000000 by omega)];refine(on _ yX aa aa (s.step U x2)).mono λr H' z=>⟨z.1,z.2.1,by have:=z.2.2.1;have:=U.1;simp at*;omega,λq aN aw=>by rw[z.2.2.2 q aN aw,ad.cb (Ne.symm aw),U.2 q aN]⟩
end
end
section
open Go.a2
set_option maxRecDepth 2000
section
variable {x:bj}{H:ad}{ok:Nat->Prop}
def y1(au:right x=C){V:ae}(aA:cM H ok x V):W (aQ P aK 38 [V] H) λr H'=>∃zX W0 E a b cc d n ov nv fv gv uv,r= .ptr W0 0 0/\my x (a2.hR x) zX W0 E x.ay.length a b cc d n ov nv fv gv uv H'/\av H H':=by
 have y:=aA;have v:=gA au;have w:=va x;obtain⟨_,rfl,a,b,cc,d,rfl,af,ah,an,aM⟩:=aA;refine YO (x.globals.length+x.ay.length+1) ?_;have L:=av.push H (.row Z 5 [[a,b,cc,d,J X x.main]]);have j:=ad.a_ H (.row Z 5 [[a,b,cc,d,J X x.main]]);simp-implicitDefEqProofs(disch:=try exact ai)only[Da,aj,dV af ah an aM,cH j];refine aZ (oO (y.aE L) (mV v) (mW au)) ?_;rintro _ K ⟨rfl,p⟩;refine⟨p.1,?_⟩;rw[au];simp-implicitDefEqProofs(disch:=try exact ai)only[aj,Bool.not_true,cH (p.get j)];refine aZ (F1 au ((y.aE L).aE p)) ?_;rintro _ c ⟨⟨ov,nv,fv,rfl,a8,bo,bJ,bT⟩,ag⟩;refine⟨ag.1,?_⟩;generalize a4:a2.hR x=k at*
 have ab:=p.trans ag;have m:=ab.get j;have aW:bF (D (.agg [a,b,cc,d,J X x.main])) (.agg [a,b,cc,d,J X x.main])=true:=by simp[bF,ae.beq,er.beq,af.rd,ah.rd,an.rd,aM.rd]
 have ak:dU P 76 [(0,.agg [a,b,cc,d,J X x.main]),(1,.agg (bP k.count ov nv fv))]=D (.agg (ft a b cc d x.main k.count ov nv fv .aB .aB)):=Fu;have al:fe c.next (.agg (ft a b cc d x.main k.count ov nv fv .aB .aB))=D (.ptr c.next 0 0,.row Z 11 [ft a b cc d x.main k.count ov nv fv .aB .aB]):=by
  have am:=af.one;have ao:=ah.one;have ap:=an.one;have aq:=aM.one;have ar:=a8.one;have aw:=bo.one;have ax:=bJ.one;simp[fe,ae.cells,ft,am,ao,ap,aq,ar,aw,ax];rfl
 have e:=av.push c (.row Z 11 [ft a b cc d x.main k.count ov nv fv .aB .aB]);have u:=ad.a_ c (.row Z 11 [ft a b cc d x.main k.count ov nv fv .aB .aB]);have aV:∀{H':ad},H'.get H.next=D (.row Z 5 [[a,b,cc,d,J X x.main]])->aI P H' 23 (.ptr H.next 0 1)=D b:=λg=>by rw[e_ aF g rfl];rfl
 have aU:∀H0,bL P H0 .len [23] [b]=D (J X x.globals.length):=λH0=>ah.len cX
 simp-implicitDefEqProofs(disch:=try exact ai)only[br,aj,aJ,aL,cH m,ak,al,cH (p.get j),aW,aV (e.get m),aU];have aG:H.next<c.next:=ad.bE m
 have a1:H.next<K.next:=ad.bE (p.get j)
 have G:=(L.trans ab).trans e;obtain⟨W0,l⟩:∃W0,W0=c.next:=⟨_,rfl⟩
 rw[<-l]at u aG ⊢;have a7:(c.push (.row Z 11 [ft a b cc d x.main k.count ov nv fv .aB .aB])).next=W0+1:=by rw[l];simp
 have Q:=e.get m;have U:cM (c.push (.row Z 11 [ft a b cc d x.main k.count ov nv fv .aB .aB])) (· <W0) x (.agg [a,b,cc,d,J X x.main]):=y.keep λq b aN g=>⟨by have:=ad.bE g;omega,G.get g⟩
 have aH:aO aT (c.push (.row Z 11 [ft a b cc d x.main k.count ov nv fv .aB .aB])) (· <W0) (aX k.of) ov:=l▸a8.below.aE e;have T:aO aT (c.push (.row Z 11 [ft a b cc d x.main k.count ov nv fv .aB .aB])) (· <W0) k.nodes nv:=l▸bo.below.aE e;have S:aO (b1 aT) (c.push (.row Z 11 [ft a b cc d x.main k.count ov nv fv .aB .aB])) (· <W0) k.fields fv:=l▸bJ.below.aE e;generalize c.push (.row Z 11 [ft a b cc d x.main k.count ov nv fv .aB .aB])=t at*;refine IG au w (zX:=H.next) (W0:=W0) (B:=W0+1) aa aa x.globals.length 0 _ t .aB aa aa (bq.nil aT _ _ _) aa u Q (U.keep (.le λq aN=>aa)) (T.keep (.le λq aN=>aa)) ?_
 intro a9 M aS f;have N:=(f.2 W0 aa).trans u;have az:=(f.2 H.next aa).trans Q;have aR:e1 t (· <W0) M (· <W0):=λq b (aN:q<W0) g=>⟨aN,by rw[f.2 q aa];exact g⟩
 have aP:=v.sites;have a3:=v.globals;simp-implicitDefEqProofs(disch:=try exact ai)only[yb,aj];refine aZ (y0 w aP N (S.keep aR) aS.aD (by simp;omega)) ?_;rintro gv i ⟨Y,h⟩;refine⟨h.1,?_⟩;have O:=h.get N;have aC:=h.get az;have st:=aa5 O Y.aD.one;have r7:=ad.bE O;have s:∀q,q≠W0->(i.set W0 (.row Z 11 [ft a b cc d x.main k.count ov nv fv gv .aB])).get q=i.get q:=λq aN=>ad.cb (Ne.symm aN)
 have R:=(s H.next aa).trans aC;have lc:∀H0,bL P H0 .len [24] [cc]=D (J X x.ay.length):=λH0=>an.len cI
 simp-implicitDefEqProofs(disch:=try exact ai)only[br,aj,aJ,aL,st,qj R,lc];have o:e1 t (· <W0) (i.set W0 (.row Z 11 [ft a b cc d x.main k.count ov nv fv gv .aB])) (· <W0):=λq b (aN:q<W0) g=>⟨aN,by rw[s q aa];exact h.get (by rw[f.2 q aa];exact g)⟩
 have a5:=f.1;have a6:=h.1;have aY:my x k H.next W0 i.next 0 a b cc d k.count ov nv fv gv .aB (i.set W0 (.row Z 11 [ft a b cc d x.main k.count ov nv fv gv .aB])):=⟨R,ad.c8 r7,U.keep o,aH.keep o,T.keep o,bT,S.keep o,(Y.q7 fP).keep λq b (aN:M.next<=q) g=>⟨⟨aa,ad.bE g⟩,by rw[s q aa];exact g⟩,bq.nil (b1 aT) _ _ _,aa,r7,by simp⟩
 refine(IF au w x.ay.length 0 _ _ .aB aa aa aY).mono λr H' z=> ?_
 obtain⟨rfl,⟨uv,s1⟩,a0,z3⟩:=z;refine⟨_,_,_,_,_,_,_,_,_,_,_,_,_,rfl,s1,by have:=G.1;simp at a0;omega,λq aN=> ?_⟩;rw[z3 q aa aa,s q aa,h.2 q aa,f.2 q aa,G.2 q aN]
end
end
section
open Go.a2
set_option maxRecDepth 2000
section
variable {x:bj}{H:ad}{ok:Nat->Prop}
def ZP(au:right x=C){V:ae}(aA:cM H ok x V):W (aQ P aK 14 [V] H) λr H'=>aO aT H' bk (aX (gu x (a2.hR x))) r/\av H H':=by
 have f:=aA;obtain⟨_,rfl,a,b,cc,d,rfl,af,ah,an,aM⟩:=aA;refine XD 0 ?_;have c:=av.push H (.row Z 5 [[a,b,cc,d,J X x.main]]);have e:=ad.a_ H (.row Z 5 [[a,b,cc,d,J X x.main]]);simp-implicitDefEqProofs(disch:=try exact ai)only[BZ,aj,dV af ah an aM,cH e];refine aZ (y1 au (f.aE c)) ?_;rintro _ K ⟨zX,W0,E,b8,b',g,h,n,ov,nv,fv,gv,uv,rfl,s,p⟩;refine⟨p.1,?_⟩;have ne:bm P .neq 73 C (.ptr W0 0 0) .gI=D (A C):=aF;simp-implicitDefEqProofs(disch:=try exact ai)only[aj,aJ,aL,ne,hs s.du];exact aG.2 ⟨s.aP.any,c.trans p⟩
def aao(au:right x=C){V:ae}(aA:cM H ok x V){f:Int}:W (aQ P aK 22 [V,J X f] H) λr H'=>aO aT H' bk (if 0<=f then aX (cS x (a2.hR x) f.toNat)else[]) r/\av H H':=by
 have l:=aA;obtain⟨_,rfl,a,b,cc,d,rfl,af,ah,an,aM⟩:=aA;refine Ya 0 ?_;have e:=av.push H (.row Z 5 [[a,b,cc,d,J X x.main]]);have h:=ad.a_ H (.row Z 5 [[a,b,cc,d,J X x.main]]);simp-implicitDefEqProofs(disch:=try exact ai)only[CB,aj,dV af ah an aM,cH h];refine aZ (y1 au (l.aE e)) ?_;rintro _ K ⟨zX,W0,E,b8,b',m,o,n,ov,nv,fv,gv,uv,rfl,s,p⟩;refine⟨p.1,?_⟩;have ne:bm P .neq 73 C (.ptr W0 0 0) .gI=D (A C):=aF;have i:aI P K 24 (.ptr H.next 0 2)=D cc:=qj (p.get h);have lc:∀H0,bL P H0 .len [24] [cc]=D (J X x.ay.length):=λH0=>an.len cI
 by_cases c:0<=f
 ·by_cases g:f<x.ay.length
  ·obtain⟨q,w,i1,i2,i3⟩:=aO.list s.hu.aD (j:=f) (a:=aX (cS x (a2.hR x) f.toNat)) c (by
    have:f.toNat<x.ay.length:=aa;simp[this])
   simp-implicitDefEqProofs(disch:=try exact ai)only[aj,aJ,aC,aL,ne,c,g,decide_true,i,lc,hs s.du,i1,i2];exact aG.2 ⟨i3.any,e.trans p⟩
  ·simp-implicitDefEqProofs(disch:=try exact ai)only[aj,aJ,aC,aL,ne,c,g,decide_true,decide_false,i,lc];have k:cS x (a2.hR x) f.toNat=[]:=by
    unfold cS;rw[List.getElem?_eq_none aa]
   exact aG.2 ⟨by rw[k];exact .nil,e.trans p⟩
 ·simp-implicitDefEqProofs(disch:=try exact ai)only[reduceIte,aj,aC,ne,c,decide_false];exact aG.2 ⟨.nil,e.trans p⟩
end
end
section
open Go.a2
set_option maxRecDepth 2000
section
variable {x:bj}{H:ad}{ok:Nat->Prop}
def ZD(au:right x=C){V:ae}(aA:cM H ok x V):W (aQ P aK 11 [V] H) λr H'=>oh H' bk (a2.hR x) r/\av H H':=by
 have s:=aA;have K:=gA au;obtain⟨_,rfl,a,b,cc,d,rfl,af,ah,an,aM⟩:=aA;refine Xq 0 ?_;obtain⟨zX,f⟩:∃zX,zX=H.next:=⟨_,rfl⟩
 have N:=av.push H (.row Z 5 [[a,b,cc,d,J X x.main]]);have B:=ad.a_ H (.row Z 5 [[a,b,cc,d,J X x.main]]);have v:=av.push (H.push (.row Z 5 [[a,b,cc,d,J X x.main]])) (.row Z 4 [bP 0 .aB .aB .aB]);have o:=ad.a_ (H.push (.row Z 5 [[a,b,cc,d,J X x.main]])) (.row Z 4 [bP 0 .aB .aB .aB]);have h:=v.get B;have w:(H.push (.row Z 5 [[a,b,cc,d,J X x.main]])).next=zX+1:=by rw[f];simp
 have Q:∀(k:ae->ad->O),fu (H.push (.row Z 5 [[a,b,cc,d,J X x.main]])) [J X 0,.aB,.aB,.aB] k=k (.ptr (zX+1) 0 0) ((H.push (.row Z 5 [[a,b,cc,d,J X x.main]])).push (.row Z 4 [bP 0 .aB .aB .aB])):=λk=>by rw[mq,mr,w];rfl
 rw[w]at o;rw[<-f]at h;simp only[BK,dV af ah an aM,nb,Q,<-f];have j:=N.trans v;generalize G:(H.push (.row Z 5 [[a,b,cc,d,J X x.main]])).push (.row Z 4 [bP 0 .aB .aB .aB])=y at*;have S:y.next=zX+2:=by rw[<-G];simp[f]
 simp-implicitDefEqProofs(disch:=try exact ai)only[aj,cH h];refine aZ (oO (s.aE j) (mV K) (mW au)) ?_;rintro _ m ⟨rfl,c⟩;refine⟨c.1,?_⟩;rw[au];have E:=c.get h;simp-implicitDefEqProofs(disch:=try exact ai)only[aj,Bool.not_true,cH E];refine aZ (F1 au (s.aE (j.trans c))) ?_;rintro _ e ⟨⟨ov,nv,fv,rfl,a8,bo,bJ,bT⟩,l⟩;refine⟨l.1,?_⟩;have p:=(c.trans l).get o;generalize a2.hR x=k at*;have st:=mm (n:=k.count) p rfl a8.one bo.one bJ.one;have M:=ad.bE p;have z:(e.set (zX+1) (.row Z 4 [bP k.count ov nv fv])).get (zX+1)=D (.row Z 4 [bP k.count ov nv fv]):=ad.c8 M;have t:∀q,q≠zX+1->(e.set (zX+1) (.row Z 4 [bP k.count ov nv fv])).get q=e.get q:=λq aN=>ad.cb (Ne.symm aN)
 simp-implicitDefEqProofs(disch:=try exact ai)only[aj,st,l9 z];have R:=c.1;have i:e1 e (λL=>m.next<=L) (e.set (zX+1) (.row Z 4 [bP k.count ov nv fv])) bk:=λq b (aN:m.next<=q) g=>⟨trivial,by rw[t q aa];exact g⟩
 have u:=j.trans (c.trans l);exact aG.2 ⟨⟨_,_,_,rfl,a8.keep i,bo.keep i,bJ.keep i,bT⟩,by have:=u.1;simpa using this,λq aN=>by rw[t q aa,u.2 q aN]⟩
end
end
section
open Go.a2
set_option maxRecDepth 2000
section
variable {x:bj}{k:a2.cB}{zX W0:Nat}{a b cc d ov nv fv gv uv cu c3:ae}{lA:Int}{n:Nat}{H:ad}
end
end
end Go.Proofs.YtmhhnnklfcbgfaaGreat
namespace Go.a2
open Go.bz
section
open Classical
section
variable {n m:Nat}{l:List bB}{R:Nat->Nat->Prop}
end
def se{l r:List Nat}{a:Nat}:a∈mb l r↔a∈l/\a∉r:=by simp[mb]
def abM{x:bj}{k:cB}{f a:Nat}(h:a∈m5 x k f):a∈cS x k f:=by
 have:=(fB.1 h).2;cases this with
 |site _ _ _ _ aq=>exact aq
 |call _ _ _ _ aq=>exact aq
def Wg(x:bj)(k:cB)(f:Nat)(c:bH):mb (jo x k f c) (gu x k)=jo x k f c:=by
 unfold mb;rw[List.filter_eq_self];intro a b;have:=(se.1 b).2;simpa using this
def SK(x:bj)(k:cB){a:Nat}(h:a∈dS k.fields ((gu x k).map λ(n:Nat)=>(n:Int))):a∈gu x k:=by
 rw[kD]at h;refine kD.2 (h.mono λc aq hm=> ?_);rw[List.mem_map]at hm;obtain⟨d,b,e⟩:=hm;have:d=c:=by omega
 subst this;exact kD.1 b
def Wl{x:bj}{k:cB}{f v a:Nat}{c:bH}(e:v<c.vars.length)(h:a∈dS k.fields [k.node (bK x.ay f+v)]):
  (if a∈gu x k then 1 else 0)+(if a∈jo x k f c then 1 else 0)+(if a∈mc x k f c then 1 else 0)=1:=by
 by_cases aP:a∈gu x k
 ·have af:a∉jo x k f c:=λh=>(se.1 h).2 aP
  have ah:a∉mc x k f c:=λh=>(fB.1 h).2.2.1 aP
  simp[aP,af,ah]
 ·by_cases aR:a∈jo x k f c
  ·have ah:a∉mc x k f c:=λh=>(fB.1 h).2.2.2 aR
   simp[aP,aR,ah]
  ·have ah:a∈mc x k f c:=by
    have au:=kD.1 h;refine fB.2 ⟨?_,.inl ?_,aP,aR⟩
    ·cases au with
     |root _ aq=>exact aq
     |step _ _ _ al=>exact al
    ·refine au.mono λd b hm=> .root ?_ b
     simp only[List.mem_singleton]at hm;rw[hm,List.mem_map];exact⟨v,List.mem_range.2 e,rfl⟩
   simp[aP,aR,ah]
end
section
open Classical
def hT(k:cB)(tl:Nat->List Int)(i:In):List Int:=if i.op=11\/i.op=12 then[k.site i.n]else if i.op=13 then tl i.c.toNat else[]
def Bj{x:bj}{k:cB}{f c:Nat}(h:c∈cS x k f):c<k.fields.length:=by
 unfold cS at h;split at h
 ·have af:=(se.1 h).1;exact(fB.1 af).1
 ·simp at h
def gD(tl:Nat->List Int)(f:Nat)(l:List Int):Nat->List Int:=λg=>if g=f then l else tl g
def jF(tl:Nat->List Int):Nat->Nat
 |0=>0
 |f+1=>jF tl f+(tl f).length
def zV{tl:Nat->List Int}{m:Nat}(h:∀f,(tl f).length<=m):∀n,jF tl n<=n*m
 |0=>by simp[jF]
 |f+1=>by
  have:=zV h f;have:=h f;rw[jF,Nat.succ_mul];omega
def zW{tl:Nat->List Int}{f:Nat}{l:List Int}(h:(tl f).length<l.length):∀n,jF tl n<=jF (gD tl f l) n/\(f<n->jF tl n<jF (gD tl f l) n)
 |0=>⟨bC _,λh=>by omega⟩
 |g+1=>by
  have a:=zW h g;simp only[jF];by_cases e:g=f
  ·subst e;have b:gD tl g l g=l:=if_pos rfl;rw[b];have:=a.1;exact⟨by omega,λ_=>by omega⟩
  ·have c:gD tl f l g=tl g:=if_neg e;rw[c];exact⟨by have:=a.1;omega,λaz=>by have:=a.2 (by omega);omega⟩
structure lW(n:Nat)(t:Bool)(tl:Nat->List Int)(b:Bool)(a:Nat->List Int):Prop where
 le:jF tl n<=jF a n
 on:b=true->t=true\/jF tl n<jF a n
 off:b=false->t=false/\a=tl
def lW.refl(n:Nat)(t:Bool)(tl:Nat->List Int):lW n t tl t tl:=⟨bC _,.inl,λh=>⟨h,rfl⟩⟩
def lW.trans{n:Nat}{t l m:Bool}{B f g:Nat->List Int}(h:lW n t B l f)(k:lW n l f m g):lW n t B m g:=
 ⟨Nat.le_trans h.le k.le,λe=>by
  rcases k.on e with i|i
  ·rcases h.on i with j|j
   ·exact .inl j
   ·exact .inr (by have:=k.le;omega)
  ·exact .inr (by have:=h.le;omega),λe=>by
  obtain⟨a,b⟩:=k.off e;obtain⟨c,d⟩:=h.off a;exact⟨c,b.trans d⟩⟩
def lW.dn{n f:Nat}{t:Bool}{tl:Nat->List Int}{l:List Int}(az:f<n)(h:(tl f).length<l.length):lW n t tl C (gD tl f l):=
 ⟨(zW h n).1,λ_=> .inr ((zW h n).2 az),λe=>by cases e⟩
def oi(x:bj)(k:cB)(tl:Nat->List Int)(f:Nat):Prop:=∀co,x.ay[f]? =D co->∀i∈co.ins,∀a∈hT k tl i,a∈((cS x k f).map λ(n:Nat)=>(n:Int))->a∈tl f
def Vh(l g:List Nat):kE (l.map λ(n:Nat)=>(n:Int)) (g.map λ(n:Nat)=>(n:Int))=(mb l g).map λ(n:Nat)=>(n:Int):=by
 unfold kE mb;rw[List.filter_map]
 congr 1
 refine List.filter_congr λa _=> ?_
 simp only[Function.comp]
 congr 1
 simp only[List.mem_map,eq_iff_iff];constructor
 ·intro h ah;exact h ⟨a,ah,rfl⟩
 ·rintro h ⟨b,c,e⟩;obtain rfl:b=a:=by omega
  exact h c
end
end Go.a2
namespace Go.Proofs.YtmhhnnklfcbgfaaGreat
open Go.bz
section
open Go.a2
set_option maxRecDepth 2000
section
variable {x:bj}{k:a2.cB}{zX W0 T E:Nat}{a b cc d ov nv fv gv uv c3:ae}
end
end
section
open Go.a2
set_option maxRecDepth 2000
section
variable {x:bj}{k:a2.cB}{zX W0 T E:Nat}{a b cc d ov nv fv gv uv c3:ae}
end
end
section
open Go.a2
set_option maxRecDepth 2000
section
variable {x:bj}{k:a2.cB}{zX W0:Nat}{a b cc d ov nv fv gv uv cu c3:ae}
end
end
section
open Go.a2
set_option maxRecDepth 2000
section
variable {x:bj}{k:a2.cB}{zX W0:Nat}{a b cc d ov nv fv gv uv cu c3:ae}
end
end
section
open Go.a2
set_option maxRecDepth 2000
section
variable {x:bj}{H:ad}{ok:Nat->Prop}
end
end
section
open Go.a2
set_option maxRecDepth 2000
def M7(x:bj):Prop:=(∀g∈x.ay,g.vars.length<=1000000000)/\∀c∈x.ay,c.ins.length<=1000000000
section
variable {x:bj}{H:ad}{ok:Nat->Prop}
end
end
section
open Go.a2
set_option maxRecDepth 2000
structure hA(x:bj)(k:a2.cB)(zX W0 B:Nat)(a b cc d:ae)(n:Nat)(ov nv fv gv uv:ae)(H:ad):Prop where
 aS:H.get zX=some (.row false 5 [[a,b,cc,d,.int .i64 x.main]])
 du:H.get W0=some (.row false 11 [ft a b cc d x.main n ov nv fv gv uv])
 aA:cM H (· <B) x (.agg [a,b,cc,d,.int .i64 x.main])
 aR:aO aT H (· <B) (aX k.of) ov
 aH:aO aT H (· <B) k.nodes nv
 aq:pC nv
 az:aO (b1 aT) H (· <B) k.fields fv
 aP:aO aT H (· <B) (aX (gu x k)) gv
 hu:aO (b1 aT) H (· <B) ((List.range x.ay.length).map λf=>aX (cS x k f)) uv
 kA:zX<B
 r7:W0<B
 mO:B<=H.next
section
variable {x:bj}{k:a2.cB}{zX W0 B E:Nat}{a b cc d ov nv fv gv uv:ae}{n:Nat}{H:ad}
def hA.gy{H':ad}(s:hA x k zX W0 B a b cc d n ov nv fv gv uv H)(p:cT B H H'):hA x k zX W0 B a b cc d n ov nv fv gv uv H':=by
 have e:e1 H (· <B) H' (· <B):=λq c (aN:q<B) g=>⟨aN,by rw[p.2 q aN];exact g⟩
 have:=s.mO;have:=p.1;exact⟨(p.2 zX s.kA).trans s.aS,(p.2 W0 s.r7).trans s.du,s.aA.keep e,s.aR.keep e,s.aH.keep e,s.aq,s.az.keep e,s.aP.keep e,s.hu.keep e,s.kA,s.r7,aa⟩
def hA.aE{H':ad}(s:hA x k zX W0 B a b cc d n ov nv fv gv uv H)(p:av H H'):hA x k zX W0 B a b cc d n ov nv fv gv uv H':=s.gy (eH p s.mO)
def my.MO(s:my x k zX W0 E x.ay.length a b cc d n ov nv fv gv uv H):hA x k zX W0 H.next a b cc d n ov nv fv gv uv H:=by
 obtain⟨f,h,i⟩:=s.fZ;have e:∀{ok:Nat->Prop},e1 H ok H (· <H.next):=λq c _ g=>⟨ad.bE g,g⟩
 exact⟨s.aS,s.du,s.aA.keep e,s.aR.keep e,s.aH.keep e,s.aq,s.az.keep e,s.aP.keep e,s.hu.aD.keep e,aa,aa,bC _⟩
end
end
end Go.Proofs.YtmhhnnklfcbgfaaGreat
namespace Go.a2
open Go.bz
section
open Classical
noncomputable def iC(out:List Int):List Int->List Int->List Int
 |[],cur=>cur
 |a::r,cur=>iC out r (if a∈out/\a∉cur then cur++[a]else cur)
def zk{out:List Int}:∀{r cur:List Int},∃t,iC out r cur=cur++t
 |[],cur=>⟨[],by simp[iC]⟩
 |a::r,cur=>by
  rw[iC];split
  ·obtain⟨t,e⟩:=zk (out:=out) (r:=r) (cur:=cur++[a]);exact⟨a::t,by rw[e];simp⟩
  ·exact zk
def AV{out:List Int}{z:Int}:∀{r cur:List Int},z∈iC out r cur↔z∈cur\/(z∈r/\z∈out)
 |[],cur=>by simp[iC]
 |a::r,cur=>by
  rw[iC,AV (r:=r)];by_cases e:a∈out/\a∉cur
  ·rw[if_pos e];simp only[List.mem_append,List.mem_cons,List.not_mem_nil,or_false];constructor
   ·rintro((h|rfl)|h)
    ·exact .inl h
    ·exact .inr ⟨.inl rfl,e.1⟩
    ·exact .inr ⟨.inr h.1,h.2⟩
   ·rintro(h|⟨rfl|h,ah⟩)
    ·exact .inl (.inl h)
    ·exact .inl (.inr rfl)
    ·exact .inr ⟨h,ah⟩
  ·rw[if_neg e];simp only[List.mem_cons];constructor
   ·rintro(h|h)
    ·exact .inl h
    ·exact .inr ⟨.inr h.1,h.2⟩
   ·rintro(h|⟨rfl|h,ah⟩)
    ·exact .inl h
    ·exact .inl (Classical.byContradiction λan=>e ⟨ah,an⟩)
    ·exact .inr ⟨h,ah⟩
def vX{out:List Int}:∀{r cur:List Int},cur.Nodup->(iC out r cur).Nodup
 |[],cur,h=>h
 |a::r,cur,h=>by
  rw[iC];split
  ·rename_i e;exact vX (List.nodup_append.2 ⟨h,by simp,λx aA y b=>by
    simp only[List.mem_singleton]at b;subst b;rintro rfl;exact e.2 aA⟩)
  ·exact vX h
noncomputable def hb(k:cB)(tl:Nat->List Int)(out:List Int):List In->List Int->List Int
 |[],cur=>cur
 |i::is,cur=>hb k tl out is (iC out (hT k tl i) cur)
def AW{k:cB}{tl:Nat->List Int}{out:List Int}{z:Int}:∀{is:List In} {cur:List Int},z∈hb k tl out is cur↔z∈cur\/∃i∈is,z∈hT k tl i/\z∈out
 |[],cur=>by simp[hb]
 |i::is,cur=>by
  rw[hb,AW (is:=is),AV];simp only[List.mem_cons];constructor
  ·rintro((h|h)|⟨j,af,ah⟩)
   ·exact .inl h
   ·exact .inr ⟨i,.inl rfl,h⟩
   ·exact .inr ⟨j,.inr af,ah⟩
  ·rintro(h|⟨j,rfl|af,ah⟩)
   ·exact .inl (.inl h)
   ·exact .inl (.inr ah)
   ·exact .inr ⟨j,af,ah⟩
def Jh{k:cB}{tl:Nat->List Int}{out:List Int}:∀{is:List In} {cur:List Int},cur.Nodup->(hb k tl out is cur).Nodup
 |[],_,h=>h
 |_::is,_,h=>Jh (is:=is) (vX h)
def A5{k:cB}{tl:Nat->List Int}{out:List Int}:∀{is:List In} {cur:List Int},∃t,hb k tl out is cur=cur++t
 |[],cur=>⟨[],by simp[hb]⟩
 |i::is,cur=>by
  obtain⟨t,e⟩:=zk (out:=out) (r:=hT k tl i) (cur:=cur);obtain⟨u,a⟩:=A5 (k:=k) (tl:=tl) (out:=out) (is:=is) (cur:=iC out (hT k tl i) cur);exact⟨t++u,by rw[hb,a,e,List.append_assoc]⟩
def fR(l:List Int):List Int:=l.mergeSort λx y=>decide (x<=y)
def AX{l:List Int}{a:Int}:a∈fR l↔a∈l:=List.mem_mergeSort
def DW(l:List Int):(fR l).length=l.length:=List.length_mergeSort l
def Kn{l:List Int}(h:l.Nodup):mB (fR l):=by
 have af:(fR l).Pairwise λx y=>decide (x<=y)=true:=List.pairwise_mergeSort (λa b c af ah=>by simp at*;omega) (λa b=>by simp;omega) l
 have ah:(fR l).Nodup:=(List.mergeSort_perm l _).nodup_iff.2 h;refine af.imp₂ (λa b (an:decide (a<=b)=C) (aM:a≠b)=> ?_) ah;simp at an;omega
structure hO(x:bj)(k:cB)(tl:Nat->List Int):Prop where
 ch:∀f,(tl f).Nodup
 snd:∀f,∀a∈tl f,∃c:Nat,a=c/\c<k.count/\lX x k f c
def hO.start(x:bj)(k:cB):hO x k λ_=>[]:=⟨λ_=>List.nodup_nil,λf a h=>by simp at h⟩
def I8{m:Nat}{l:List Int}(h:l.Nodup)(d:∀a∈l,∃c:Nat,a=c/\c<m):l.length<=m:=by
 rw[<-DW];refine Xa (Kn h) λa b=> ?_
 obtain⟨c,rfl,af⟩:=d a (AX.1 b);omega
def hO.len{x:bj}{k:cB}{tl:Nat->List Int}(h:hO x k tl)(f:Nat):(tl f).length<=k.count:=I8 (h.ch f) λa b=>by
 obtain⟨c,e,af,_⟩:=h.snd f a b;exact⟨c,e,af⟩
def hO.more{x:bj}{k:cB}{tl:Nat->List Int}(h:hO x k tl)(l:k.fields.length=k.count){f:Nat}{co:bH}(az:x.ay[f]? =D co){is:List In}(d:∀i∈is,i∈co.ins){cur:List Int}(aq:∀a∈cur,∃c:Nat,a=c/\c<k.count/\lX x k f c):∀a∈hb k tl ((cS x k f).map λ(n:Nat)=>(n:Int)) is cur,∃c:Nat,a=c/\c<k.count/\lX x k f c:=by
 intro a j;rcases AW.1 j with af|⟨i,b,af,ah⟩
 ·exact aq a af
 ·obtain⟨c,aq,rfl⟩:=List.mem_map.1 ah;refine⟨c,rfl,l▸Bj aq,?_⟩;unfold hT at af;split at af
  ·rename_i aR;simp only[List.mem_singleton]at af;exact .site az (d i b) aR af.symm aq
  ·split at af
   ·rename_i aR;obtain⟨g,e,_,a1⟩:=h.snd _ _ af;obtain rfl:c=g:=by omega
    exact .call az (d i b) aR a1 aq
   ·simp at af
def hO.dn{x:bj}{k:cB}{tl:Nat->List Int}(h:hO x k tl){f:Nat}{l:List Int}(au:l.Nodup)(b:∀a∈l,∃c:Nat,a=c/\c<k.count/\lX x k f c):hO x k (gD tl f l):=by
 refine⟨λg=> ?_,λg=> ?_⟩
 ·unfold gD;split
  ·exact au
  ·exact h.ch g
 ·unfold gD;split
  ·rename_i e;subst e;exact b
  ·exact h.snd g
def PJ{x:bj}{k:cB}{tl:Nat->List Int}{f:Nat}{co:bH}(az:x.ay[f]? =D co)(h:(hb k tl ((cS x k f).map λ(n:Nat)=>(n:Int)) co.ins (tl f)).length<=(tl f).length):oi x k tl f:=by
 intro a b i c z d g;obtain rfl:co=a:=Option.some.inj (az.symm.trans b);obtain⟨t,e⟩:=A5 (k:=k) (tl:=tl) (out:=(cS x k f).map λ(n:Nat)=>(n:Int)) (is:=co.ins) (cur:=tl f);have hm:z∈hb k tl ((cS x k f).map λ(n:Nat)=>(n:Int)) co.ins (tl f):=AW.2 (.inr ⟨i,c,d,g⟩);rw[e]at h hm;have a1:t=[]:=List.eq_nil_of_length_eq_zero (by rw[List.length_append]at h;omega);rw[a1,List.append_nil]at hm;exact hm
def hO.end{x:bj}{k:cB}{tl:Nat->List Int}(h:hO x k tl)(aq:∀f,f<x.ay.length->oi x k tl f)(f:Nat):fR (tl f)=(m5 x k f).map λ(n:Nat)=>(n:Int):=by
 have key:∀{f c},lX x k f c->(c:Int)∈tl f:=by
  intro f c a1
  induction a1 with
  |site af d aR g b=>
   refine aq _ (List.getElem?_eq_some_iff.1 af).1 _ af _ d _ ?_ (List.mem_map.2 ⟨_,b,rfl⟩);unfold hT;rw[if_pos aR];simp[g]
  |call af d aR _ b i=>
   refine aq _ (List.getElem?_eq_some_iff.1 af).1 _ af _ d _ ?_ (List.mem_map.2 ⟨_,b,rfl⟩);unfold hT;rw[if_neg (by omega),if_pos aR];exact i
 exact Bx (Kn (h.ch f)) (λa e=>h.snd f a (AX.1 e)) λn _ aH=>AX.2 (key aH)
end
end Go.a2
namespace Go.Proofs.YtmhhnnklfcbgfaaGreat
open Go.bz
section
open Go.a2
set_option maxRecDepth 2000
def Gv{H H':ad}(aP:∀q b,H.get q=D b->H'.get q=D b):∀{k l:Nat} {r:Nat×List (List ae)},gG H k l=D r->gG H' k l=D r
 |0,_,_,h=>by cases h
 |k+1,l,r,h=>by
  rw[gG]at h ⊢;split at h
  ·rename_i e;rw[aP _ _ e];exact h
  ·rename_i s esz els e;rw[aP _ _ e];simp only
   split at h
   ·rename_i a;rw[Gv aP a];exact h
   ·cases h
  ·cases h
def Gy{H:ad}:∀{k l:Nat} {r:Nat×List (List ae)},gG H k l=D r->gG H (k+1) l=D r
 |0,_,_,h=>by cases h
 |k+1,l,r,h=>by
  rw[gG]at h ⊢;split at h
  ·exact h
  ·split at h
   ·rename_i a;rw[Gy a];exact h
   ·cases h
  ·cases h
def Gw{H:ad}{l:Nat}{r:Nat×List (List ae)}{k:Nat}(h:gG H k l=D r):∀{m:Nat},k<=m->gG H m l=D r
 |0,hm=>by
  obtain rfl:k=0:=aa;exact h
 |m+1,hm=>by
  rcases Nat.lt_or_eq_of_le hm with af|rfl
  ·exact Gy (Gw h aa)
  ·exact h
def Ks:∀(l:List Int),mX (l.map ey) (l.map ey)=C
 |[]=>rfl
 |a::l=>by
  simp only[List.map_cons,mX,Ks l,Bool.and_true];simp[ey,er.beq,ae.beq]
def Gu{H H':ad}{L N:Nat}{els:List Int}{a:Int}(f:H.get L=D (.row Z 1 (els.map ey)))(g:H'.get L=D (.old N 1 (els.map ey)))(i:H'.get N=D (.row Z 1 ((els++[a]).map ey)))(aR:∀q b,q≠L->H.get q=D b->H'.get q=D b):∀{k l:Nat} {r:Nat×List (List ae)},gG H k l=D r->gG H' (k+1) l=D r
 |0,_,_,h=>by cases h
 |k+1,l,r,h=>by
  rw[gG]at h;by_cases e:l=L
  ·subst e;rw[f]at h;cases h;have d:gG H' (k+1) N=D (1,(els++[a]).map ey):=by rw[gG,i]
   have j:((els++[a]).map ey).take (els.map ey).length=els.map ey:=by rw[List.map_append,List.take_left]
   rw[gG,g];simp only[d,j,Ks];rfl
  ·rw[gG];split at h
   ·rename_i c;rw[aR _ _ e c];exact h
   ·rename_i s esz els c;rw[aR _ _ e c];simp only
    split at h
    ·rename_i d;rw[Gu f g i aR d];exact h
    ·cases h
   ·cases h
def cu(l:List Int)(b:Nat):ae:=match l with
 |[]=> .aB
 |_::_=> .aD b 0 l.length 1 I
def gU(l:List Int):bn:= .row Z 1 (l.map ey)
def m8{l:List Int}{b:Nat}(h:l≠[]):cu l b= .aD b 0 l.length 1 none:=by
 cases l with
 |nil=>exact absurd rfl h
 |cons=>rfl
def aco(l:List Int)(b:Nat):(cu l b).one=true:=by cases l<;>rfl
def Eb(l:List Int)(b:Nat)(H:ad):bL P H .len [30] [cu l b]=D (J X l.length):=by
 cases l with
 |nil=>exact len_nil b6.un
 |cons=>exact hI b6.un _ _ _ _ _
def Mt{H:ad}{ok:Nat->Prop}{l:List Int}{b:Nat}(h:l≠[]->ok b/\H.get b=D (gU l)):aO aT H ok l (cu l b):=by
 by_cases e:l=[]
 ·subst e;exact .nil
 ·rw[m8 e];exact .inr (.inl ⟨b,0,I,Z,_,rfl,(h e).1,(h e).2,by simp,λj x a=>⟨ey x,by simp[a],rfl⟩⟩)
def Jq{H:ad}{k:Nat}{l:List Int}{b:Nat}(h:l≠[]->gG H k b=D (1,l.map ey))(i:k<=1000){j:Nat}{a:Int}(e:l[j]? =D a):∃p,cm P 30 (cu l b) (J X (j:Nat))=D p/\aI P H 3 p=D (J X a):=by
 have al:=(List.getElem?_eq_some_iff.1 e).1;have g:l≠[]:=by rintro rfl;simp at e
 have he:=Gw (h g) i;have aq:(l.map ey)[j]? =D (ey a):=by simp[e]
 have f:dM P 3=D false:=uB;refine⟨.ptr b j 0,?_,?_⟩
 ·rw[m8 g,nF b6 aa aa];simp
 ·have c:=he;rw[gG]at c;split at c
  ·rename_i d;cases c;simp only[aI,d,aq,f];rfl
  ·rename_i d;simp only[aI,d,he,aq,f];rfl
  ·cases c
def N8{H:ad}{l:List Int}{a:Int}{b M:Nat}(al:l.length<=1000000)(g:l≠[]->H.get b=D (gU l))(b7:H.get M=D (.row Z 1 [[J X a]])):
  ∃c,ee P H [30,30] (cu l b) (.aD M 0 1 1 (D 1))=D (cu (l++[a]) H.next,c)/\c.next=H.next+1/\c.get H.next=D (gU (l++[a]))/\(l≠[]->c.get b=D (.old H.next 1 (l.map ey)))/\∀q,q≠H.next->(l≠[]->q≠b)->c.get q=H.get q:=by
 have y:=b6;obtain⟨d,f,o⟩:=y.hj;obtain⟨z,j,k,_⟩:=y.uZ;have i:mM P 30=false:=by simp[mM,y.un]
 have aH:jT P H 30 1 (.aD M 0 1 1 (D 1))=D [[J X a]]:=by simp[jT,y.un,gN,b7]
 have n:rE (.aD M 0 1 1 (D 1)) 3=none:=rfl;have af:(l.length+1)*d<=140737488355328:=Nat.le_trans (Nat.mul_le_mul_left _ o) aa;have ah:l.length+1<=9223372036854775807:=aa;by_cases e:l=[]
 ·subst e;have m:d<=140737488355328:=by simpa using af
  refine⟨H.push (gU [a]),?_,by simp,ad.a_ _ _,λh=>absurd rfl h,λq aN _=>ad.dO aN⟩;simp[ee,cu,gU,ey,y.un,y.ts,f,j,k,i,aH,m,n,dT]
 ·have r:=ad.bE (g e);have p:gN H b 0 l.length 1=D (l.map ey):=by
   have h:=g e;rw[gU]at h;have:List.take l.length (l.map ey)=l.map ey:=List.take_of_length_le (by simp);simp[gN,h,this]
  refine⟨(H.set b (.old H.next 1 (l.map ey))).push (gU (l++[a])),?_,by simp,?_,λ_=> ?_,λq aN s=> ?_⟩
  ·rw[m8 e,m8 (by simp)];have ge:=g e;simp[ee,gU,ey,y.un,y.ts,f,j,k,i,aH,af,ah,p,ge,gone]
  ·exact ad.a_ (H.set b _) _
  ·rw[ad.dO (by simp;omega),ad.c8 r]
  ·rw[ad.dO (by simpa using aN),ad.cb (Ne.symm (s e))]
structure g4(b:Nat)(a:List Int)(H0:ad)(cur:List Int)(cl:Nat)(H:ad):Prop where
 next:H0.next<=H.next
 ho:∀q,q<H0.next->(a≠[]->q≠b)->H.get q=H0.get q
 pre:∃t,cur=a++t
 mH:cur≠[]->H.get cl=some (gU cur)/\((cl=b/\a≠[])\/H0.next<=cl)
 rd:a≠[]->∃k,k<=cur.length+1/\gG H k b=some (1,a.map ey)
 same:cur=a->a≠[]->cl=b
def g4.start{b:Nat}{a:List Int}{H0:ad}(h:a≠[]->H0.get b=D (gU a)):g4 b a H0 a b H0:=
 ⟨bC _,λ_ _ _=>rfl,⟨[],by simp⟩,λe=>⟨h e,.inl ⟨rfl,e⟩⟩,λe=>⟨1,aa,by rw[gG,h e];rfl⟩,λ_ _=>rfl⟩
def g4.aE{a:Nat}{c cur:List Int}{H0 H H':ad}{cl:Nat}(s:g4 a c H0 cur cl H)(p:av H H'):g4 a c H0 cur cl H':=
 ⟨Nat.le_trans s.next p.1,λq aN d=>(p.2 q (Nat.lt_of_lt_of_le aN s.next)).trans (s.ho q aN d),s.pre,λe=>⟨p.get (s.mH e).1,(s.mH e).2⟩,λe=>by
  obtain⟨k,af,ah⟩:=s.rd e;exact⟨k,af,Gv (λq b g=>p.get g) ah⟩,s.same⟩
def g4.app{i:Nat}{o cur:List Int}{H0 H:ad}{cl:Nat}(s:g4 i o H0 cur cl H)(aq:cur.length<=1000000)(a:Int):
  ∃c,ee P (H.push (.row Z 1 [[J X a]])) [30,30] (cu cur cl) (.aD H.next 0 1 1 (D 1))=D (cu (cur++[a]) (H.next+1),c)/\(H.push (.row Z 1 [[J X a]])).next<=c.next/\g4 i o H0 (cur++[a]) (H.next+1) c/\H.next<=c.next/\∀q,q<H.next->(cur≠[]->q≠cl)->c.get q=H.get q:=by
 have p:=av.push H (.row Z 1 [[J X a]]);have s1:=s.aE p;have r:=ad.a_ H (.row Z 1 [[J X a]]);obtain⟨c,af,ah,an,aM,h⟩:=N8 (H:=H.push (.row Z 1 [[J X a]])) (l:=cur) (a:=a) (b:=cl) (M:=H.next) aq (λe=>(s1.mH e).1) r;have aH:(H.push (.row Z 1 [[J X a]])).next=H.next+1:=by simp
 rw[aH]at af ah an aM h;have m:∀q,q<H.next->(cur≠[]->q≠cl)->c.get q=H.get q:=λq aN v=>by rw[h q aa v,p.2 q aN]
 have x:=s.next
 refine⟨c,af,by rw[aH];omega,⟨aa,λq aN j=> ?_,?_,λ_=>⟨an,.inr aa⟩,λe=> ?_,λe _=> ?_⟩,aa,m⟩
 ·rw[m q aa λe=> ?_,s.ho q aN j];rcases(s.mH e).2 with⟨d,f⟩|d
  ·rw[d];exact j f
  ·omega
 ·obtain⟨t,e⟩:=s.pre;exact⟨t++[a],by rw[e,List.append_assoc]⟩
 ·have n:cur≠[]:=by
   obtain⟨t,d⟩:=s.pre;rw[d];intro f;exact e (List.append_eq_nil_iff.1 f).1
  obtain⟨k,bR,b0⟩:=s1.rd e;refine⟨k+1,by simp;omega,Gu (s1.mH n).1 (aM n) an (λq b aN g=> ?_) b0⟩;have u:=ad.bE g;rw[aH]at u;by_cases w:q=H.next+1
  ·omega
  ·rw[h q w λ_=>aN];exact g
 ·obtain⟨t,d⟩:=s.pre;have:=congrArg List.length e;rw[d]at this;simp at this
end
section
open Go.a2
set_option maxRecDepth 2000
section
variable {x:bj}{k:a2.cB}{zX W0 B T:Nat}{a b cc d ov nv fv gv uv:ae}{n:Nat}{H:ad}
structure hg(n T:Nat)(tl:Nat->List Int)(a:Nat->Nat)(H:ad):Prop where
 g:H.get T=some (.row false 1 ((List.range n).map λf=>[cu (tl f) (a f)]))
 al:∀f,f<n->tl f≠[]->T<a f/\H.get (a f)=some (gU (tl f))
 inj:∀f g,f<n->g<n->tl f≠[]->tl g≠[]->a f=a g->f=g
def hg.at_{tl:Nat->List Int}{a:Nat->Nat}(g:H.get T=D (.row Z 1 ((List.range n).map λf=>[cu (tl f) (a f)]))){f:Nat}(az:f<n):cm P 31 (.aD T 0 n 1 (D n)) (J X (f:Nat))=D (.ptr T f 0)/\aI P H 30 (.ptr T f 0)=D (cu (tl f) (a f)):=by
 refine⟨fX e4 az,?_⟩;rw[e_ yV g (e:=[cu (tl f) (a f)]) (by simp[az])];rfl
def LF(a:gg (ck x) x.sites.length k){n:Int}(b:0<=n)(af:n.toNat<x.sites.length):(aX k.of)[n.toNat]? =D (k.site n):=by
 have al:n.toNat<k.of.length:=by rw[a.VU];exact af
 unfold cB.site aX;rw[List.getElem?_map,List.getElem?_eq_getElem al];rfl
def Ew(k:a2.cB)(m:Nat)(tl:Nat->List Int)(a:Nat->Nat)(i:In)(B:Nat)(r:ae)(H:ad):Prop:=(hT k tl i=[k.site i.n]/\∃M,B<=M/\r= .aD M 0 1 1 (D 1)/\H.get M=D (.row Z 1 [[J X (k.site i.n)]]))\/(∃g,g<m/\hT k tl i=tl g/\r=cu (tl g) (a g))\/(hT k tl i=[]/\r= .aB)
def SJ{ok:Nat->Prop}{tl:Nat->List Int}{y:Nat->Nat}(Q:gg (ck x) x.sites.length k){f:Nat}{co:bH}{i:In}{wi:ae}(w:dy x f co i=C)(hw:aO aT H ok i.args wi)(s:hA x k zX W0 B a b cc d n ov nv fv gv uv H)(g:H.get T=D (.row Z 1 ((List.range x.ay.length).map λf=>[cu (tl f) (y f)]))):
  W (aQ P aK 93 [.ptr W0 0 0,.agg (b5 i wi),.aD T 0 x.ay.length 1 (D x.ay.length)] H) λr H'=>Ew k x.ay.length tl y i H.next r H'/\av H H':=by
 refine Zi 0 ?_;have S:hC (.ptr W0 0 0)=D (.ptr W0 0 0):=rfl;have e:=av.push H (.row Z 6 [b5 i wi]);have v:(H.push (.row Z 6 [b5 i wi])).get H.next=D (.row Z 6 [[J X i.op,J X i.a,J X i.b,J X i.c,J X i.n,wi]]):=ad.a_ _ _
 simp-implicitDefEqProofs(disch:=try exact ai)only[DL,aj,aJ,aL,c7 hw];have K:=s.aE e;have O:=e.get g;have R:=e.1;generalize H.push (.row Z 6 [b5 i wi])=H0 at*;have q:=fA v;have alloc:0<=i.n->i.n.toNat<x.sites.length->(i.op=11\/i.op=12)->W (uw (aQ P aK) (.ptr W0 0 0) (.aD T 0 x.ay.length 1 (D x.ay.length)) (.ptr H.next 0 0) (J X i.op) (A C) H0) λr H'=>Ew k x.ay.length tl y i H.next r H'/\av H H':=by
  intro z af aR;obtain⟨ak,V,Y⟩:=K.aR.int (j:=i.n) (a:=k.site i.n) z (LF Q z af);have U:=av.push H0 (.row Z 1 [[J X (k.site i.n)]]);simp-implicitDefEqProofs(disch:=try exact ai)only[uw,Nat.reduceAdd,aj,aJ,aL,S,hs K.du,o v,V,Y,ej];exact aG.2 ⟨.inl ⟨if_pos aR,H0.next,R,rfl,ad.a_ _ _⟩,e.trans U⟩
 by_cases m:i.op=11
 ·have t:∀j:Int,(i.op==j)=(11==j):=λj=>by rw[m]
  have l:=nq (uy m w).2;have:=alloc l.1 l.2.1 (.inl m);simp-implicitDefEqProofs(disch:=try exact ai)only[aj,aC,q,t,Int.reduceBEq];exact this
 have L:(i.op==11)=false:=beq_eq_false_iff_ne.2 m;by_cases p:i.op=12
 ·have t:∀j:Int,(i.op==j)=(12==j):=λj=>by rw[p]
  have l:=nq (uz p w).2;have:=alloc l.1 l.2.1 (.inr p);simp-implicitDefEqProofs(disch:=try exact ai)only[aj,aC,q,t,Int.reduceBEq];exact this
 have M:(i.op==12)=false:=beq_eq_false_iff_ne.2 p;by_cases h:i.op=13
 ·obtain⟨ah,aP⟩:=uA h w;have E:=(List.getElem?_eq_some_iff.1 aP.at_.2).1;have t13:(i.op==13)=true:=by rw[h];rfl
  obtain⟨G,ab⟩:=hg.at_ O E;have N:((i.c.toNat:Nat):Int)=i.c:=Int.toNat_of_nonneg aP.at_.1;rw[N]at G;simp-implicitDefEqProofs(disch:=try exact ai)only[uw,aj,aJ,aC,aL,q,L,M,t13,o v,G,ab];have u:hT k tl i=tl i.c.toNat:=by unfold hT;rw[if_neg aa,if_pos h]
  exact aG.2 ⟨.inr (.inl ⟨_,E,u,rfl⟩),e⟩
 ·have ag:(i.op==13)=false:=beq_eq_false_iff_ne.2 h;simp-implicitDefEqProofs(disch:=try exact ai)only[uw,yE,aj,aC,q,L,M,ag];have u:hT k tl i=[]:=by unfold hT;rw[if_neg aa,if_neg h]
  exact aG.2 ⟨.inr (.inr ⟨u,rfl⟩),e⟩
end
end
section
open Go.a2
set_option maxRecDepth 2000
section
variable {x:bj}{k:a2.cB}{zX W0 B T:Nat}{a b cc d ov nv fv gv uv:ae}{n:Nat}
def rk(cur:List Int)(cl:Nat)(H H':ad):Prop:=H.next<=H'.next/\∀q,q<H.next->(cur≠[]->q≠cl)->H'.get q=H.get q
def rk.refl(cur:List Int)(cl:Nat)(H:ad):rk cur cl H H:=⟨bC _,λ_ _ _=>rfl⟩
def g4.view{c:Nat}{f cur:List Int}{cl:Nat}{H0 H:ad}(m:g4 c f H0 cur cl H)(g:f≠[]->B<=c)(s:hA x k zX W0 B a b cc d n ov nv fv gv uv H0):hA x k zX W0 B a b cc d n ov nv fv gv uv H:=
 s.gy ⟨m.next,λq aN=>m.ho q (Nat.lt_of_lt_of_le aN s.mO) λe=>by have:=g e;omega⟩
def uF(m:Nat)(z:Int):Prop:=∃c:Nat,z=c/\c<m
def I1{r:Nat}{K:List Int}{H0:ad}(ah:hA x k zX W0 B a b cc d n ov nv fv gv uv H0)(V:K≠[]->B<=r){f:Nat}(az:f<x.ay.length)(ar:(cS x k f).length<=1000000){m:Nat}(hm:m<=60){l:List Int}{lv:ae}{H1:ad}{y:List Int}{t:Nat}(an:y≠[]->t<H1.next)(ap:l.length<=1000000)
  (ag:∀(H:ad) (cur:List Int) (cl:Nat),g4 r K H0 cur cl H->rk y t H1 H->cur.length<=60->∀(j:Nat) (a:Int),l[j]? =D a->∃p,cm P 30 lv (J X (j:Nat))=D p/\aI P H 3 p=D (J X a)) (Y:∀z∈l,z∈aX (cS x k f)->uF m z)
  {x2 gw x25 x26:ae} {L1:ae->ae->ae->ae->ae->ae->ae->ad->O} {Q:ae->ad->Prop} {N:Nat}:∀(j i q:Nat) (H:ad) (cur:List Int) (cl:Nat),i+j=l.length->j<q->g4 r K H0 cur cl H->rk y t H1 H->(cur≠[]->(y≠[]/\cl=t)\/H1.next<=cl)->cur.Nodup->(∀z∈cur,uF m z)->
  (∀(H':ad) (T:Nat),g4 r K H0 (iC (aX (cS x k f)) (l.drop i) cur) T H'->W (pg (aQ P aK) N L1 (.ptr W0 0 0) (J X (f:Nat)) x2 (cu (iC (aX (cS x k f)) (l.drop i) cur) T) gw x25 x26 H') Q)->
  W (qZ (aQ P aK) N L1 q (.ptr W0 0 0) (J X (f:Nat)) x2 (cu cur cl) gw x25 x26 lv (J X l.length) (J X (i:Nat)) H) Q
 |_,_,0,_,_,_,_,aN,_,_,_,_,_,_=>aa
 |0,i,q+1,H,cur,cl,ao,_,c,_,_,_,_,fin=>by
  have M:¬(i:Int)<(l.length:Int):=aa;simp-implicitDefEqProofs(disch:=try exact ai)only[qZ,yd,aj,aC,M,decide_false];rw[List.drop_of_length_le aa]at fin;exact fin H cl c
 |j+1,i,q+1,H,cur,cl,ao,aN,c,g,L,G,E,fin=>by
  have M:(i:Int)<(l.length:Int):=aa;have R:i<l.length:=aa;have aw:hC (.ptr W0 0 0)=D (.ptr W0 0 0):=rfl;have aP:=I8 G E;have s:=c.view V ah;obtain⟨aR,ax,aA⟩:=ag H cur cl c g aa i l[i] (by simp[R]);obtain⟨aS,w,aE,aF,aG⟩:=s.hu.list (j:=(f:Int)) (a:=aX (cS x k f)) aa (by simp[az]);have S:=cq (show i<=1000000000 by omega);have on:=I1 ah V az ar hm (lv:=lv) an ap ag Y (x2:=x2) (gw:=gw) (x25:=x25) (x26:=x26) (L1:=L1) (Q:=Q) (N:=N) j (i+1) q;have aq:=Y _ (List.getElem_mem R);rw[List.drop_eq_getElem_cons R,iC]at fin;generalize l[i]=z at*;simp-implicitDefEqProofs(disch:=try exact ai)only[qZ,yd,aj,aJ,aC,aL,M,decide_true,aw,hs s.du,aE,aF,ax,aA]
  refine eu (zY aG (by rw[hx];omega)) ?_;have av:aO aT H bk cur (cu cur cl):=Mt λe=>⟨trivial,(c.mH e).1⟩
  by_cases he:z∈aX (cS x k f)
  ·simp-implicitDefEqProofs(disch:=try exact ai)only[aj,he,decide_true];refine ko (zY av aa) ?_;by_cases o:z∈cur
   ·rw[if_neg (λh=>h.2 o)]at fin;simp-implicitDefEqProofs(disch:=try exact ai)only[ye,aj,aC,he,o,decide_true,Bool.not_true,S];exact on H cur cl aa aa c g L G E fin
   ·rw[if_pos ⟨he,o⟩]at fin;obtain⟨ak,al,aM,a3,a4,a5⟩:=c.app aa z;simp-implicitDefEqProofs(disch:=try exact ai)only[ye,aj,aC,he,o,decide_true,decide_false,Bool.not_false,ej,al,S];refine on ak _ _ aa aa a3 ⟨Nat.le_trans g.1 a4,λp au ab=> ?_⟩ (λ_=> .inr (by have:=g.1;omega)) ?_ ?_ fin
    ·have aH:=g.1;rw[a5 p aa λe=> ?_,g.2 p au ab];rcases L e with⟨U,am⟩|U
     ·rw[am];exact ab U
     ·omega
    ·exact List.nodup_append.2 ⟨G,by simp,λu hu v af=>by
      simp only[List.mem_singleton]at af;subst af;rintro rfl;exact o hu⟩
    ·intro u hu;rcases List.mem_append.1 hu with h|h
     ·exact E u h
     ·simp only[List.mem_singleton]at h;subst h;exact aq he
  ·rw[if_neg (λh=>he h.1)]at fin;simp-implicitDefEqProofs(disch:=try exact ai)only[ye,aj,aC,he,decide_false,S];exact on H cur cl aa aa c g L G E fin
end
end
section
open Go.a2
set_option maxRecDepth 2000
section
variable {x:bj}{k:a2.cB}{zX W0 B T:Nat}{a b cc d ov nv fv gv uv:ae}{n:Nat}
def JH(a:gg (ck x) x.sites.length k){f:Nat}{z:Int}(h:z∈aX (cS x k f)):uF k.count z:=by
 obtain⟨c,aq,rfl⟩:=List.mem_map.1 h;have:=Bj aq;rw[a.ez]at this;exact⟨c,rfl,this⟩
def sm(a:gg (ck x) x.sites.length k)(f:Nat):(cS x k f).length<=k.count:=by
 unfold cS;split
 ·unfold jo mb;refine Nat.le_trans (List.length_filter_le _ _) ?_;unfold dS;rw[a.ez];exact j_ _ _
 ·simp
def I2(Y:eO x)(G:gg (ck x) x.sites.length k){tl:Nat->List Int}{y:Nat->Nat}(aA:hO x k tl){f:Nat}{co:bH}(az:x.ay[f]? =D co){H0:ad}(ah:hA x k zX W0 B a b cc d n ov nv fv gv uv H0)(t:hg x.ay.length T tl y H0)(aU:B<=T){gw:ae}(aq:aO fD H0 (· <B) co.ins gw)(aY:co.ins.length<=1000000){N:Nat}(aV:100<N):∀(j i q:Nat) (H:ad) (cur:List Int) (cl:Nat),i+j=co.ins.length->j<q->g4 (y f) (tl f) H0 cur cl H->cur.Nodup->(∀z∈cur,uF k.count z)->
  W (qY (aQ P aK) N q (.ptr W0 0 0) (J X (f:Nat)) (.aD T 0 x.ay.length 1 (D x.ay.length)) (cu cur cl) gw (J X co.ins.length) (J X (i:Nat)) H) λr H'=>∃o,r=cu (hb k tl (aX (cS x k f)) (co.ins.drop i) cur) o/\g4 (y f) (tl f) H0 (hb k tl (aX (cS x k f)) (co.ins.drop i) cur) o H'
 |_,_,0,_,_,_,_,aN,_,_,_=>aa
 |0,i,q+1,H,cur,cl,aW,_,E,_,_=>by
  have af:¬(i:Int)<(co.ins.length:Int):=aa;simp-implicitDefEqProofs(disch:=try exact ai)only[qY,yc,qX,aj,aC,af,decide_false];rw[List.drop_of_length_le aa];exact aG.2 ⟨cl,rfl,E⟩
 |j+1,i,q+1,H,cur,cl,aW,aN,E,ap,an=>by
  have af:(i:Int)<(co.ins.length:Int):=aa;have S:i<co.ins.length:=aa;have R:=(List.getElem?_eq_some_iff.1 az).1;have bb:=G.l3;have bg:=Y.sites;have ab:tl f≠[]->B<=y f:=λe=>by have:=(t.al f R e).1;omega
  have s:=E.view ab ah;have a2:=ad.bE t.g;have g:H.get T=D (.row Z 1 ((List.range x.ay.length).map λf=>[cu (tl f) (y f)])):=(E.ho T a2 λe=>by have:=(t.al f R e).1;omega).trans t.g;have hw:aO fD H (· <B) co.ins gw:=aq.keep λp c (a0:p<B) ak=>⟨a0,by
   rw[E.ho p (ad.bE ak) λe=>by have:=ab e;omega];exact ak⟩
  obtain⟨L,nn,wi,a4,a5,ax⟩:=hw.rZ (j:=(i:Int)) (i:=co.ins[i]) aa (by simp[S]);have a1:dy x f co co.ins[i]=true:=(jZ (Y.code az)).ins (List.getElem_mem S);have a7:=cq (show i<=1000000000 by omega);have on:=I2 Y G aA az ah t aU aq aY aV j (i+1) q;have bc:=List.getElem_mem S;rw[List.drop_eq_getElem_cons S,hb];generalize co.ins[i]=ins at*;have st:=oa (i:=ins) (w:=wi) (ad.a_ H (.row Z 6 [[J X 0,J X 0,J X 0,J X 0,J X 0,.aB]])) ax.one;have pp:=av.push H (.row Z 6 [b5 ins wi]);have aT:=ad.a_ H (.row Z 6 [b5 ins wi]);simp-implicitDefEqProofs(disch:=try exact ai)only[qY,yc,Nat.reduceAdd,aj,aJ,aC,af,decide_true,a4,a5 _ (av.refl _),st,ad.ga,fz aT]
  refine aZ (SJ G a1 (ax.aE pp) (s.aE pp) (pp.get g)) ?_;rintro lv V ⟨oL,aw⟩;refine⟨aw.1,?_⟩;have au:=pp.trans aw;have a3:=E.aE au;have bd:=au.1;have be:H.next<(H.push (.row Z 6 [b5 ins wi])).next:=by simp
  have am:cur≠[]->cl<H.next:=λe=>ad.bE (E.mH e).1
  have bf:=sm G f;have walk:∀{l:List Int},hT k tl ins=l->l.length<=90->(∀(H:ad) (K:List Int) (o:Nat),g4 (y f) (tl f) H0 K o H->rk cur cl V H->K.length<=60->∀(j:Nat) (a:Int),l[j]? =D a->∃p,cm P 30 lv (J X (j:Nat))=D p/\aI P H 3 p=D (J X a))->
    W (qZ (aQ P aK) N (qY (aQ P aK) N q) N (.ptr W0 0 0) (J X (f:Nat)) (.aD T 0 x.ay.length 1 (D x.ay.length)) (cu cur cl) gw (J X co.ins.length) (J X (i:Nat)) lv (J X l.length) (J X 0) V) λr H'=>∃o,r=cu (hb k tl (aX (cS x k f)) (co.ins.drop (i+1)) (iC (aX (cS x k f)) (hT k tl ins) cur)) o/\g4 (y f) (tl f) H0 (hb k tl (aX (cS x k f)) (co.ins.drop (i+1)) (iC (aX (cS x k f)) (hT k tl ins) cur)) o H':=by
   intro l el al a6;rw[el];refine I1 ah ab R aa (m:=k.count) aa (l:=l) (λe=>by have:=am e;omega) aa a6 (λz _ ag=>JH G ag) l.length 0 N V cur cl aa aa a3 (.refl _ _ _) (λe=> .inl ⟨e,rfl⟩) ap an ?_;intro aH aL ar;rw[List.drop_zero]at ar ⊢;simp-implicitDefEqProofs(disch:=try exact ai)only[pg,aj,aC,a7];refine on aH _ aL aa aa ar (vX ap) λz ag=> ?_
   rcases AV.1 ag with h|h
   ·exact an z h
   ·exact JH G h.2
  rcases oL with⟨O,M,a9,rfl,b7⟩|⟨v,ao,O,rfl⟩|⟨O,rfl⟩
  ·have Q:bL P .empty .len [30] [.aD M 0 1 1 (D 1)]=D (J X ([k.site ins.n].length:Nat)):=hI b6.un _ _ _ _ _;have:=walk O (by simp) λH' K o _ aR _ j z u=>by
    match j,u with
    |0,u=>
     cases u;have aS:H'.get M=D (.row Z 1 [[J X (k.site ins.n)]]):=(aR.2 M (ad.bE b7) λe=>by have:=am e;omega).trans b7;exact⟨.ptr M 0 0,nF b6 aa aa,hr aS⟩
   simp-implicitDefEqProofs(disch:=try exact ai)only[br,aJ,Q];exact this
  ·have Q:bL P .empty .len [30] [cu (tl v) (y v)]=D (J X ((tl v).length:Nat)):=Eb _ _ _;have bh:=aA.len v;have:=walk O aa λH' K o e5 _ ba j z u=>by
    by_cases e:v=f
    ·subst e;have U:tl v≠[]:=by rintro e;rw[e]at u;simp at u
     obtain⟨cr,bR,b0⟩:=e5.rd U;exact Jq (λ_=>b0) aa u
    ·refine Jq (k:=1) (λU=> ?_) aa u;obtain⟨bi,aF⟩:=t.al v ao U;have a8:H'.get (y v)=D (gU (tl v)):=(e5.ho _ (ad.bE aF) λaM aP=>e (t.inj _ _ ao R U aM aP)).trans aF;rw[gG,a8];rfl
   simp-implicitDefEqProofs(disch:=try exact ai)only[br,Q];exact this
  ·have Q:bL P .empty .len [30] [ae.aB]=D (J X (([]:List Int).length:Nat)):=len_nil b6.un;have:=walk O (by simp) λH' K o _ _ _ j z u=>by simp at u
   simp-implicitDefEqProofs(disch:=try exact ai)only[br,aJ,Q];exact this
def Vs(au:right x=C)(v:gg (ck x) x.sites.length k){tl:Nat->List Int}{h:Nat->Nat}(i:hO x k tl){f:Nat}{co:bH}(az:x.ay[f]? =D co){H:ad}(s:hA x k zX W0 B a b cc d n ov nv fv gv uv H)(t:hg x.ay.length T tl h H)(p:B<=T):
  W (aQ P aK 40 [.ptr W0 0 0,J X (f:Nat),.aD T 0 x.ay.length 1 (D x.ay.length)] H) λr H'=>∃l,r=cu (hb k tl (aX (cS x k f)) co.ins (tl f)) l/\g4 (h f) (tl f) H (hb k tl (aX (cS x k f)) co.ins (tl f)) l H':=by
 have q:=gA au;have o:=(List.getElem?_eq_some_iff.1 az).1;have U:=qw au;have V:=r0 (List.mem_of_getElem? az);refine YP (co.ins.length+101) ?_;have y:hC (.ptr W0 0 0)=D (.ptr W0 0 0):=rfl;obtain⟨M,O⟩:=hg.at_ t.g o;have u:aO fC H (· <B) x.ay cc:=by
  obtain⟨_,e,b8,b',Q,R,m,af,ah,an,aM⟩:=s.aA;cases e;simp only[List.cons.injEq,and_true]at m;obtain⟨rfl,rfl,rfl,rfl⟩:=m;exact an
 obtain⟨L,li,S,gw,E,G,bR,b0⟩:=u.oC (j:=(f:Int)) (g:=co) aa (by simpa using az);have K:=(G _ (av.refl _)).2.2;simp-implicitDefEqProofs(disch:=try exact ai)only[Dc,br,aj,aJ,aL,y,hs s.du,M,O,E,K,b0.len eA];have:=I2 q v i az s t p b0 aa (N:=co.ins.length+101) aa co.ins.length 0 (co.ins.length+101) H (tl f) (h f) aa aa (.start λe=>(t.al f o e).2) (i.ch f) λz w=>by
  obtain⟨c,e,af,_⟩:=i.snd f z w;exact⟨c,e,af⟩
 rw[List.drop_zero]at this;exact this
end
end
section
open Go.a2
set_option maxRecDepth 2000
section
variable {x:bj}{k:a2.cB}{zX W0 B T:Nat}{a b cc d ov nv fv gv uv:ae}{n:Nat}
def jt(a:Nat->Nat)(f c:Nat):Nat->Nat:=λg=>if g=f then c else a g
def hg.kept{m f cl:Nat}{tl:Nat->List Int}{c:Nat->Nat}{H H':ad}(t:hg m T tl c H)(az:f<m)(b:g4 (c f) (tl f) H (tl f) cl H'):hg m T tl c H':=by
 have i:=ad.bE t.g;refine⟨(b.ho T i λe=>by have:=(t.al f az e).1;omega).trans t.g,λg aP a=>⟨(t.al g aP a).1,?_⟩,t.inj⟩;by_cases e:g=f
 ·subst e;have:=(b.mH a).1;rw[b.same rfl a]at this;exact this
 ·exact(b.ho _ (ad.bE (t.al g aP a).2) λd h=>e (t.inj _ _ aP az a d h)).trans (t.al g aP a).2
def hg.store{m f cl:Nat}{tl:Nat->List Int}{a:Nat->Nat}{l:List Int}{H H':ad}(t:hg m T tl a H)(az:f<m)(ho:∀q,q<H.next->(tl f≠[]->q≠a f)->H'.get q=H.get q)(aq:l≠[]->H'.get cl=D (gU l)/\((cl=a f/\tl f≠[])\/H.next<=cl)):
  cD P H' 30 (.ptr T f 0) (cu l cl)=D (H'.set T (.row Z 1 ((List.range m).map λg=>[cu (gD tl f l g) (jt a f cl g)])))/\hg m T (gD tl f l) (jt a f cl) (H'.set T (.row Z 1 ((List.range m).map λg=>[cu (gD tl f l g) (jt a f cl g)]))):=by
 have w:=ad.bE t.g;have i:H'.get T=D (.row Z 1 ((List.range m).map λg=>[cu (tl g) (a g)])):=(ho T w λe=>by have:=(t.al f az e).1;omega).trans t.g;have o:∀(h:bn) q,q≠T->(H'.set T h).get q=H'.get q:=λh q aN=>ad.cb (Ne.symm aN)
 have n:(λg=>[dd (λg=>cu (tl g) (a g)) f (cu l cl) g])=λg=>[cu (gD tl f l g) (jt a f cl g)]:=by
  funext g
  by_cases e:g=f
  ·subst e;rw[gp,show gD tl g l g=l from if_pos rfl,show jt a g cl g=cl from if_pos rfl]
  ·rw[eo _ _ e,show gD tl f l g=tl g from if_neg e,show jt a f cl g=a g from if_neg e]
 have st:=yM (t:=30) aF i az (aco l cl);rw[n]at st;refine⟨st,ad.c8 (ad.bE i),λg aP d=> ?_,λg b aP k af ah an=> ?_⟩
 ·by_cases e:g=f
  ·subst e;rw[show gD tl g l g=l from if_pos rfl]at d ⊢;rw[show jt a g cl g=cl from if_pos rfl];obtain⟨af,ah⟩:=aq d;have dh:T<cl:=by
    rcases ah with⟨ah,an⟩|ah
    ·rw[ah];exact(t.al g aP an).1
    ·omega
   exact⟨dh,by rw[o _ _ aa];exact af⟩
  ·rw[show gD tl f l g=tl g from if_neg e]at d ⊢;rw[show jt a f cl g=a g from if_neg e];obtain⟨af,ah⟩:=t.al g aP d;exact⟨af,by rw[o _ _ aa,ho _ (ad.bE ah) λp r=>e (t.inj _ _ aP az d p r)];exact ah⟩
 ·have key:∀g,g<m->g≠f->tl g≠[]->l≠[]->a g≠cl:=λg aP e aM s u=>by
   have x:=ad.bE (t.al g aP aM).2;rcases(aq s).2 with⟨j,v⟩|j
   ·exact e (t.inj _ _ aP az aM v (u.trans j))
   ·omega
  by_cases e:g=f
  ·by_cases c:b=f
   ·rw[e,c]
   ·exfalso;subst e;rw[show gD tl g l g=l from if_pos rfl]at af;rw[show gD tl g l b=tl b from if_neg c]at ah;rw[show jt a g cl g=cl from if_pos rfl,show jt a g cl b=a b from if_neg c]at an;exact key b k c ah af an.symm
  ·by_cases c:b=f
   ·exfalso;subst c;rw[show gD tl b l g=tl g from if_neg e]at af;rw[show gD tl b l b=l from if_pos rfl]at ah;rw[show jt a b cl g=a g from if_neg e,show jt a b cl b=cl from if_pos rfl]at an;exact key g aP e af ah an
   ·rw[show gD tl f l g=tl g from if_neg e]at af;rw[show gD tl f l b=tl b from if_neg c]at ah;rw[show jt a f cl g=a g from if_neg e,show jt a f cl b=a b from if_neg c]at an;exact t.inj _ _ aP k af ah an
def g4.gy{a:Nat}{b cur:List Int}{cl:Nat}{H0 H:ad}(m:g4 a b H0 cur cl H)(c:b≠[]->B<=a)(d:B<=H0.next):cT B H0 H:=⟨m.next,λq aN=>m.ho q aa λe=>by have:=c e;omega⟩
def Mg(au:right x=C)(y:gg (ck x) x.sites.length k)(ab:B<=T){L3:ae->ae->ae->ad->O}{Q:ae->ad->Prop}{N:Nat}:∀(j i q:Nat) (H:ad) (tl:Nat->List Int) (l:Nat->Nat) (t:Bool),i+j=x.ay.length->j<q->hO x k tl->hA x k zX W0 B a b cc d n ov nv fv gv uv H->hg x.ay.length T tl l H->(t=Z->∀f,f<i->oi x k tl f)->
  (∀(H':ad) (v:Nat->List Int) (aL:Nat->Nat) (G:Bool),hO x k v->hA x k zX W0 B a b cc d n ov nv fv gv uv H'->hg x.ay.length T v aL H'->lW x.ay.length t tl G v->(G=Z->∀f,f<x.ay.length->oi x k v f)->cT B H H'->W (L3 (.ptr W0 0 0) (.aD T 0 x.ay.length 1 (D x.ay.length)) (A G) H') Q)->
  W (th (aQ P aK) N L3 q (.ptr W0 0 0) (.aD T 0 x.ay.length 1 (D x.ay.length)) (A t) (J X x.ay.length) (J X (i:Nat)) H) Q
 |_,_,0,_,_,_,_,_,aN,_,_,_,_,_=>aa
 |0,i,q+1,H,tl,l,t,aF,_,o,s,p,aq,fin=>by
  have z:¬(i:Int)<(x.ay.length:Int):=aa;simp-implicitDefEqProofs(disch:=try exact ai)only[th,xA,aj,aC,z,decide_false];exact fin H tl l t o s p (.refl _ _ _) (λe f az=>aq e f aa) (.refl _ _)
 |j+1,i,q+1,H,tl,l,t,aF,aN,o,s,p,aq,fin=>by
  have aw:=gA au;have aO:=aw.ay;have z:(i:Int)<(x.ay.length:Int):=aa;have r:i<x.ay.length:=aa;have az:x.ay[i]? =D x.ay[i]:=by simp[r]
  have on:=Mg au y ab (L3:=L3) (Q:=Q) (N:=N) j (i+1) q;have ap:=cq (show i<=1000000000 by omega);generalize x.ay[i]=co at*;simp-implicitDefEqProofs(disch:=try exact ai)only[th,xA,aj,aC,z,decide_true];refine aZ (Vs au y o az s p ab) ?_;rintro _ H1 ⟨cl,rfl,m⟩;refine⟨m.next,?_⟩;have ak:tl i≠[]->T<l i:=λe=>(p.al i r e).1
  have ag:tl i≠[]->B<=l i:=λe=>by have:=ak e;omega
  have aJ:=ad.bE p.g;have av:H1.get T=D (.row Z 1 ((List.range x.ay.length).map λf=>[cu (tl f) (l f)])):=(m.ho T aJ λe=>by have:=ak e;omega).trans p.g;obtain⟨an,ao⟩:=hg.at_ av r;have s1:=m.view ag s;have pu:=m.gy ag s.mO;have ax:=PJ (k:=k) (tl:=tl) az;have aG:=Jh (k:=k) (tl:=tl) (out:=aX (cS x k i)) (is:=co.ins) (o.ch i);have aH:=o.more y.ez az (is:=co.ins) (λ_ h=>h) (o.snd i);obtain⟨t0,Y⟩:=A5 (k:=k) (tl:=tl) (out:=aX (cS x k i)) (is:=co.ins) (cur:=tl i);have aA:(hb k tl (aX (cS x k i)) co.ins (tl i)).length<=(tl i).length->oi x k tl i:=ax;have aI:∀a∈hb k tl (aX (cS x k i)) co.ins (tl i),∃c:Nat,a=c/\c<k.count/\lX x k i c:=aH
  generalize hb k tl (aX (cS x k i)) co.ins (tl i)=u at*;by_cases hlen:(tl i).length<u.length
  ·have d1:decide ((((tl i).length:Nat):Int)<((u.length:Nat):Int))=true:=decide_eq_true aa;obtain⟨st,aM⟩:=p.store r (λq af ah=>m.ho q af ah) m.mH;simp-implicitDefEqProofs(disch:=try exact ai)only[br,aj,aC,Eb,an,ao,d1,st,Cu,ap];have am:cT B H (H1.set T (.row Z 1 ((List.range x.ay.length).map λg=>[cu (gD tl i u g) (jt l i cl g)]))):=⟨by simpa using m.next,λq aN=>by rw[ad.cb aa];exact pu.2 q aN⟩;refine on _ _ _ C aa aa (o.dn aG aI) (s.gy am) aM (λe=>by cases e) λw K E t2 L M R S U V=>fin w K E t2 L M R ((lW.dn r aa).trans S) U (am.trans V)
  ·have d1:decide ((((tl i).length:Nat):Int)<((u.length:Nat):Int))=false:=decide_eq_false aa;have ar:u=tl i:=by
    have a1:t0=[]:=List.eq_nil_of_length_eq_zero (by rw[Y,List.length_append]at hlen;omega);rw[Y,a1,List.append_nil]
   simp-implicitDefEqProofs(disch:=try exact ai)only[br,aj,aC,Eb,an,ao,d1,Cu,ap];rw[ar]at m;refine on H1 tl l t aa aa o s1 (p.kept r m) (λe f aE=> ?_) λw K E t2 L M R S U V=>fin w K E t2 L M R S U (pu.trans V)
   rcases Nat.lt_or_eq_of_le (Nat.le_of_lt_succ aE)with h|rfl
   ·exact aq e f h
   ·exact aA aa
def Mh(au:right x=C)(i:gg (ck x) x.sites.length k)(h:B<=T){Q:ae->ad->Prop}{N:Nat}(u:25<N):∀(q:Nat) (H:ad) (tl:Nat->List Int) (c:Nat->Nat) (t:Bool),(x.ay.length*k.count-jF tl x.ay.length)+(if t then 1 else 0)<q->hO x k tl->hA x k zX W0 B a b cc d n ov nv fv gv uv H->hg x.ay.length T tl c H->(t=Z->∀f,f<x.ay.length->oi x k tl f)->
  (∀(H':ad) (g:Nat->List Int) (v:Nat->Nat),hO x k g->hg x.ay.length T g v H'->(∀f,f<x.ay.length->oi x k g f)->cT B H H'->W (qO (aQ P aK) N (.aD T 0 x.ay.length 1 (D x.ay.length)) H') Q)->
  W (tg (aQ P aK) N q (.ptr W0 0 0) (.aD T 0 x.ay.length 1 (D x.ay.length)) (A t) H) Q
 |0,_,_,_,_,aN,_,_,_,_,_=>aa
 |q+1,H,tl,c,t,aN,e,s,j,aq,fin=>by
  have on:=Mh au i h (Q:=Q) u q;cases t with
  |false=>
   simp-implicitDefEqProofs(disch:=try exact ai)only[tg,xz,aj];exact fin H tl c e j (aq rfl) (.refl _ _)
  |true=>
   have z:∀H0,bL P H0 .len [31] [.aD T 0 x.ay.length 1 (D x.ay.length)]=D (J X (x.ay.length:Nat)):=λH0=>hI e4.un _ _ _ _ _
   simp-implicitDefEqProofs(disch:=try exact ai)only[tg,xz,br,aj,z];have S:=(gA au).ay;refine Mg au i h x.ay.length 0 N H tl c Z aa aa e s j (λ_ f az=>aa) ?_;intro H1 l w t1 o G K p L M;have af:=zV (tl:=l) (m:=k.count) o.len x.ay.length;have ah:=zV (tl:=tl) (m:=k.count) e.len x.ay.length;have an:=p.le;simp only[if_true]at aN;refine on H1 l w t1 ?_ o G K L λr E y O R z3 z4=>fin r E y O R z3 (M.trans z4)
   cases t1 with
   |false=>simp only[Bool.false_eq_true,if_false];omega
   |true=>
    have:=p.on rfl;simp only[Bool.false_eq_true,false_or]at this;simp only[if_true];omega
end
end
section
open Go.a2
set_option maxRecDepth 2000
def Ap:∀l:List Int,mL (l.map ey)=D l
 |[]=>rfl
 |a::l=>by
  rw[List.map_cons,ey,mL,Ap l];rfl
def FO(ro:Bool)(v:ae):rK (D (.row ro 1 [[v]]))=D v:=by simp[rK]
def Xf(els:List (List ae)):sE (D (.row Z 1 els))=D els:=by simp[sE]
def LY:fR []=[]:=by simp[fR]
def EJ{f:Nat}{args:List ae}{H H':ad}{v:ae}{Q:ae->ad->Prop}(h:aK f args H=D (v,H'))(aN:Q v H'):W (aQ P aK f args H) Q:=⟨v,H',Qq h,aN⟩
section
variable {H:ad}{l:List Int}{b M:Nat}
def Wb(b7:H.get M=D (.row Z 1 [[cu l b]]))(g:l≠[]->H.get b=D (gU l))(al:l.length<=1000000):
  ∃H',aK 95 [.func (.func 97) [] [.ptr M 0 0]] H=D (cu l H.next,H')/\av H H'/\(l≠[]->H'.get H.next=D (gU l)):=by
 by_cases e:l=[]
 ·subst e;refine⟨H,?_,.refl _,λh=>absurd rfl h⟩;unfold aK;simp only[b7,cu,FO]
 ·have a:gN H b 0 l.length 1=D (l.map ey):=by
   have h:=g e;rw[gU]at h;have:List.take l.length (l.map ey)=l.map ey:=List.take_of_length_le (by simp);simp[gN,h,this]
  refine⟨H.push (gU l),?_,av.push _ _,λ_=>ad.a_ _ _⟩;rw[m8 e]at b7;rw[m8 e];unfold aK;simp only[b7,FO,a,Ap,if_pos al];cases l with
  |nil=>exact absurd rfl e
  |cons=>rfl
def We(g:l≠[]->H.get b=D (gU l))(al:l.length<=1000000):
  ∃H',aK 96 [cu l b] H=D (.tuple [],H')/\H'.next=H.next/\(∀q,q≠b\/l=[]->H'.get q=H.get q)/\(l≠[]->H'.get b=D (gU (fR l))):=by
 by_cases e:l=[]
 ·subst e;refine⟨H,?_,rfl,λ_ _=>rfl,λh=>absurd rfl h⟩;unfold aK;simp only[cu]
 ·have a:=ad.bE (g e);refine⟨H.set b (gU (fR l)),?_,rfl,λq aN=>ad.cb (Ne.symm (aN.resolve_right e)),λ_=>ad.c8 a⟩;rw[m8 e];have ge:=g e;unfold aK;simp only[ge,gU,Xf,Ap,List.length_map,al,and_self,if_true,fR]
def acC:W (aQ P aK 42 [cu l b] H) λr H'=>r= .func (.func 97) [] [.ptr H.next 0 0]/\H'=H.push (.row Z 1 [[cu l b]]):=by
 refine YR 0 ?_;have a:fe H.next (cu l b)=D (.ptr H.next 0 0,.row Z 1 [[cu l b]]):=by
  cases l<;>rfl
 simp-implicitDefEqProofs(disch:=try exact ai)only[De,aj,a];exact aG.2 ⟨rfl,rfl⟩
def aam(b7:H.get M=D (.row Z 1 [[cu l b]]))(g:l≠[]->H.get b=D (gU l))(al:l.length<=1000000):
  W (aQ P aK 41 [.func (.func 97) [] [.ptr M 0 0]] H) λr H'=>r=cu (fR l) H.next/\(fR l≠[]->H'.get H.next=D (gU (fR l)))/\av H H':=by
 refine YQ 0 ?_;obtain⟨H1,af,c,h⟩:=Wb b7 g al;obtain⟨d,ah,j,k,i⟩:=We (H:=H1) (b:=H.next) h al;simp-implicitDefEqProofs(disch:=try exact ai)only[Dd];refine aZ (EJ af (Q:=λv H'=>v=cu l H.next/\H'=H1) ⟨rfl,rfl⟩) ?_;rintro _ _ ⟨rfl,rfl⟩;refine⟨c.1,aZ (EJ ah (Q:=λv H'=>H'=d) rfl) ?_⟩;rintro _ _ rfl;refine⟨aa,aG.2 ⟨?_,λe=>i λa=>e (by rw[a,LY]),by rw[j];exact c.1,λq aN=>by rw[k q (.inl aa),c.2 q aN]⟩⟩;by_cases e:l=[]
 ·subst e;rw[LY]
 ·have a:fR l≠[]:=λf=>e (List.eq_nil_of_length_eq_zero (by rw[<-DW l,f];rfl))
  rw[m8 e,m8 a,DW]
end
section
variable {x:bj}{k:a2.cB}{B T:Nat}
def Mi{m:Nat}(hm:m<=1000){tl:Nat->List Int}(o:∀f,(tl f).length<=1000000)(y:B<=T){N:Nat}:∀(j i q:Nat) (H:ad) (a:Nat->Nat),i+j=m->j<q->hg m T (λf=>if f<i then fR (tl f)else tl f) a H->
  W (tf (aQ P aK) N q (.aD T 0 m 1 (D m)) (J X m) (J X (i:Nat)) H) λr H'=>r= .aD T 0 m 1 (D m)/\(∃L,hg m T (λf=>fR (tl f)) L H')/\cT B H H'
 |_,_,0,_,_,_,aN,_=>aa
 |0,i,q+1,H,a,z,_,b=>by
  have d:¬(i:Int)<(m:Int):=aa;simp-implicitDefEqProofs(disch:=try exact ai)only[tf,xx,Ct,aj,aC,d,decide_false];refine aG.2 ⟨rfl,⟨a,?_,λf az G=> ?_,λf g az aP af ah an=> ?_⟩,.refl _ _⟩
  ·have:=b.g;have e:((List.range m).map λf=>[cu (if f<i then fR (tl f)else tl f) (a f)])=(List.range m).map λf=>[cu (fR (tl f)) (a f)]:=List.map_congr_left λf az=>by
    rw[if_pos (by rw[List.mem_range]at az;omega)]
   rw[<-e];exact this
  ·have:=b.al f az (by simp only[if_pos (show f<i by omega)];exact G);simpa only[if_pos (show f<i by omega)]using this
  ·exact b.inj f g az aP (by simp only[if_pos (show f<i by omega)];exact af) (by simp only[if_pos (show g<i by omega)];exact ah) an
 |j+1,i,q+1,H,a,z,aN,b=>by
  have d:(i:Int)<(m:Int):=aa;have h:i<m:=aa;have M:=cq (show i<=1000000000 by omega);have on:=Mi hm (tl:=tl) o y (N:=N) j (i+1) q;obtain⟨u,v⟩:=hg.at_ b.g h;have E:(if i<i then fR (tl i)else tl i)=tl i:=if_neg aa;have p:=b.al i h;simp only[E]at v p;simp-implicitDefEqProofs(disch:=try exact ai)only[tf,xx,aj,aC,d,decide_true,u,v];refine aZ acC ?_;rintro _ _ ⟨rfl,rfl⟩;have c:=av.push H (.row Z 1 [[cu (tl i) (a i)]]);have x:=ad.a_ H (.row Z 1 [[cu (tl i) (a i)]]);refine⟨c.1,?_⟩;refine aZ (aam x (λe=>c.get (p e).2) (o i)) ?_;rintro _ O ⟨rfl,n,t⟩;refine⟨t.1,?_⟩;have k:=c.trans t;have s:H.next<=(H.push (.row Z 1 [[cu (tl i) (a i)]])).next:=c.1
  have K:(H.push (.row Z 1 [[cu (tl i) (a i)]])).next=H.next+1:=by simp
  rw[K]at n s;obtain⟨st,w⟩:=b.store (l:=fR (tl i)) (cl:=H.next+1) h (λq aN _=>k.2 q aN) λe=>⟨n e,.inr s⟩
  have Q:=ad.bE b.g;simp-implicitDefEqProofs(disch:=try exact ai)only[aj,aC,ad.dm,u,st,M];have e:gD (λf=>if f<i then fR (tl f)else tl f) i (fR (tl i))=λf=>if f<i+1 then fR (tl f)else tl f:=by
   funext f
   unfold gD;by_cases af:f=i
   ·rw[if_pos af,if_pos aa,af]
   ·rw[if_neg af];show(if f<i then fR (tl f)else tl f)=_;by_cases ah:f<i
    ·rw[if_pos ah,if_pos aa]
    ·rw[if_neg ah,if_neg aa]
  rw[e]at w ⊢;refine(on _ _ aa aa w).mono ?_;rintro r H' ⟨af,ah,an⟩;refine⟨af,ah,cT.trans ⟨by simpa using k.1,λq aN=> ?_⟩ an⟩;have:q≠T:=aa;rw[ad.cb (Ne.symm this),k.2 q aa]
def abN{H:ad}{ok:Nat->Prop}(au:right x=C){V:ae}(aA:cM H ok x V):
  W (aQ P aK 18 [V] H) λr H'=>aO (b1 aT) H' bk ((List.range x.ay.length).map λf=>aX (m5 x (a2.hR x) f)) r/\av H H':=by
 have y:=aA;have j:=gA au;have l:=va x;have U:=j.ay;have ag:=j.sites;have Y:=l.l3;obtain⟨_,rfl,a,b,cc,d,rfl,af,ah,an,aM⟩:=aA;refine XT (x.ay.length*(a2.hR x).count+3000) ?_;have m:=av.push H (.row Z 5 [[a,b,cc,d,J X x.main]]);have i:=ad.a_ H (.row Z 5 [[a,b,cc,d,J X x.main]]);simp-implicitDefEqProofs(disch:=try exact ai)only[Ce,aj,dV af ah an aM,cH i];refine aZ (y1 au (y.aE m)) ?_;rintro _ K ⟨zX,W0,E,b8,b',S,T,n,ov,nv,fv,gv,uv,rfl,s,p⟩;refine⟨p.1,?_⟩;have ne:bm P .eql 73 C (.ptr W0 0 0) .gI=D (A Z):=aF;have L:aI P K 24 (.ptr H.next 0 2)=D cc:=qj (p.get i);have lc:∀H0,bL P H0 .len [24] [cc]=D (J X x.ay.length):=λH0=>an.len cI
 have mk:=vU K.next x.ay.length aa
 have c:=av.push K (.row Z 1 ((List.range x.ay.length).map λ_=>[.aB]));have w:=ad.a_ K (.row Z 1 ((List.range x.ay.length).map λ_=>[.aB]));have sv:=s.MO;generalize ab:a2.hR x=k at*;simp-implicitDefEqProofs(disch:=try exact ai)only[br,aj,aJ,aL,ne,L,lc,mk];have Q:hg x.ay.length K.next (λ_=>[]) (λ_=>0) (K.push (.row Z 1 ((List.range x.ay.length).map λ_=>[.aB]))):=⟨w,λf _ h=>absurd rfl h,λf g _ _ h=>absurd rfl h⟩
 have O:=sv.aE c;refine Mh au l (B:=K.next) (bC _) aa _ _ (λ_=>[]) (λ_=>0) C (by simp only[if_true];omega) (hO.start x k) O Q (λe=>by cases e) ?_;intro v tl z t R aq pu;have M:∀H0,bL P H0 .len [31] [.aD K.next 0 x.ay.length 1 (D x.ay.length)]=D (J X (x.ay.length:Nat)):=λH0=>hI e4.un _ _ _ _ _
 simp-implicitDefEqProofs(disch:=try exact ai)only[qO,br,M];refine(Mi (B:=K.next) (tl:=tl) aa (λf=>by have:=t.len f;omega) (bC _) x.ay.length 0 _ v z aa aa (by simpa only[Nat.not_lt_zero,if_false]using R)).mono ?_;rintro r H' ⟨rfl,⟨G,u⟩,N⟩;have o:=pu.trans N;refine⟨?_,m.trans (p.trans ⟨Nat.le_trans c.1 o.1,λq aN=>by rw[o.2 q aN,c.2 q aN]⟩)⟩;refine yJ (K:=aT) (ok:=bk) (f:=λf=>aX (m5 x k f)) trivial u.g λf az=> ?_
 have e:fR (tl f)=aX (m5 x k f):=t.end aq f;show aO aT H' bk (aX (m5 x k f)) (cu (fR (tl f)) (G f));rw[<-e];exact Mt λh=>⟨trivial,(u.al f az h).2⟩
end
end
end Go.Proofs.YtmhhnnklfcbgfaaGreat
namespace Go.a2
open Go.bz
section
open Classical
section
variable {x:bj}{k:cB}
def I_{i:In}{c:Nat}(h:c∈gZ x k i):c<k.fields.length:=by
 unfold gZ at h;split at h
 ·exact(fB.1 h).1
 ·split at h
  ·exact Bj h
  ·simp at h
def WE{i:In}{c a:Nat}(aq:c∈gZ x k i)(h:eX k.fields [(c:Int)] a)(f:a∉gu x k):a∈gZ x k i:=by
 have one:∀{r:List Int},eX k.fields r c->eX k.fields r a:=λau=>h.mono λd _ g=>by
  simp only[List.mem_singleton]at g;obtain rfl:d=c:=by omega
  exact au
 unfold gZ at aq ⊢;split at aq
 ·rename_i e;rw[if_pos e];exact kD.2 (one (kD.1 aq))
 ·rename_i e;rw[if_neg e];split at aq
  ·rename_i b;rw[if_pos b];unfold cS at aq ⊢;split at aq
   ·exact se.2 ⟨kD.2 (one (kD.1 (se.1 aq).1)),f⟩
   ·simp at aq
  ·simp at aq
def qn{l:List Nat}{n:Nat}:((n:Nat):Int)∈(l.map λ(n:Nat)=>(n:Int))↔n∈l:=by
 rw[List.mem_map];constructor
 ·rintro⟨b,a,e⟩;obtain rfl:b=n:=by omega
  exact a
 ·intro h;exact⟨n,h,rfl⟩
def JL{vars:List Int}{is:List In}{a:Nat}(f:a∉gu x k):eX k.fields (vars++is.flatMap λi=>(gZ x k i).map λ(n:Nat)=>(n:Int)) a↔eX k.fields vars a\/∃i∈is,a∈gZ x k i:=by
 constructor
 ·intro h
  induction h with
  |root hm al=>
   rcases List.mem_append.1 hm with h|h
   ·exact .inl (.root h al)
   ·obtain⟨i,b,h⟩:=List.mem_flatMap.1 h;exact .inr ⟨i,b,qn.1 h⟩
  |step aq az e al l=>
   rename_i c fs d;have g:c∉gu x k:=λh=>f (kD.2 (.step (kD.1 h) az e al))
   rcases l g with h|⟨i,b,h⟩
   ·exact .inl (.step h az e al)
   ·have j:=I_ h;exact .inr ⟨i,b,WE h (.step (.root (by simp) j) az e al) f⟩
 ·rintro(h|⟨i,b,h⟩)
  ·exact eX.append.2 (.inl h)
  ·exact .root (List.mem_append.2 (.inr (List.mem_flatMap.2 ⟨i,b,qn.2 h⟩))) (I_ h)
def Wj{f:Nat}{co:bH}:(((dS k.fields (((List.range co.vars.length).map λv=>k.node (bK x.ay f+v))++co.ins.flatMap λi=>(gZ x k i).map λ(n:Nat)=>(n:Int))).map λ(n:Nat)=>(n:Int)).filter λa=>decide (∀o∈[(gu x k).map λ(n:Nat)=>(n:Int),(jo x k f co).map λ(n:Nat)=>(n:Int)],a∉o))=(mc x k f co).map λ(n:Nat)=>(n:Int):=by
 unfold mc;refine Bx (List.Pairwise.filter _ (Km _ _)) (λa b=> ?_) λn aH c=> ?_
 ·obtain⟨af,ah⟩:=List.mem_filter.1 b;obtain⟨n,aH,rfl⟩:=List.mem_map.1 af;simp only[decide_eq_true_eq,List.mem_cons,List.not_mem_nil,or_false,forall_eq_or_imp,forall_eq,qn]at ah;exact⟨n,rfl,(fB.1 aH).1,(JL ah.1).1 (kD.1 aH),ah.1,ah.2⟩
 ·obtain⟨af,ah,an⟩:=c;refine List.mem_filter.2 ⟨qn.2 (kD.2 ((JL ah).2 af)),?_⟩;simp only[decide_eq_true_eq,List.mem_cons,List.not_mem_nil,or_false,forall_eq_or_imp,forall_eq,qn];exact⟨ah,an⟩
end
end
end Go.a2
namespace Go.Proofs.YtmhhnnklfcbgfaaGreat
open Go.bz
section
open Go.a2
set_option maxRecDepth 2000
section
variable {x:bj}{k:a2.cB}{zX W0 B:Nat}{a b cc d ov nv fv gv uv:ae}{n:Nat}{H:ad}
def VD{ok:Nat->Prop}(S:eO x)(K:gg (ck x) x.sites.length k){f:Nat}{co:bH}{i:In}{wi:ae}(E:dy x f co i=C)(hw:aO aT H ok i.args wi)(s:hA x k zX W0 B a b cc d n ov nv fv gv uv H):
  W (aQ P aK 45 [.ptr W0 0 0,.agg (b5 i wi)] H) λr H'=>aO aT H' bk (aX (gZ x k i)) r/\av H H':=by
 refine YU 0 ?_;have U:=S.sites;have L:hC (.ptr W0 0 0)=D (.ptr W0 0 0):=rfl;have y:=av.push H (.row Z 6 [b5 i wi]);have z:(H.push (.row Z 6 [b5 i wi])).get H.next=D (.row Z 6 [[J X i.op,J X i.a,J X i.b,J X i.c,J X i.n,wi]]):=ad.a_ _ _
 simp-implicitDefEqProofs(disch:=try exact ai)only[Dg,aj,aJ,aL,c7 hw];have m:=s.aE y;generalize H.push (.row Z 6 [b5 i wi])=H0 at*;generalize H.next=I at*
 have v:=fA z;have alloc:0<=i.n->i.n.toNat<x.sites.length->(i.op=11\/i.op=12)->W (tV (aQ P aK) (.ptr W0 0 0) (.ptr I 0 0) (J X i.op) (A C) H0) λr H'=>aO aT H' bk (aX (gZ x k i)) r/\av H H':=by
  intro G af aR;obtain⟨am,V,Y⟩:=m.aR.int (j:=i.n) (a:=k.site i.n) G (LF K G af);have M:=av.push H0 (.row Z 1 [[J X (k.site i.n)]]);have N:=m.aE M;simp-implicitDefEqProofs(disch:=try exact ai)only[tV,Nat.reduceAdd,aj,aJ,aL,L,hs m.du,o z,V,Y,ej];refine aZ (y0 K U N.du N.az (gB H0 bk trivial (k.site i.n)) (by simp)) ?_;rintro r H1 ⟨al,R⟩;refine⟨R.1,?_⟩;have e:gZ x k i=dS k.fields [k.site i.n]:=if_pos aR;rw[e];exact aG.2 ⟨al.aD,(y.trans M).trans R⟩
 by_cases p:i.op=11
 ·have t:∀j:Int,(i.op==j)=(11==j):=λj=>by rw[p]
  have l:=nq (uy p E).2;have:=alloc l.1 l.2.1 (.inl p);simp-implicitDefEqProofs(disch:=try exact ai)only[aj,aC,v,t,Int.reduceBEq];exact this
 have O:(i.op==11)=false:=beq_eq_false_iff_ne.2 p;by_cases u:i.op=12
 ·have t:∀j:Int,(i.op==j)=(12==j):=λj=>by rw[u]
  have l:=nq (uz u E).2;have:=alloc l.1 l.2.1 (.inr u);simp-implicitDefEqProofs(disch:=try exact ai)only[aj,aC,v,t,Int.reduceBEq];exact this
 have Q:(i.op==12)=false:=beq_eq_false_iff_ne.2 u;by_cases h:i.op=13
 ·obtain⟨g,aP⟩:=uA h E;have T:=(List.getElem?_eq_some_iff.1 aP.at_.2).1;have t13:(i.op==13)=true:=by rw[h];rfl
  obtain⟨q,w,ab,ag,ah⟩:=m.hu.list (j:=i.c) (a:=aX (cS x k i.c.toNat)) aP.at_.1 (by simp[T]);simp-implicitDefEqProofs(disch:=try exact ai)only[tV,aj,aJ,aC,aL,v,O,Q,t13,L,hs m.du,o z,ab,ag];have e:gZ x k i=cS x k i.c.toNat:=by unfold gZ;rw[if_neg aa,if_pos h]
  rw[e];exact aG.2 ⟨ah.any,y⟩
 ·have ak:(i.op==13)=false:=beq_eq_false_iff_ne.2 h;simp-implicitDefEqProofs(disch:=try exact ai)only[tV,yf,aj,aC,v,O,Q,ak];have e:gZ x k i=[]:=by unfold gZ;rw[if_neg aa,if_neg h]
  rw[e];exact aG.2 ⟨.nil,y⟩
def I9(a:gg (ck x) x.sites.length k)(i:In):(gZ x k i).length<=k.count:=by
 unfold gZ;split
 ·unfold dS;rw[a.ez];exact j_ _ _
 ·split
  ·exact sm a _
  ·simp
def JJ(e:eO x)(g:gg (ck x) x.sites.length k){f:Nat}{co:bH}(az:x.ay[f]? =D co){H0:ad}{R:Nat}(af:B<=R)(M:hA x k zX W0 B a b cc d n ov nv fv gv uv H0){gw:ae}(z:aO fD H0 (· <B) co.ins gw)(ah:co.ins.length<=1000000){x4 x15 x16 x17:ae}{L1:ae->ae->ae->ae->ae->ad->O}{Q:ae->ad->Prop}{N:Nat}:∀(j i q:Nat) (H:ad) (l:List Int) (v:ae),i+j=co.ins.length->j<q->cT R H0 H->R<=H.next->bq aT R bk H l v->l.length+60*j<=900000000->
  (∀(H':ad) (h:ae),cT R H0 H'->R<=H'.next->bq aT R bk H' (l++(co.ins.drop i).flatMap λi=>aX (gZ x k i)) h->W (xF (aQ P aK) N L1 (.ptr W0 0 0) x4 (J X (f:Nat)) h x15 x16 x17 H') Q)->
  W (tm (aQ P aK) N L1 q (.ptr W0 0 0) x4 (J X (f:Nat)) v x15 x16 x17 gw (J X co.ins.length) (J X (i:Nat)) H) Q
 |_,_,0,_,_,_,_,aN,_,_,_,_,_=>aa
 |0,i,q+1,H,l,v,ag,_,pu,m,al,_,fin=>by
  have o:¬(i:Int)<(co.ins.length:Int):=aa;simp-implicitDefEqProofs(disch:=try exact ai)only[tm,xE,aj,aC,o,decide_false];rw[List.drop_of_length_le aa]at fin;exact fin H v pu m (by simpa using al)
 |j+1,i,q+1,H,l,v,ag,aN,pu,m,al,aA,fin=>by
  have o:(i:Int)<(co.ins.length:Int):=aa;have r:i<co.ins.length:=aa;have ax:=g.l3;have aH:=e.sites;have G:cT B H0 H:=⟨pu.1,λq aN=>pu.2 q aa⟩;have s:=M.gy G;have hw:aO fD H (· <B) co.ins gw:=z.keep λp c (y:p<B) ab=>⟨y,by rw[G.2 p y];exact ab⟩
  obtain⟨L,nn,wi,ao,ap,K⟩:=hw.rZ (j:=(i:Int)) (i:=co.ins[i]) aa (by simp[r]);have ak:dy x f co co.ins[i]=true:=(jZ (e.code az)).ins (List.getElem_mem r);have aq:=cq (show i<=1000000000 by omega);have on:=JJ e g az af M z ah (x4:=x4) (x15:=x15) (x16:=x16) (x17:=x17) (L1:=L1) (Q:=Q) (N:=N) j (i+1) q;rw[List.drop_eq_getElem_cons r,List.flatMap_cons]at fin;generalize co.ins[i]=ins at*;have st:=oa (i:=ins) (w:=wi) (ad.a_ H (.row Z 6 [[J X 0,J X 0,J X 0,J X 0,J X 0,.aB]])) K.one;have pp:=av.push H (.row Z 6 [b5 ins wi]);have Y:=ad.a_ H (.row Z 6 [b5 ins wi])
  simp-implicitDefEqProofs(disch:=try exact ai)only[tm,xE,Nat.reduceAdd,aj,aJ,aC,o,decide_true,ao,ap _ (av.refl _),st,ad.ga,fz Y];refine aZ (VD e g ak (K.aE pp) (s.aE pp)) ?_;rintro aI aw ⟨am,E⟩;refine⟨E.1,?_⟩;have t:=pp.trans E;have aF:=t.1;have aG:=I9 g ins;obtain⟨h,H',U,V,u,_,_⟩:=(al.aE t).ints aa am (by rw[hx];omega);have hle:=u.1;simp-implicitDefEqProofs(disch:=try exact ai)only[aj,aC,U,aq];have an:cT R H0 H':=pu.trans ((eH t m).trans u);refine on H' _ h aa aa an aa V (by rw[List.length_append,hx];omega) λT v2 ar au S=>fin T v2 ar au ?_
  rw[List.append_assoc]at S;exact S
