/-
  Texts of one proof, laid together: Tv Sd Se Sf Sj Sk Sm Sn Sq Tw SgO SgP Tx Ty Tz.
-/
import Derived.Test.YtmhhnnklfcbgfaaGreatMR
set_option linter.unusedVariables false
set_option linter.unusedSimpArgs false
set_option linter.defProp false
open Option renaming some→A,none→Z
open Bool renaming true→J,false→I
open Go.cw.af renaming int→D,bool→C
open Go.IntKind renaming i64→F
namespace Go.Proofs.YtmhhnnklfcbgfaaGreat
open Go.cw
open Nat (reduceAdd reduceLeDiff)
section
open Go.a_
set_option maxRecDepth 2000
section
variable {x:bC}{H:ae}{ok:Nat->Prop}
def Ky(ar:right x=J){l:List bp}{lv:af}(o:gg (cf x) x.sites.length l)(aw:l.length<=800000000)(n:aH cP H ok l lv){bV:af->ae->O}{Q:af->ae->Prop}
  (fin:∀(a:af) (H':ae),hX H' (λL=>H.next<=L) (a_.merge (hb (cf x) x.sites.length l) x.sites.length) a->au H H'->W (bV a H') Q):
  W (ea H (aK P aG 82 [D F (cf x:Nat),D F (x.sites.length:Nat),D F 8,lv] H) λg ah=>
   aU (iS g 0) λp=>
   aU (iS g 1) λ_=>
   e5 ah [af.ao,af.ao] λf ai=>
   gp ai (cr P ai 154 f p) λax=>
   aU (aI P ax 154 f) λx87=>
   ea ax (aK P aG 83 [x87] ax) λx88 aM=>
   aU (iS x88 0) λx89=>
   aU (iS x88 1) λ_=>bV x89 aM) Q:=by
 have d:=ga ar;have e:=d.sites;have aL:=Ou d;refine cK (ads o aL e aw n) ?_;rintro _ H1 ⟨pv,rfl,⟨nv,fv,rfl,ah,ai⟩,c⟩;refine⟨c.1,?_⟩;have r:∀(k:af->ae->O),e5 H1 [.ao,.ao] k=k (.ptr H1.next 0 0) (H1.push (.row I 2 [[.ao,.ao]])):=λk=>by rw[iL,iN];rfl
 have j:=ae.a2 H1 (.row I 2 [[.ao,.ao]]);have st:=yg j ah.one ai.one;have dk:(H1.push (.row I 2 [[.ao,.ao]])).set H1.next (.row I 2 [[nv,fv]])=H1.push (.row I 2 [[nv,fv]]):=ae.gU Nat.le.refl Nat.le.refl
 rw[dk]at st;have b:=au.push H1 (.row I 2 [[nv,fv]]);have m:=ae.a2 H1 (.row I 2 [[nv,fv]]);simp only[yF,List.getElem?_cons_zero,List.getElem?_cons_succ,lZ,r,st];rw[m1 aX];simp only[mE m,lZ];refine cK (adm (NL e ad) (ah.aB b) (ai.aB b)) ?_;rintro _ i ⟨a,rfl,s,h⟩;refine⟨h.1,?_⟩;simp only[yF,List.getElem?_cons_zero,List.getElem?_cons_succ,lZ];have ax:=c.1;have aM:=b.1;exact fin a i (s.keep (.le λq (aJ:_<=q)=>ad)) ((c.trans b).trans h)
theorem Ps(ar:right x=J){V lv:af}{zX zC:Nat}{t:Nat}(bI:(dW (cf x) x.sites.length (cons x) (t+1)).of=(dW (cf x) x.sites.length (cons x) t).of)(a4:∀j,j<t->(dW (cf x) x.sites.length (cons x) (j+1)).of≠(dW (cf x) x.sites.length (cons x) j).of)
  {cs:List af} (bA:V= .agg cs) (bC:zX+1<zC) {N:Nat} (bz:100<N):∀(q i:Nat) (H:ae) (T:af),i<=t->t<i+q->cA H (· <zX) x V->H.get zX=A (.row I 5 [cs])->aH cP H (· <zC) (cons x) lv->(∃r,H.get (zX+1)=A (.row I 4 [r])/\r.length=4)->(∃n a b c,T= .agg (a7 n a b c)/\H.get zC=A (.row I 4 [a7 n a b c]))->hX H (λq=>zX<=q/\q≠zC) (dW (cf x) x.sites.length (cons x) i) T->
  W (BU (aK P aG) N q (.ptr zX 0 0) (.ptr (zX+1) 0 0) (D F (cf x:Nat)) lv (.ptr zC 0 0) H) λr H'=>hX H' (λL=>zX<=L) (dW (cf x) x.sites.length (cons x) (t+1)) r/\cl zX H H'
 |0,i,_,_,aP,aJ,_,_,_,_,_,_=>ad
 |q+1,i,H,T,aP,aJ,aE,aO,a5,⟨bf,aS,a6⟩,⟨n,a,b,c,bi,b4⟩,aq=>by
  have a3:=ga ar;have cm:=a3.sites;subst bi;obtain⟨b1,b',d,aI,ah,ai,ax,aM⟩:=aq;simp only[af.agg.injEq,a7,List.cons.injEq,af.int.injEq,and_true,true_and]at aI;obtain⟨b7,rfl,rfl,rfl⟩:=aI;obtain rfl:n=(dW (cf x) x.sites.length (cons x) i).count:=ad;have ce:=ae.bq b4;have cd:=y2 ar;have he:=vn (cf x) x.sites.length (cons x) i;have bK:=uy (cf x) x.sites.length (cons x) i;have bF:=Eg (cf x) x.sites.length (cons x) i;have bJ:dW (cf x) x.sites.length (cons x) (i+1)=a_.merge (hb (cf x) x.sites.length (cons x++hK (mO (cf x) x.sites.length (cons x) i) x.sites.length)) x.sites.length:=rfl;obtain⟨_,bk,a0,aC,br,d0,bl,bm,bn,bo,am⟩:=aE
  have aE:cA H (· <zX) x V:=⟨_,bk,a0,aC,br,d0,bl,bm,bn,bo,am⟩;have bj:cs=[a0,aC,br,d0,D F x.main]:=al;subst bj;generalize cc:dW (cf x) x.sites.length (cons x) i=cn at*;generalize ca:mO (cf x) x.sites.length (cons x) i=R at*;rw[bK]at ah;rw[bF]at b4;obtain⟨B,a1⟩:∃B,B=H.next:=⟨_,rfl⟩
  obtain⟨v1,H1,bS,av,bT,_,_⟩:=(aY.nil cP H.next bb H).KF (m:=cons x) (w:=lv) Nat.le.refl a5 al;rw[List.nil_append]at av;have ay:au H H1:=bT.aB;have cg:=ay.1;have bO:∀L,dr v1=A L->H.next<=L/\L<H1.next:=λL e=>av.jn e
  have aL:=ay.get b4;have ck:=vi R x.sites.length;have mk:=N1 H1.next (dw R x.sites.length).length ad
  have aA:=au.push H1 (.row I 1 (dJ (List.replicate (dw R x.sites.length).length 0)));have cj:=ae.a2 H1 (.row I 1 (dJ (List.replicate (dw R x.sites.length).length 0)));have aR:=aA.get aL;have bP:∀H0,bE P H0 .len [30] [a]=A (D F x.sites.length):=λH0=>by rw[ah.len b0,g1];simp
  have b5:IntKind.i64.wrap ((x.sites.length:Int)-1)=(x.sites.length:Int)-1:=Go.IntWalk.i64_in _ ⟨ad,ad⟩;refine bh @BU.eq_2 @HJ.eq_1 bS (fQ aL) (fQ aR) (ag mk (ag bP b5)) ?_;obtain⟨zA,aZ⟩:∃zA,zA=H1.next:=⟨_,rfl⟩
  rw[<-aZ]at cj ⊢;have b_:B<=zA:=ad;have cq:(H1.push (.row I 1 (dJ (List.replicate (dw R x.sites.length).length 0)))).next=zA+1:=by rw[aZ];rfl
  have bd:=ay.trans aA;have bU:=av.aB aA;generalize H1.push (.row I 1 (dJ (List.replicate (dw R x.sites.length).length 0)))=ab at*;have bL:∀k,k<B->k≠zA:=λk G=>ad
  have aU:aH aN ab (· <B) (aQ ((List.range x.sites.length).map (db R))) a:=a1▸ah.below.aB bd;refine Kx he ad ad (ok:=(· <B)) bL x.sites.length N ab _ (du _) ad aR aU cj aX (λs ah ai=>ad) ?_;intro aj ct Q bu bD bH;have bR:∀L n aF,v1= .az L 0 n 4 aF->zA≠L:=λL n aF e=>by have:=(bO L (by rw[e];rfl)).2;omega
  have bV:aY cP B bb aj (cons x++(List.range 0).map λs=>bp.same s (eg R s)) v1:=by
   rw[List.range_zero,List.map_nil,List.append_nil,a1];exact bU.frame (λh=>h) λL e=>Q.2 L al
  have bM:dm ab (· <B) aj (· <B):=λk b (G:k<B) g=>⟨G,by rw[Q.2 k ad];exact g⟩
  have ch:=Q.1;rw[BS];refine Kw he ad (show zC<B by omega) (ok:=(· <B)) (λk G=>G) bD bH ad x.sites.length 0 N aj v1 ad ad ad (by rw[Q.2 zC ad];omega) (aU.keep bM) bu bV bR ?_;intro y co be bW;have cb:(hK R x.sites.length).length=x.sites.length:=by simp[hK]
  have wf:gg (cf x) x.sites.length (cons x++hK R x.sites.length):=SZ (y3 a3) (SY he _ _);have Y:au H y:=⟨by have:=be.1;omega,λk G=>by rw[be.2 k ad,Q.2 k ad,bd.2 k G]⟩;have bv:=Y.get aO;have b9:=am.aB Y;have bQ:∀H0,bE P H0 .len [25] [d0]=A (D F x.sites.length):=λH0=>am.len fH
  refine b3 @BT.eq_1 (c9 bv) bQ ?_;refine Ky ar wf al bW.az ?_;intro T f aq bY;obtain⟨b1,b',d,rfl,v,K,M,a9⟩:=aq;rw[<-bJ]at v K M ⊢;generalize ap:dW (cf x) x.sites.length (cons x) (i+1)=aV at*;have b6:∀(q:af->ae->O),e5 f [D F 0,.ao,.ao,.ao] q=q (.ptr f.next 0 0) (f.push (.row I 4 [a7 0 .ao .ao .ao])):=λq=>by rw[iL,iN];rfl
  have bZ:=ae.a2 f (.row I 4 [a7 0 .ao .ao .ao]);have lT:cr P (f.push (.row I 4 [a7 0 .ao .ao .ao])) 33 (.ptr f.next 0 0) (.agg (a7 aV.count b1 b' d))=A (f.push (.row I 4 [a7 aV.count b1 b' d])):=by
   rw[i_ bZ rfl v.one K.one M.one,ae.lb]
  have aa:=au.push f (.row I 4 [a7 aV.count b1 b' d]);have U:=ae.a2 f (.row I 4 [a7 aV.count b1 b' d]);have bc:=Y.trans bY;have o:=bc.trans aa;have an:=o.get b4;simp only[b6,lT];rw[m1 aX];have n5:f.next<(f.push (.row I 4 [a7 aV.count b1 b' d])).next:=aX
  have bX:zC<f.next:=by have:=bc.1;omega
  obtain⟨E,bx⟩:∃E,E=f.next:=⟨_,rfl⟩
  rw[<-bx]at U n5 bX ⊢;generalize f.push (.row I 4 [a7 aV.count b1 b' d])=l at*;have i1:=v.aB aa;have hlen:(aQ aV.of).length<=1000000000:=by
   have e:=uy (cf x) x.sites.length (cons x) (i+1);rw[ap]at e;rw[e];simp[aQ];omega
  refine bG (fQ U) (fQ an) ?_;refine dK (vk i1 (ah.aB o) hlen) ?_;have ci:zC<y.next:=by have:=Y.1;omega
  have bg:=i_ (n:=aV.count) (a:=b1) (b:=b') (c:=d) an rfl v.one K.one M.one;have iB:=ae.bq an;have p:∀q,q≠zC->(l.set zC (.row I 4 [a7 aV.count b1 b' d])).get q=l.get q:=λq aJ=>ae.b8 (Ne.symm aJ)
  have bs:(l.set zC (.row I 4 [a7 aV.count b1 b' d])).get zC=A (.row I 4 [a7 aV.count b1 b' d]):=ae.cH iB;have n8:l.next<=(l.set zC (.row I 4 [a7 aV.count b1 b' d])).next:=Nat.le.refl
  have cp:(l.set zC (.row I 4 [a7 aV.count b1 b' d])).next=l.next:=rfl
  by_cases e:i=t
  ·subst e;have ak:aQ aV.of=aQ ((List.range x.sites.length).map (db R)):=al;have aT:(l.set zC (.row I 4 [a7 aV.count b1 b' d])).get (zX+1)=A (.row I 4 [bf]):=by rw[p _ ad];exact o.get aS
   refine b3 ak (iE U) bg ?_;generalize l.set zC (.row I 4 [a7 aV.count b1 b' d])=S at*;have b2:=i_ (n:=aV.count) (a:=b1) (b:=b') (c:=d) aT a6 v.one K.one M.one;have bN:=ae.bq aT;have bt:(S.set (zX+1) (.row I 4 [a7 aV.count b1 b' d])).get (zX+1)=A (.row I 4 [a7 aV.count b1 b' d]):=ae.cH bN;have ba:∀q,q≠zX+1->(S.set (zX+1) (.row I 4 [a7 aV.count b1 b' d])).get q=S.get q:=λq aJ=>ae.b8 (Ne.symm aJ)
   refine b3 (iE bs) b2 (iE bt) ?_;have u:dm f (λL=>y.next<=L) (S.set (zX+1) (.row I 4 [a7 aV.count b1 b' d])) (λL=>zX<=L):=λq b (aJ:y.next<=q) g=>⟨show zX<=q by omega,by rw[ba q ad,p q ad];exact aa.get g⟩
   rw[ap];exact aD.2 ⟨⟨_,_,_,rfl,v.keep u,K.keep u,M.keep u,a9⟩,by have:=o.1;simp;omega,λq aJ=>by rw[ba q ad,p q ad,o.2 q ad]⟩
  ·have ak:aQ aV.of≠aQ ((List.range x.sites.length).map (db R)):=λh=>a4 i ad (by
    grind[IH])
   refine b3 ak (iE U) bg ?_;have a8:∀{aw:Nat->Prop},(∀q,aw q->q≠zC)->dm H aw (l.set zC (.row I 4 [a7 aV.count b1 b' d])) aw:=λbw q b aJ g=>⟨aJ,by rw[p q (bw q aJ)];exact o.get g⟩
   have u:dm f (λL=>y.next<=L) (l.set zC (.row I 4 [a7 aV.count b1 b' d])) (λq=>zX<=q/\q≠zC):=λq b (aJ:y.next<=q) g=>⟨show zX<=q/\q≠zC by omega,by rw[p q ad];exact aa.get g⟩
   refine(Ps ar bI a4 bA bC bz q (i+1) _ (.agg (a7 aV.count b1 b' d)) ad ad (aE.keep (a8 λq (aJ:q<zX)=>ad)) (by rw[p zX ad];exact o.get aO) (a5.keep (a8 λq (aJ:q<zC)=>ad)) ⟨bf,by rw[p _ ad];exact o.get aS,a6⟩ ⟨_,_,_,_,rfl,ae.cH iB⟩ ?_).mono λr H' z=>⟨z.1,⟨by have:=z.2.1;have:=o.1;omega,λq aJ=>by rw[z.2.2 q aJ,p q ad,o.2 q ad]⟩⟩
   rw[ap];exact⟨_,_,_,rfl,v.keep u,K.keep u,M.keep u,a9⟩
theorem Pr(ar:right x=J){V:af}(aE:cA H ok x V):W (aK P aG 37 [V] H) λr H'=>hX H' (λL=>H.next<=L) (a_.hf x) r/\au H H':=by
 have B:=ga ar;have aN:=B.sites;obtain⟨E,aI,ab,aj,aL⟩:=Iw (cf x) x.sites.length (cons x);have n:=aE;obtain⟨_,rfl,a,b,cc,d,rfl,ah,ai,ax,aM⟩:=aE;refine afc (E+101) ?_;obtain⟨zX,i⟩:∃zX,zX=H.next:=⟨_,rfl⟩
 have ap:=au.push H (.row I 5 [[a,b,cc,d,D F x.main]]);have R:=ae.a2 H (.row I 5 [[a,b,cc,d,D F x.main]]);have K:=au.push (H.push (.row I 5 [[a,b,cc,d,D F x.main]])) (.row I 4 [a7 0 .ao .ao .ao]);have y:=ae.a2 (H.push (.row I 5 [[a,b,cc,d,D F x.main]])) (.row I 4 [a7 0 .ao .ao .ao]);have h:=K.get R;have M:(H.push (.row I 5 [[a,b,cc,d,D F x.main]])).next=zX+1:=by rw[i];simp
 have av:∀(k:af->ae->O),e5 (H.push (.row I 5 [[a,b,cc,d,D F x.main]])) [D F 0,.ao,.ao,.ao] k=k (.ptr (zX+1) 0 0) ((H.push (.row I 5 [[a,b,cc,d,D F x.main]])).push (.row I 4 [a7 0 .ao .ao .ao])):=λk=>by rw[iL,iN,M];rfl
 rw[M]at y;rw[<-i]at h;simp only[Q_,dV ah ai ax aM,kM,av,<-i];have f:=ap.trans K;generalize U:(H.push (.row I 5 [[a,b,cc,d,D F x.main]])).push (.row I 4 [a7 0 .ao .ao .ao])=N at*;have aO:N.next=zX+2:=by rw[<-U];simp[i]
 refine bP (cn h) ?_;refine bw (acR ar (n.aB f)) λay u=> ?_
 have S:=u.get h;refine bP (cn S) ?_;refine e2 (adk ar (n.aB (f.trans u))) λlv l G an=> ?_
 have m:=u.trans an;have aP:=f.trans m;have T:=m.get h;have al:∀H0,bE P H0 .len [25] [d]=A (D F x.sites.length):=λH0=>aM.len fH
 have aH:=y2 ar;refine bG (c9 T) al ?_;refine Ky ar (y3 B) ad G.az ?_;intro aA c aa v;obtain⟨b1,b',e,rfl,p,s,t,am⟩:=aa;have ak:dW (cf x) x.sites.length (cons x) 0=a_.merge (hb (cf x) x.sites.length (cons x)) x.sites.length:=rfl;rw[<-ak]at p s t ⊢;generalize Y:dW (cf x) x.sites.length (cons x) 0=aV at*;have aw:∀(q:af->ae->O),e5 c [D F 0,.ao,.ao,.ao] q=q (.ptr c.next 0 0) (c.push (.row I 4 [a7 0 .ao .ao .ao])):=λq=>by rw[iL,iN];rfl
 have aq:=ae.a2 c (.row I 4 [a7 0 .ao .ao .ao]);have lT:cr P (c.push (.row I 4 [a7 0 .ao .ao .ao])) 33 (.ptr c.next 0 0) (.agg (a7 aV.count b1 b' e))=A (c.push (.row I 4 [a7 aV.count b1 b' e])):=by
  rw[i_ aq rfl p.one s.one t.one,ae.lb]
 have w:=au.push c (.row I 4 [a7 aV.count b1 b' e]);have Q:=ae.a2 c (.row I 4 [a7 aV.count b1 b' e]);have j:=(m.trans v).trans w;simp only[aw,lT];rw[m1 aX];have aD:zX+2<=l.next:=by have:=m.1;omega
 have aF:l.next<=c.next:=v.1
 refine(Ps ar ab aj rfl (zX:=zX) (zC:=c.next) ad ad (E+101) 0 _ (.agg (a7 aV.count b1 b' e)) ad ad (i▸n.keep λq b aJ g=>⟨ae.bq g,(f.trans j).get g⟩) (j.get h) ((G.az.below.aB (v.trans w)).keep (.le λL aC=>ad)) ⟨_,j.get y,rfl⟩ ⟨_,_,_,_,rfl,Q⟩ ?_).mono λr H' z=>⟨?_,⟨by have:=z.2.1;have:=(f.trans j).1;omega,λq aJ=>by rw[z.2.2 q ad,(f.trans j).2 q aJ]⟩⟩
 ·rw[Y];have o:dm c (λL=>l.next<=L) (c.push (.row I 4 [a7 aV.count b1 b' e])) (λq=>zX<=q/\q≠c.next):=λq b (aJ:l.next<=q) g=>⟨show zX<=q/\q≠c.next by have:=ae.bq g;omega,w.get g⟩
  exact⟨_,_,_,rfl,p.keep o,s.keep o,t.keep o,am⟩
 grind[a_.hf]
end
end
section
open Go.a_
set_option maxRecDepth 2000
section
variable {x:bC}{k:a_.dg}
theorem Oo{m:Nat}(a:hY (cf x) m k){v:Nat}(b:v<cf x):k.nodes[v]? =A (k.node v):=by
 have:v<k.nodes.length:=by rw[a.nl];omega
 grind[dg.node]
theorem NB(ar:right x=J)(w:hY (cf x) x.sites.length k){W0 zX B:Nat}{a b cc d ov nv fv gv uv:af}{n:Nat}(o:zX<B)(m:W0<B){Q:af->ae->Prop}{N:Nat}:∀(j i q:Nat) (H:ae) (v:af),i+j=x.globals.length->j<q->aY aN B bb H ((List.range i).map λg=>k.node (ew x g)) v->B<=H.next->H.get W0=A (.row I 11 [gI a b cc d x.main n ov nv fv gv uv])->H.get zX=A (.row I 5 [[a,b,cc,d,D F x.main]])->cA H (· <B) x (.agg [a,b,cc,d,D F x.main])->aH aN H (· <B) k.nodes nv->
  (∀(c:af) (H':ae),aY aN B bb H' ((List.range x.globals.length).map λg=>k.node (ew x g)) c->cl B H H'->W (BY (aK P aG) N (.ptr zX 0 0) (.ptr W0 0 0) c H') Q)->
  W (wX (aK P aG) N q (.ptr zX 0 0) (.ptr W0 0 0) v (D F x.globals.length) (D F i) H) Q
 |_,_,0,_,_,_,aJ,_,_,_,_,_,_,_=>ad
 |0,i,q+1,H,v,aP,_,aw,l,cQ,aO,aE,aL,fin=>by
  have O:¬(i:Int)<(x.globals.length:Int):=ad;refine bG @wX.eq_2 @BX.eq_1 ?_;obtain rfl:i=x.globals.length:=ad;exact fin v H aw (.refl _ _)
 |j+1,i,q+1,H,v,aP,aJ,aw,l,cQ,aO,aE,aL,fin=>by
  have u:i<x.globals.length:=ad;have L:=(ga ar).globals;have on:=NB ar w (a:=a) (b:=b) (cc:=cc) (d:=d) (ov:=ov) (fv:=fv) (gv:=gv) (uv:=uv) (n:=n) (nv:=nv) o m (Q:=Q) (N:=N) j (i+1) q;have M:ew x i<cf x:=by grind[ew,cf]
  refine b3 @wX.eq_2 @BX.eq_1 (cn aO) ?_;refine bw (Y4 ar aE u) λH1 e=> ?_
  obtain⟨p,i1,i2⟩:=(aL.aB e).int (j:=((ew x i:Nat):Int)) (a:=k.node (ew x i)) ad (by grind[Oo]);have y:=aw.aB e;have s:B<=H1.next:=by have:=e.1;omega
  obtain⟨c,f,r,h,a3,a4,a5⟩:=y.jU (a:=k.node (ew x i)) s al;have K:(H1.push (.row I 1 [[D F (k.node (ew x i))]])).next<=f.next:=by grind[ae.fR]
  have rd:af.beq nv nv=true:=aL.rd;have z:bF (A nv) nv=true:=by simp[bF,rd]
  have pu:=(ek e l).trans a3;have t:((List.range i).map λg=>k.node (ew x g))++[k.node (ew x i)]=(List.range (i+1)).map λg=>k.node (ew x g):=by grind[List.range_succ]
  rw[t]at h;refine bh (mF cQ) (mF (e.get cQ)) i1 i2 @c2 (ag r z) ?_;exact on f c ad ad h ad ((pu.2 W0 m).trans cQ) ((pu.2 zX o).trans aO) (aE.keep λq b aJ g=>⟨aJ,by rw[pu.2 q aJ];exact g⟩) (aL.e3 pu) λc H' E G=>fin c H' E (pu.trans G)
end
end
section
open Go.a_
set_option maxRecDepth 2000
theorem YB{fs:List (List Int)}{r df:List Int}(h:∀c,c∈r↔c∈df):fE fs r=fE fs df:=by
 unfold fE;refine z8 λc _=>⟨λp=>p.mono λd a hm=> .root ((h _).1 hm) a,λp=>p.mono λd a hm=> .root ((h _).2 hm) a⟩
theorem abB(l g:List Nat):og (aQ l) [aQ g]=aQ (pt l g):=by
 unfold og pt aQ;rw[List.filter_map]
 congr 1
 refine List.filter_congr λa _=> ?_
 have h:(∀o∈[List.map (λ(n:Nat)=>(n:Int)) g],((a:Nat):Int)∉o)↔a∉g:=by
  simp only[List.mem_singleton,forall_eq];grind
 grind
section
variable {x:bC}{k:a_.dg}
theorem ajA{f:Nat}{c:bT}{p:Nat}(a:p<=c.vars.length):(oI x k f c).take p=(List.range p).map λv=>k.node (bk x.ay f+v):=by
 unfold oI;rw[<-List.map_take,List.take_range,Nat.min_eq_left a]
theorem acu{f:Nat}{c:bT}(a:c.params.toNat<=c.vars.length):og (aQ (fE k.fields ((oI x k f c).take c.params.toNat++[k.node (eG x f)]))) [aQ (ie x k)]=aQ (mI x k f c):=by
 grind[abB,ajA,mI,YB]
end
end
section
open Go.a_
set_option maxRecDepth 2000
section
variable {H:ae}{ok:Nat->Prop}
theorem ag3(H:ae)(l:List Int)(a:0<l.length):aH aN (H.push (.row I 1 (l.map λn=>[D F n]))) bb l (.az H.next 0 l.length 1 Z):=
 .inr (.inl ⟨H.next,0,Z,I,_,rfl,trivial,ae.a2 _ _,aX,λj x b=>⟨[D F x],al,rfl⟩⟩)
theorem acD{l:List Int}{r:af}(h:aH aN H ok l r)(aC:(r= .ao/\l.length=0)\/∃L i cap ro els,r= .az L i l.length 1 cap/\H.get L=A (.row ro 1 els)/\i+l.length<=els.length/\∀q,cap=A q->l.length<=q){p:Nat}(U:p<=l.length)(S:l.length<=1000000)(z:Int):
  ∃w f d,gu P 30 r Z (A (.int .i64 (p:Nat))) (A (.int .i64 (p:Nat)))=A w/\eA P (H.push (.row I 1 [[.int .i64 z]])) [30,30] w (.az H.next 0 1 1 (A 1))=A (f,d)/\au H d/\(H.push (.row I 1 [[.int .i64 z]])).next<=d.next/\aH aN d bb (l.take p++[z]) f:=by
 have u:P.underlying 30=A (.slice 3):=aF;have O:cE P 3=A 1:=aF;have pp:=au.push H (.row I 1 [[.int .i64 z]]);have E:=ae.a2 H (.row I 1 [[.int .i64 z]]);have one:aH aN (H.push (.row I 1 [[.int .i64 z]])) bb [z] (.az H.next 0 1 1 (A 1)):= .inr (.inl ⟨H.next,0,A 1,I,_,rfl,trivial,E,aX,λj x b=>by
  match j,b with
  |0,b=>cases b;exact⟨_,rfl,rfl⟩⟩)
 rcases aC with⟨rfl,R⟩|⟨L,i,cap,ro,els,rfl,g,aP,aA⟩
 ·have m:p=0:=ad;subst m;have az:gu P 30 .ao Z (A (.int .i64 ((0:Nat):Int))) (A (.int .i64 ((0:Nat):Int)))=A .ao:=aF;obtain⟨f,d,k,n,a3,a4,_⟩:=aY.jU (a:=z) (aY.nil aN H.next bb H) (du _) aX;exact⟨_,f,d,az,k,a3,by grind[ae.fR],by simpa using n.az⟩
 ·have T:l.length<=cap.getD l.length:=by
   cases cap with
   |none=>grind
   |some c=>grind
  have o:dL (A (.int .i64 ((p:Nat):Int))) 0 (cap.getD l.length)=A p:=by
   grind[dL]
  have s:dL (A (.int .i64 ((p:Nat):Int))) 0 p=A p:=by
   grind[dL]
  have t:dL Z 0 p=A 0:=rfl;have M:(l.take p).length=p:=al;have az:gu P 30 (.az L i l.length 1 cap) Z (A (.int .i64 (p:Nat))) (A (.int .i64 (p:Nat)))=A (.az L i (l.take p).length 1 (A (l.take p).length)):=by
   rw[M];simp only[gu,u,O,if_true,o,s,t,Nat.add_zero,Nat.sub_zero]
  have K:aH aN (H.push (.row I 1 [[.int .i64 z]])) ok (l.take p) (.az L i (l.take p).length 1 (A (l.take p).length)):=by
   rcases h with⟨e,_⟩|⟨L',V,Q,N,v,e,ai,B,aM,G⟩|⟨_,_,_,e,aw⟩
   ·cases e
   ·cases e;refine .inr (.inl ⟨L,i,_,N,v,rfl,ai,pp.get B,ad,λj y b=> ?_⟩);rw[List.getElem?_take]at b;split at b
    ·exact G j y b
    grind
   ·subst aw;have m:(([]:List Int).take p)=[]:=aX;rw[m];exact .inr (.inr ⟨L,i,A 0,rfl,rfl⟩)
  obtain⟨f,k,n⟩:=Ud K (pp.get g) ad one aX al;refine⟨_,f,_,az,k,pp.trans (au.push _ _),aX,?_⟩;grind[ag3]
end
end
section
open Go.a_
set_option maxRecDepth 2000
structure qk(x:bC)(k:a_.dg)(zX W0 E i:Nat)(a b cc d:af)(n:Nat)(ov nv fv gv uv:af)(H:ae):Prop where
 aO:H.get zX=some (.row false 5 [[a,b,cc,d,.int .i64 x.main]])
 cQ:H.get W0=some (.row false 11 [gI a b cc d x.main n ov nv fv gv uv])
 aE:cA H (· <W0) x (.agg [a,b,cc,d,.int .i64 x.main])
 aZ:aH aN H (· <W0) (aQ k.of) ov
 aL:aH aN H (· <W0) k.nodes nv
 aA:hI nv
 aC:aH (bu aN) H (· <W0) k.fields fv
 aS:aH aN H (λq=>W0<q/\q<E) (aQ (ie x k)) gv
 hu:aY (bu aN) E (E<= ·) H ((List.range i).map λf=>aQ (dC x k f)) uv
 gl:zX<W0/\W0<E/\E<=H.next
section
variable {x:bC}{k:a_.dg}{zX W0 E i:Nat}{a b cc d:af}{n:Nat}{ov nv fv gv uv:af}{H:ae}
theorem ahZ{v:af}(g:H.get W0=A (.row I 11 [gI a b cc d x.main n ov nv fv gv uv]))(e:v.one=J):cr P H 31 (.ptr W0 0 10) v=A (H.set W0 (.row I 11 [gI a b cc d x.main n ov nv fv gv v])):=by
 have c:=dq e;rw[e4 (n:=1) aF g rfl al al bZ,c];rfl
theorem ah0{v:af}(g:H.get W0=A (.row I 11 [gI a b cc d x.main n ov nv fv gv uv]))(e:v.one=J):cr P H 30 (.ptr W0 0 9) v=A (H.set W0 (.row I 11 [gI a b cc d x.main n ov nv fv v uv])):=by
 have c:=dq e;rw[e4 (n:=1) aF g rfl al al bZ,c];rfl
def E7{m:Int}(g:H.get zX=A (.row I 5 [[a,b,cc,d,D F m]])):aI P H 24 (.ptr zX 0 2)=A cc:=by rw[e0 aF g rfl];rfl
theorem qk.step(s:qk x k zX W0 E i a b cc d n ov nv fv gv uv H){c:ae}{e:af}(p:cl E H c)(hu:aY (bu aN) E (E<= ·) c ((List.range (i+1)).map λf=>aQ (dC x k f)) e):qk x k zX W0 E (i+1) a b cc d n ov nv fv gv e (c.set W0 (.row I 11 [gI a b cc d x.main n ov nv fv gv e])):=by
 obtain⟨j,l2,l⟩:=s.gl;have o:∀q,q≠W0->(c.set W0 (.row I 11 [gI a b cc d x.main n ov nv fv gv e])).get q=c.get q:=(by grind[ae.b8]);have h:dm H (· <W0) (c.set W0 (.row I 11 [gI a b cc d x.main n ov nv fv gv e])) (· <W0):=λq b aJ g=>⟨aJ,by rw[o q ad,p.2 q ad];exact g⟩
 have aL:=p.1;exact⟨by rw[o zX ad,p.2 zX ad];exact s.aO,ae.cH ad,s.aE.keep h,s.aZ.keep h,s.aL.keep h,s.aA,s.aC.keep h,s.aS.keep λq b aJ g=>⟨aJ,by rw[o q ad,p.2 q aJ.2];exact g⟩,hu.keep λq b aJ g=>al,j,l2,by simp;omega⟩
end
end
section
open Go.a_
set_option maxRecDepth 2000
section
variable {x:bC}{k:a_.dg}{zX W0 E:Nat}{a b cc d:af}{n:Nat}{ov nv fv gv:af}
def RX(l:Nat){v:af}(a:v.one=J):gB P l 31 1 [(0,v)]=A (.az l 0 1 1 (A 1),.row I 1 [[v]]):=rH l a
theorem NA(ar:right x=J)(m:hY (cf x) x.sites.length k){N:Nat}:∀(j i q:Nat) (H:ae) (uv:af),i+j=x.ay.length->j<q->qk x k zX W0 E i a b cc d n ov nv fv gv uv H->
  W (wW (aK P aG) N q (.ptr zX 0 0) (.ptr W0 0 0) (D F x.ay.length) (D F i) H) λr H'=>r= .ptr W0 0 0/\(∃uv',qk x k zX W0 E x.ay.length a b cc d n ov nv fv gv uv' H')/\H.next<=H'.next/\∀q,q<E->q≠W0->H'.get q=H.get q
 |_,_,0,_,_,_,aJ,_=>ad
 |0,i,q+1,H,uv,aP,_,s=>by
  have bJ:¬(i:Int)<(x.ay.length:Int):=ad;refine b3 @wW.eq_2 @BW.eq_1 @HK.eq_1 ?_;grind[aD]
 |j+1,i,q+1,H,uv,aP,aJ,s=>by
  have ak:i<x.ay.length:=ad;have S:=ga ar;have a6:=S.sites;have bH:=S.ay;have on:=NA ar m (N:=N) j (i+1) q;have aC:x.ay[i]? =A x.ay[i]:=List.getElem?_eq_getElem ak;generalize x.ay[i]=c at aC;have aj:=ia (S.code aC);obtain⟨a1,bd,bn⟩:=aj.params;have bL:=aj.vars;obtain⟨bM,l2,a_⟩:=s.gl;refine bG @wW.eq_2 @BW.eq_1 ?_;refine cK (ajN ar m s.cQ s.aE s.aL s.aA aC) ?_;rintro bR H1 ⟨v1,h,bq⟩;refine⟨h.1,?_⟩;have aU:=h.get s.aO;refine bP (cn aU) ?_;refine bw (ac9 ar (s.aE.aB h) ak) λQ Y=> ?_
  have e:=h.trans Y;have aV:=e.get s.aO;have aF:=e.get s.cQ;obtain⟨_,a5,bx,bz,bA,d1,ai,av,aw,R,ax⟩:=s.aE;cases a5;simp only[List.cons.injEq,and_true]at ai;obtain⟨rfl,rfl,rfl,rfl⟩:=ai;have aE:cA H (· <W0) x (.agg [a,b,cc,d,D F x.main]):=s.aE;obtain⟨L,li,bC,bD,bk,bQ,bV,b9⟩:=R.o0 (j:=(i:Int)) ad (fA aC);have u:∀{H':ae},au H H'->aI P H' 3 (.ptr L li 0)=A (D F ((c.params.toNat:Nat):Int)):=λp=>al
  have a7:(oI x k i c).length=c.vars.length:=by simp[oI]
  obtain⟨w,bS,bv,s1,s2,bf,bO,gb⟩:=acD (H:=Q) (v1.aB Y) (by
   rw[a7];rcases bq with z|⟨L',a9,cap,ro,els,bs,bt,z3,z4⟩
   ·grind
   ·exact .inr ⟨L',a9,cap,ro,els,bs,Y.get bt,z3,z4⟩) (p:=c.params.toNat) ad ad (k.node (eG x i))
  have bK:eG x i<cf x:=by grind[eG,cf]
  obtain⟨bi,i1,i2⟩:=(s.aL.aB e).int (j:=((eG x i:Nat):Int)) (a:=k.node (eG x i)) ad (by grind[Oo]);refine bh (E7 aV) bk (u e) s1 (mF aF) (ag i1 (ag i2 (ag @c2 s2))) ?_;have M:=e.trans bf;have aM:=M.get s.cQ;refine e2 (SR m a6 aM (s.aC.aB M) gb al) λfy l f1 bg=> ?_
  have O:=M.trans bg;have aR:=O.get s.cQ;have a3:=s.aS.one;have ab:=au.push l (.row I 1 [[gv]]);refine bG (mF aR) (λz0=>RX z0 a3) ?_;have bI:=m.dD;have bE:=m.mi;have ba:∀r,(aQ (fE k.fields r)).length<=60:=λr=>by
   grind[ns,aQ,fE]
  have bc:aH (bu aN) (l.push (.row I 1 [[gv]])) bb [aQ (ie x k)] (.az l.next 0 1 1 (A 1)):= .inr (.inl ⟨l.next,0,A 1,I,_,rfl,trivial,ae.a2 _ _,aX,λj y T=>by
   match j,T with
   |0,T=>cases T;exact⟨[gv],rfl,gv,rfl,((s.aS.aB O).aB ab).any⟩⟩)
  refine cK (abC al aX (λo aZ=>by
   have:=ba ((List.range x.globals.length).map λg=>k.node (ew x g));simp only[List.mem_singleton]at aZ;subst aZ;exact Nat.le_trans this bZ) (f1.az.aB ab) bc) ?_
  rintro t v ⟨B,ap⟩;refine⟨ap.1,?_⟩;rw[acu ad]at B;have aq:dC x k i=mI x k i c:=by grind[dC]
  rw[<-aq]at B;have U:=O.trans ab;have V:=U.trans ap;have a4:H.next<=(l.push (.row I 1 [[gv]])).next:=U.1
  obtain⟨mZ,ah,x1,x2,x3,x4,x5⟩:=aY.sc (K:=bu aN) (ok:=(E<= ·)) (ok':=(E<= ·)) dP s.hu a_ V (a:=aQ (dC x k i)) (cs:=[t]) ⟨t,rfl,(B.kJ fx).keep (.le λq aJ=>Nat.le_trans a4 aJ)⟩ (λq aJ=>ad) al;have bT:(v.push (.row I 1 [[t]])).next<=ah.next:=by grind[ae.fR]
  have br:eA P (v.push (.row I 1 [[t]])) [31,31] uv (.az v.next 0 1 1 (A 1))=A (mZ,ah):=x1;have a0:((List.range i).map λf=>aQ (dC x k f))++[aQ (dC x k i)]=(List.range (i+1)).map λf=>aQ (dC x k f):=by grind[List.range_succ]
  rw[a0]at x2;have aT:=(x3.2 W0 l2).trans s.cQ;have st:=ahZ aT x2.az.one;have bj:=au.push v (.row I 1 [[t]]);have be:=V.trans bj;have aa:=e.trans (au.push Q (.row I 1 [[D F (k.node (eG x i))]]));have bp:bF (A (.agg [a,b,cc,d,D F x.main])) (.agg [a,b,cc,d,D F x.main])=true:=by simp[bF,af.beq,e6.beq,av.rd,aw.rd,R.rd,ax.rd]
  have a8:bF (A cc) cc=true:=by simp[bF,R.rd]
  have bm:bF (A nv) nv=true:=by simp[bF,s.aL.rd]
  have bl:bF (A gv) gv=true:=by simp[bF,s.aS.rd]
  have bo:bF (A uv) uv=true:=by simp[bF,s.hu.az.rd]
  have an:∀{H':ae},au H H'->aI P H' 27 (.ptr zX 0 0)=A (.agg [a,b,cc,d,D F x.main]):=λp=>cn (p.get s.aO)
  have lc:∀{H':ae},au H H'->aI P H' 24 (.ptr zX 0 2)=A cc:=λp=>E7 (p.get s.aO)
  have lw:∀{H':ae},au H H'->aI P H' 30 (.ptr W0 0 7)=A nv/\aI P H' 30 (.ptr W0 0 9)=A gv/\aI P H' 31 (.ptr W0 0 10)=A uv:=λp=>⟨(mF (p.get s.cQ)).2.2.1,(mF (p.get s.cQ)).2.2.2.2.1,(mF (p.get s.cQ)).2.2.2.2.2⟩
  have G:=au.refl H;have bN:aI P Q 3 bi=A (D F (k.node (eG x i))):=i2;simp-implicitDefEqProofs(disch:=try exact aW)only[reduceAdd,reduceLeDiff,reduceIte,bB,lw V,RX _ B.az.one,br,st,an G,an h,lc G,lc h,lc e,lc aa,u G,u h,u e,u aa,lw G,lw h,lw e,lw M,lw O,lw U,lw be,lw aa,i2,bp,a8,bm,bl,bo,fp,Bool.and_self,Bool.and_true,fB (show i<=1000000000 by omega)];refine(on _ mZ ad ad (s.step x3 x2)).mono λr H' z=>⟨z.1,z.2.1,by have:=z.2.2.1;have:=x3.1;simp at*;omega,λq aJ am=>by rw[z.2.2.2 q aJ am,ae.b8 (Ne.symm am),x3.2 q aJ]⟩
end
end
section
open Go.a_
set_option maxRecDepth 2000
section
variable {x:bC}{H:ae}{ok:Nat->Prop}
def ajK(aS:∀g∈x.ay,g.vars.length<=1000000000)(aP:∀c∈x.ay,c.ins.length<=1000000000)(ar:right x=I){V:af}(aE:cA H ok x V):W (aK P aG 38 [V] H) λr H'=>r= .ho/\au H H':=by
 have h:=aE;obtain⟨_,rfl,a,b,cc,d,rfl,ah,ai,ax,aM⟩:=aE;refine P_ 0 ?_;have e:=au.push H (.row I 5 [[a,b,cc,d,D F x.main]]);have f:=ae.a2 H (.row I 5 [[a,b,cc,d,D F x.main]]);refine b3 @BV.eq_1 (dV ah ai ax aM) (cn f) ?_;refine bw (n_ (h.aB e) aS aP) λK p=> ?_
 rw[ar];refine bN ?_;exact aD.2 ⟨rfl,e.trans p⟩
theorem ajL(ar:right x=J){V:af}(aE:cA H ok x V):W (aK P aG 38 [V] H) λr H'=>∃zX W0 E a b cc d n ov nv fv gv uv,r= .ptr W0 0 0/\qk x (a_.hf x) zX W0 E x.ay.length a b cc d n ov nv fv gv uv H'/\au H H':=by
 have w:=aE;have u:=ga ar;have v:=y0 x;obtain⟨_,rfl,a,b,cc,d,rfl,ah,ai,ax,aM⟩:=aE;refine P_ (x.globals.length+x.ay.length+1) ?_;have L:=au.push H (.row I 5 [[a,b,cc,d,D F x.main]]);have i:=ae.a2 H (.row I 5 [[a,b,cc,d,D F x.main]]);refine b3 @BV.eq_1 (dV ah ai ax aM) (cn i) ?_;refine bw (n_ (w.aB L) (pG u) (pH ar)) λK p=> ?_
 rw[ar];refine bP (cn (p.get i)) ?_;refine e2 (KB ar ((w.aB L).aB p)) ?_;rintro _ c ⟨ov,nv,fv,rfl,a1,bd,bn,bI⟩ aV;generalize a6:a_.hf x=k at*;have ab:=p.trans aV;have m:=ab.get i;have aZ:bF (A (.agg [a,b,cc,d,D F x.main])) (.agg [a,b,cc,d,D F x.main])=true:=by simp[bF,af.beq,e6.beq,ah.rd,ai.rd,ax.rd,aM.rd]
 have aj:ei P 76 [(0,.agg [a,b,cc,d,D F x.main]),(1,.agg (a7 k.count ov nv fv))]=A (.agg (gI a b cc d x.main k.count ov nv fv .ao .ao)):=J0;have ak:fj c.next (.agg (gI a b cc d x.main k.count ov nv fv .ao .ao))=A (.ptr c.next 0 0,.row I 11 [gI a b cc d x.main k.count ov nv fv .ao .ao]):=by
  have am:=ah.one;have an:=ai.one;have ap:=ax.one;have aq:=aM.one;have av:=a1.one;have aw:=bd.one;have aA:=bn.one;simp[fj,af.cells,gI,am,an,ap,aq,av,aw,aA];rfl
 have e:=au.push c (.row I 11 [gI a b cc d x.main k.count ov nv fv .ao .ao]);have t:=ae.a2 c (.row I 11 [gI a b cc d x.main k.count ov nv fv .ao .ao]);have aU:∀{H':ae},H'.get H.next=A (.row I 5 [[a,b,cc,d,D F x.main]])->aI P H' 23 (.ptr H.next 0 1)=A b:=λg=>by rw[e0 aF g rfl];rfl
 have aT:∀H0,bE P H0 .len [23] [b]=A (D F x.globals.length):=λH0=>ai.len cS
 refine bh (cn m) aj ak (cn (p.get i)) aZ (ag (aU (e.get m)) aT) ?_;have aL:H.next<c.next:=ae.bq m
 have a4:H.next<K.next:=ae.bq (p.get i)
 have G:=(L.trans ab).trans e;obtain⟨W0,j⟩:∃W0,W0=c.next:=⟨_,rfl⟩
 rw[<-j]at t aL ⊢;have ba:(c.push (.row I 11 [gI a b cc d x.main k.count ov nv fv .ao .ao])).next=W0+1:=by rw[j];simp
 have Q:=e.get m;have U:cA (c.push (.row I 11 [gI a b cc d x.main k.count ov nv fv .ao .ao])) (· <W0) x (.agg [a,b,cc,d,D F x.main]):=w.keep λq b aJ g=>⟨by have:=ae.bq g;omega,G.get g⟩
 have aO:aH aN (c.push (.row I 11 [gI a b cc d x.main k.count ov nv fv .ao .ao])) (· <W0) (aQ k.of) ov:=j▸a1.below.aB e;have T:aH aN (c.push (.row I 11 [gI a b cc d x.main k.count ov nv fv .ao .ao])) (· <W0) k.nodes nv:=j▸bd.below.aB e;have S:aH (bu aN) (c.push (.row I 11 [gI a b cc d x.main k.count ov nv fv .ao .ao])) (· <W0) k.fields fv:=j▸bn.below.aB e;generalize c.push (.row I 11 [gI a b cc d x.main k.count ov nv fv .ao .ao])=s at*;refine NB ar v (zX:=H.next) (W0:=W0) (B:=W0+1) ad ad x.globals.length 0 _ s .ao ad ad (aY.nil aN _ _ _) ad t Q (U.keep (.le λq aJ=>ad)) (T.keep (.le λq aJ=>ad)) ?_
 intro bb M aS f;have N:=(f.2 W0 ad).trans t;have aC:=(f.2 H.next ad).trans Q;have aR:dm s (· <W0) M (· <W0):=λq b (aJ:q<W0) g=>⟨aJ,by rw[f.2 q ad];exact g⟩
 have aP:=u.sites;have a5:=u.globals;refine bP @BY.eq_1 ?_;refine e2 (SR v aP N (S.keep aR) aS.az al) λgv h aa l=> ?_
 have O:=l.get N;have aD:=l.get aC;have st:=ah0 O aa.az.one;have Y:=ae.bq O;have y:∀q,q≠W0->(h.set W0 (.row I 11 [gI a b cc d x.main k.count ov nv fv gv .ao])).get q=h.get q:=λq aJ=>ae.b8 (Ne.symm aJ)
 have R:=(y H.next ad).trans aD;have lc:∀H0,bE P H0 .len [24] [cc]=A (D F x.ay.length):=λH0=>ax.len cD
 refine b3 st (E7 R) lc ?_;have o:dm s (· <W0) (h.set W0 (.row I 11 [gI a b cc d x.main k.count ov nv fv gv .ao])) (· <W0):=λq b (aJ:q<W0) g=>⟨aJ,by rw[y q ad];exact l.get (by rw[f.2 q ad];exact g)⟩
 have a8:=f.1;have a9:=l.1;have a0:qk x k H.next W0 h.next 0 a b cc d k.count ov nv fv gv .ao (h.set W0 (.row I 11 [gI a b cc d x.main k.count ov nv fv gv .ao])):=⟨R,ae.cH Y,U.keep o,aO.keep o,T.keep o,bI,S.keep o,(aa.kJ fx).keep λq b (aJ:M.next<=q) g=>⟨⟨ad,ae.bq g⟩,al⟩,aY.nil (bu aN) _ _ _,ad,Y,aX⟩
 refine(NA ar v x.ay.length 0 _ _ .ao ad ad a0).mono λr H' z=> ?_
 obtain⟨rfl,⟨uv,s1⟩,a3,z3⟩:=z;refine⟨_,_,_,_,_,_,_,_,_,_,_,_,_,rfl,s1,by have:=G.1;simp at a3;omega,λq aJ=> ?_⟩;rw[z3 q ad ad,y q ad,l.2 q ad,f.2 q ad,G.2 q aJ]
end
end
section
open Go.a_
set_option maxRecDepth 2000
section
variable {x:bC}{H:ae}{ok:Nat->Prop}
theorem agB(ar:right x=J){V:af}(aE:cA H ok x V):W (aK P aG 14 [V] H) λr H'=>aH aN H' bb (aQ (ie x (a_.hf x))) r/\au H H':=by
 have f:=aE;obtain⟨_,rfl,a,b,cc,d,rfl,ah,ai,ax,aM⟩:=aE;refine P9 0 ?_;have c:=au.push H (.row I 5 [[a,b,cc,d,D F x.main]]);have e:=ae.a2 H (.row I 5 [[a,b,cc,d,D F x.main]]);refine b3 @A6.eq_1 (dV ah ai ax aM) (cn e) ?_;refine cK (ajL ar (f.aB c)) ?_;rintro _ K ⟨zX,W0,E,b1,b',g,h,n,ov,nv,fv,gv,uv,rfl,s,p⟩;refine⟨p.1,?_⟩;have ne:bx P .neq 73 J (.ptr W0 0 0) .ho=A (C J):=aF;refine bG ne (mF s.cQ) ?_;exact aD.2 ⟨s.aS.any,c.trans p⟩
end
end
section
open Go.a_
set_option maxRecDepth 2000
section
variable {x:bC}{H:ae}{ok:Nat->Prop}
theorem agl(ar:right x=J){V:af}(aE:cA H ok x V):W (aK P aG 11 [V] H) λr H'=>hX H' bb (a_.hf x) r/\au H H':=by
 have p:=aE;have G:=ga ar;obtain⟨_,rfl,a,b,cc,d,rfl,ah,ai,ax,aM⟩:=aE;refine P8 0 ?_;obtain⟨zX,f⟩:∃zX,zX=H.next:=⟨_,rfl⟩
 have N:=au.push H (.row I 5 [[a,b,cc,d,D F x.main]]);have z:=ae.a2 H (.row I 5 [[a,b,cc,d,D F x.main]]);have u:=au.push (H.push (.row I 5 [[a,b,cc,d,D F x.main]])) (.row I 4 [a7 0 .ao .ao .ao]);have m:=ae.a2 (H.push (.row I 5 [[a,b,cc,d,D F x.main]])) (.row I 4 [a7 0 .ao .ao .ao]);have h:=u.get z;have v:(H.push (.row I 5 [[a,b,cc,d,D F x.main]])).next=zX+1:=by rw[f];simp
 have Q:∀(k:af->ae->O),e5 (H.push (.row I 5 [[a,b,cc,d,D F x.main]])) [D F 0,.ao,.ao,.ao] k=k (.ptr (zX+1) 0 0) ((H.push (.row I 5 [[a,b,cc,d,D F x.main]])).push (.row I 4 [a7 0 .ao .ao .ao])):=λk=>by rw[iL,iN,v];rfl
 rw[v]at m;rw[<-f]at h;simp only[Av,dV ah ai ax aM,kM,Q,<-f];have j:=N.trans u;generalize E:(H.push (.row I 5 [[a,b,cc,d,D F x.main]])).push (.row I 4 [a7 0 .ao .ao .ao])=w at*;have S:w.next=zX+2:=by rw[<-E];simp[f]
 refine bP (cn h) ?_;refine bw (n_ (p.aB j) (pG G) (pH ar)) λl e=> ?_
 rw[ar];have B:=e.get h;refine bP (cn B) ?_;refine e2 (KB ar (p.aB (j.trans e))) ?_;rintro _ c ⟨ov,nv,fv,rfl,a1,bd,bn,bI⟩ t;have o:=(e.trans t).get m;generalize a_.hf x=k at*;have st:=i_ (n:=k.count) o rfl a1.one bd.one bn.one;have K:=ae.bq o;have y:(c.set (zX+1) (.row I 4 [a7 k.count ov nv fv])).get (zX+1)=A (.row I 4 [a7 k.count ov nv fv]):=ae.cH K;have M:∀q,q≠zX+1->(c.set (zX+1) (.row I 4 [a7 k.count ov nv fv])).get q=c.get q:=λq aJ=>ae.b8 (Ne.symm aJ)
 refine bG st (iE y) ?_;have R:=e.1;have i:dm c (λL=>l.next<=L) (c.set (zX+1) (.row I 4 [a7 k.count ov nv fv])) bb:=λq b (aJ:l.next<=q) g=>⟨trivial,al⟩
 have s:=j.trans (e.trans t);exact aD.2 ⟨⟨_,_,_,rfl,a1.keep i,bd.keep i,bn.keep i,bI⟩,by have:=s.1;simpa using this,λq aJ=>by rw[M q ad,s.2 q aJ]⟩
end
end
section
open Go.a_
set_option maxRecDepth 2000
def e9(a b cc d:af)(ha:Int)(n:Nat)(ov nv fv gv uv d_ b5:af):List af:=[a,b,cc,d,D F ha,D F (n:Nat),ov,nv,fv,gv,uv,d_,b5]
section
variable {x:bC}{k:a_.dg}{zX W0:Nat}{a b cc d ov nv fv gv uv d_ b5:af}{ha:Int}{n:Nat}{H:ae}
def gQ(g:H.get W0=A (.row I 13 [e9 a b cc d ha n ov nv fv gv uv d_ b5])):aI P H 24 (.ptr W0 0 2)=A cc/\aI P H 30 (.ptr W0 0 6)=A ov/\aI P H 30 (.ptr W0 0 7)=A nv/\aI P H 31 (.ptr W0 0 8)=A fv/\aI P H 30 (.ptr W0 0 9)=A gv/\aI P H 31 (.ptr W0 0 10)=A uv/\aI P H 31 (.ptr W0 0 11)=A d_/\aI P H 31 (.ptr W0 0 12)=A b5:=by
 refine⟨?_,?_,?_,?_,?_,?_,?_,?_⟩<;>(rw[e0 aF g rfl];rfl)
theorem ahF{v:af}(g:H.get W0=A (.row I 13 [e9 a b cc d ha n ov nv fv gv uv d_ b5]))(e:v.one=J):cr P H 30 (.ptr W0 0 9) v=A (H.set W0 (.row I 13 [e9 a b cc d ha n ov nv fv v uv d_ b5])):=by
 have c:=dq e;rw[e4 (n:=1) aF g rfl al al bZ,c];rfl
theorem ahC{v:af}(g:H.get W0=A (.row I 13 [e9 a b cc d ha n ov nv fv gv uv d_ b5]))(e:v.one=J):cr P H 31 (.ptr W0 0 10) v=A (H.set W0 (.row I 13 [e9 a b cc d ha n ov nv fv gv v d_ b5])):=by
 have c:=dq e;rw[e4 (n:=1) aF g rfl al al bZ,c];rfl
theorem ahD{v:af}(g:H.get W0=A (.row I 13 [e9 a b cc d ha n ov nv fv gv uv d_ b5]))(e:v.one=J):cr P H 31 (.ptr W0 0 11) v=A (H.set W0 (.row I 13 [e9 a b cc d ha n ov nv fv gv uv v b5])):=by
 have c:=dq e;rw[e4 (n:=1) aF g rfl al al bZ,c];rfl
theorem ahE{v:af}(g:H.get W0=A (.row I 13 [e9 a b cc d ha n ov nv fv gv uv d_ b5]))(e:v.one=J):cr P H 31 (.ptr W0 0 12) v=A (H.set W0 (.row I 13 [e9 a b cc d ha n ov nv fv gv uv d_ v])):=by
 have c:=dq e;rw[e4 (n:=1) aF g rfl al al bZ,c];rfl
structure fI(x:bC)(k:a_.dg)(zX W0:Nat)(a b cc d:af)(ov nv fv gv uv d_ b5:af)(H:ae):Prop where
 aO:H.get zX=some (.row false 5 [[a,b,cc,d,.int .i64 x.main]])
 cQ:H.get W0=some (.row false 13 [e9 a b cc d x.main k.count ov nv fv gv uv d_ b5])
 aE:cA H (· <W0) x (.agg [a,b,cc,d,.int .i64 x.main])
 aZ:aH aN H (· <W0) (aQ k.of) ov
 aL:aH aN H (· <W0) k.nodes nv
 aC:aH (bu aN) H (· <W0) k.fields fv
 jm:zX<W0
def fI.lt(s:fI x k zX W0 a b cc d ov nv fv gv uv d_ b5 H):W0<H.next:=ae.bq s.cQ
def fI.e3{H':ae}{B:Nat}(s:fI x k zX W0 a b cc d ov nv fv gv uv d_ b5 H)(p:cl B H H')(f:W0<B):fI x k zX W0 a b cc d ov nv fv gv uv d_ b5 H':=by
 have e:dm H (· <W0) H' (· <W0):=λq c (aJ:q<W0) g=>⟨aJ,by rw[p.2 q ad];exact g⟩
 have:=s.jm;exact⟨(p.2 zX ad).trans s.aO,(p.2 W0 f).trans s.cQ,s.aE.keep e,s.aZ.keep e,s.aL.keep e,s.aC.keep e,s.jm⟩
theorem fI.aB{H':ae}(s:fI x k zX W0 a b cc d ov nv fv gv uv d_ b5 H)(p:au H H'):fI x k zX W0 a b cc d ov nv fv gv uv d_ b5 H':=s.e3 (ek p ad) s.lt
theorem fI.set{gv' uv' tv' wv':af}(s:fI x k zX W0 a b cc d ov nv fv gv uv d_ b5 H):fI x k zX W0 a b cc d ov nv fv gv' uv' tv' wv' (H.set W0 (.row I 13 [e9 a b cc d x.main k.count ov nv fv gv' uv' tv' wv'])):=by
 have o:∀q,q≠W0->(H.set W0 (.row I 13 [e9 a b cc d x.main k.count ov nv fv gv' uv' tv' wv'])).get q=H.get q:=(by grind[ae.b8]);have e:dm H (· <W0) (H.set W0 (.row I 13 [e9 a b cc d x.main k.count ov nv fv gv' uv' tv' wv'])) (· <W0):=λq c (aJ:q<W0) g=>al
 have:=s.jm;exact⟨by rw[o zX ad];exact s.aO,ae.cH s.lt,s.aE.keep e,s.aZ.keep e,s.aL.keep e,s.aC.keep e,s.jm⟩
theorem SX{nn m:Nat}(h:hY nn m k)(hm:m<=60){g:List Nat}{lv:af}(M:g.length<=900000)(z:∀v∈g,v<nn){B:Nat}(y:W0<B){N:Nat}:∀(j i q:Nat) (H:ae) (rv:af),i+j=g.length->j<q->fI x k zX W0 a b cc d ov nv fv gv uv d_ b5 H->aH aN H (· <B) (aQ g) lv->B<=H.next->aY aN B bb H ((g.take i).map k.node) rv->
  W (xV (aK P aG) N q (.ptr W0 0 0) lv rv (D F (i:Nat)) H) λr H'=>aY aN B bb H' (aQ (fE k.fields (g.map k.node))) r/\cl B H H'
 |_,_,0,_,_,_,aJ,_,_,_,_=>ad
 |0,i,q+1,H,rv,aP,_,s,aw,t,ar=>by
  have Y:¬(i:Int)<(g.length:Int):=ad;have u:∀H0,bE P H0 .len [30] [lv]=A (D F g.length):=λH0=>by rw[aw.len b0,g1]
  have w:eB (.ptr W0 0 0)=A (.ptr W0 0 0):=rfl;refine bh @xV.eq_2 @CX.eq_1 @Ic.eq_1 u w (gQ s.cQ) ?_;rw[List.take_of_length_le ad]at ar;refine cK (PE s.aC ar.az (by have:=h.dD;have:=h.mi;omega) (λf aC=>by have:=h.f8 f aC;omega) al) ?_;rintro r H1 ⟨l,o⟩;refine⟨o.1,aD.2 ⟨⟨l.eL,λL n c e=>by have:=l.low L n c e;omega⟩,ek o t⟩⟩
 |j+1,i,q+1,H,rv,aP,aJ,s,aw,t,ar=>by
  have O:i<g.length:=ad;have u:∀H0,bE P H0 .len [30] [lv]=A (D F g.length):=λH0=>by rw[aw.len b0,g1]
  have w:eB (.ptr W0 0 0)=A (.ptr W0 0 0):=rfl;have ah:=z _ (List.getElem_mem O);have aa:g[i]<k.nodes.length:=by rw[h.nl];omega
  obtain⟨ai,Q,R⟩:=aw.int (j:=(i:Int)) (a:=(g[i]:Int)) ad (by grind[lj,List.getElem?_eq_getElem]);have ab:k.nodes[g[i]]? =A (k.node g[i]):=by grind[dg.node]
  obtain⟨aj,S,T⟩:=s.aL.int (j:=(g[i]:Int)) (a:=k.node g[i]) ad al;have on:=SX (lv:=lv) h hm M z y (N:=N) j (i+1) q;have iJ:(g.take (i+1)).map k.node=(g.take i).map k.node++[k.node g[i]]:=by grind[List.take_succ_eq_append_getElem]
  rw[iJ]at on;obtain⟨U,H',E,G,p,K,_⟩:=ar.jU (a:=k.node g[i]) t al;have hle:H.next+1<=H'.next:=K
  refine bh @xV.eq_2 @CX.eq_1 u w (gQ s.cQ) (ag Q (ag R (ag S (ag T (ag @c2 E))))) ?_;refine(on H' U ad ad (s.e3 p y) (aw.e3 p) ad G).mono ?_;rintro r V ⟨l,o⟩;exact⟨l,p.trans o⟩
def IQ{nn m:Nat}{ok:Nat->Prop}(f:hY nn m k)(hm:m<=60){c:List Nat}{lv:af}(e:c.length<=900000)(g:∀v∈c,v<nn)(s:fI x k zX W0 a b cc d ov nv fv gv uv d_ b5 H)(aw:aH aN H ok (aQ c) lv):
  W (aK P aG 87 [.ptr W0 0 0,lv] H) λr H'=>aY aN H.next bb H' (aQ (fE k.fields (c.map k.node))) r/\au H H':=by
 refine afF (c.length+1) ?_;rw[Rr];refine(SX f hm e g s.lt c.length 0 _ H .ao ad ad s aw.below Nat.le.refl (aY.nil _ _ _ _)).mono ?_;rintro r H' ⟨h,i⟩;exact⟨h,i.aB⟩
theorem aj1{ok y z:Nat->Prop}{f:Nat}{l g:List Int}{us:List (List Int)}{lv:af}(s:fI x k zX W0 a b cc d ov nv fv gv uv d_ b5 H)(aw:aH aN H ok l lv)(aS:aH aN H y g gv)(hu:aH (bu aN) H z us uv){u:List Int}(aC:us[f]? =A u)(t:l.length<=1000000)(R:g.length<=1000000)(S:u.length<=1000000):
  W (aK P aG 92 [.ptr W0 0 0,D F (f:Nat),lv] H) λr H'=>aY aN H.next bb H' (hN (hN l g) u) r/\au H H':=by
 refine afL 0 ?_;have o:eB (.ptr W0 0 0)=A (.ptr W0 0 0):=rfl;refine b3 @Rw.eq_1 o (gQ s.cQ) ?_;refine e2 (F6 aw aS t ad) λU H1 v h=> ?_
 have s1:=s.aB h;obtain⟨L,i,ro,els,cs,E,_,G,M,w,rfl,q⟩:=hu.at_ (K:=bu aN) dP (j:=(f:Int)) (a:=u) ad al;have lw:∀{H':ae},au H H'->aI P H' 30 (.ptr L i 0)=A w:=λp=>by rw[e0 yn (p.get G) M];rfl
 have T:(hN l g).length<=l.length:=List.length_filter_le _ _;refine cv o (gQ s1.cQ) E (lw h) ?_;refine e2 (F6 v.az (q.aB h) ad ad) λV Q m B=> ?_
 have N:bF (A uv) uv=true:=dF hu;have O:bF (A w) w=true:=dF q;refine bh (gQ s.cQ) (gQ s1.cQ) (lw h) (lw (au.refl H)) N O ?_;have aL:=h.1;exact aD.2 ⟨⟨m.eL,λL n c e=>by have:=m.low L n c e;omega⟩,h.trans B⟩
theorem aj0{ok S:Nat->Prop}(Q:ez x){m:Nat}(u:hY (cf x) x.sites.length k)(hm:m<=60){f:Nat}{co:bT}{i:In}{wi:af}(aC:x.ay[f]? =A co)(E:dY x f co i=J)(hw:aH aN H ok i.args wi)(s:fI x k zX W0 a b cc d ov nv fv gv uv d_ b5 H)(hu:aH (bu aN) H S ((List.range x.ay.length).map λf=>aQ (dC x k f)) uv):
  W (aK P aG 91 [.ptr W0 0 0,.agg (cm i wi)] H) λr H'=>aH aN H' bb (aQ (hO x k i)) r/\au H H':=by
 refine afK 0 ?_;have K:eB (.ptr W0 0 0)=A (.ptr W0 0 0):=rfl;have l:=au.push H (.row I 6 [cm i wi]);have U:(H.push (.row I 6 [cm i wi])).get H.next=A (.row I 6 [[D F i.op,D F i.a,D F i.b,D F i.c,D F i.n,wi]]):=ae.a2 _ _
 refine bG @Rv.eq_1 (dn hw) ?_;have p:=s.aB l;have R:=hu.aB l;generalize H.push (.row I 6 [cm i wi])=H0 at*;generalize H.next=zI at*
 have v:=f_ U;have site:∀n:Int,0<=n->n.toNat<x.sites.length->(aQ k.of)[n.toNat]? =A (k.site n):=λn y ah=>by
  have aw:n.toNat<k.of.length:=by rw[u.FE];omega
  grind[dg.site,aQ]
 have alloc:0<=i.n->i.n.toNat<x.sites.length->(i.op=11\/i.op=12)->W (yb (aK P aG) (.ptr W0 0 0) (.ptr zI 0 0) (D F i.op) (C J) H0) λr H'=>aH aN H' bb (aQ (hO x k i)) r/\au H H':=by
  intro y ah aZ;obtain⟨an,T,V⟩:=p.aZ.int (j:=i.n) (a:=k.site i.n) y (site _ y ah);have L:=au.push H0 (.row I 1 [[D F (k.site i.n)]]);have M:=p.aB L;refine bh @yb.eq_1 K (gQ p.cQ) (o U) T (ag V @c2) ?_;refine e2 (PE M.aC (hc H0 bb trivial (k.site i.n)) (by have:=u.dD;have:=u.mi;have:=Q.sites;omega) (λf aC=>by have:=u.f8 f aC;omega) aX) λr H1 aj ak=> ?_
  have ad:bF (A fv) fv=true:=dF s.aC;refine b3 (gQ p.cQ) (gQ M.cQ) ad ?_;have e:hO x k i=fE k.fields [k.site i.n]:=if_pos aZ;rw[e];exact aD.2 ⟨aj.az,(l.trans L).trans ak⟩
 by_cases z:i.op=11
 ·have t:∀j:Int,(i.op==j)=(11==j):=λj=>al
  have h:=nc (rJ z E).2;have:=alloc h.1 h.2.1 (.inl z);simp-implicitDefEqProofs(disch:=try exact aW)only[reduceAdd,reduceLeDiff,reduceIte,bB,v,t,Int.reduceBEq];omega
 have N:(i.op==11)=false:=beq_eq_false_iff_ne.2 z;by_cases B:i.op=12
 ·have t:∀j:Int,(i.op==j)=(12==j):=λj=>al
  have h:=nc (rK B E).2;have:=alloc h.1 h.2.1 (.inr B);simp-implicitDefEqProofs(disch:=try exact aW)only[reduceAdd,reduceLeDiff,reduceIte,bB,v,t,Int.reduceBEq];omega
 have O:(i.op==12)=false:=beq_eq_false_iff_ne.2 B;by_cases G:i.op=13
 ·obtain⟨g,aS⟩:=oD G E;have am:=(List.getElem?_eq_some_iff.1 aS.at_.2).1;have t13:(i.op==13)=true:=al;obtain⟨q,w,Y,aa,ab⟩:=R.list (j:=i.c) (a:=aQ (dC x k i.c.toNat)) aS.at_.1 al;refine bh @yb.eq_1 v N O t13 (ag K (ag (gQ p.cQ) (ag (o U) (ag Y aa)))) ?_;have e:hO x k i=dC x k i.c.toNat:=by grind[hO]
  rw[e];exact aD.2 ⟨ab.any,l⟩
 ·have ai:(i.op==13)=false:=beq_eq_false_iff_ne.2 G;refine bh @yb.eq_1 @C4.eq_1 v N O ai ?_;have e:hO x k i=[]:=by grind[hO]
  rw[e];exact aD.2 ⟨.nil,l⟩
end
end
end Go.Proofs.YtmhhnnklfcbgfaaGreat
namespace Go.a_
open Go.cw
section
open Classical
section
variable {n m:Nat}{l:List bp}{R:Nat->Nat->Prop}
end
def abq{l r:List Nat}{a:Nat}:a∈pt l r↔a∈l/\a∉r:=by simp[pt]
end
section
open Classical
theorem FU:∀{r l:List Int},l.length<=(gZ l r).length
 |[],_=>du _
 |a::r,l=>Nat.le_trans (Pg (v:=a)) (FU (r:=r))
def Pm:∀{r l:List Int},fL l->(gZ l r).length=l.length->(∀a∈r,a∈l)/\gZ l r=l
 |[],_,_,_=>⟨λa h=>by grind,rfl⟩
 |a::r,l,ar,h=>by
  have ah:=FU (r:=r) (l:=gH l a);rw[gZ]at h;have b:a∈l:=by
   apply Classical.byContradiction;intro aL;have:=Pj aL;omega
  have e:=Ph ar b;rw[e]at h;obtain⟨i1,i2⟩:=Pm (r:=r) ar h;grind[gZ]
def kb(k:dg)(tl:Nat->List Int)(i:In):List Int:=if i.op=11\/i.op=12 then[k.site i.n]else if i.op=13 then tl i.c.toNat else[]
def mr(out l:List Int):List Int:=l.filter λa=>decide (a∈out)
theorem Fh{out l:List Int}{a:Int}:a∈mr out l↔a∈l/\a∈out:=by simp[mr]
def k_(k:dg)(tl:Nat->List Int)(out:List Int):List In->List Int->List Int
 |[],cur=>cur
 |i::is,cur=>k_ k tl out is (gZ cur (mr out (kb k tl i)))
theorem zQ(k:dg)(tl:Nat->List Int)(out:List Int):∀(is:List In) (cur:List Int),k_ k tl out is cur=gZ cur (is.flatMap λi=>mr out (kb k tl i))
  |[],_=>rfl
  |i::is,cur=>by
   rw[k_,zQ k tl out is,List.flatMap_cons];exact(d _ _ _).symm
 where d:∀(a b l:List Int),gZ l (a++b)=gZ (gZ l a) b
  |[],_,_=>rfl
  |c::a,b,l=>by exact d a b _
def adi{k:dg}{tl:Nat->List Int}{out:List Int}{is:List In}{cur:List Int}(h:fL cur):fL (k_ k tl out is cur):=by
 grind[zQ,vl]
def NR{k:dg}{tl:Nat->List Int}{out:List Int}{is:List In}{cur:List Int}{a:Int}:a∈k_ k tl out is cur↔a∈cur\/∃i∈is,a∈kb k tl i/\a∈out:=by
 grind[zQ,zO,Fh]
structure jF(x:bC)(k:dg)(tl:Nat->List Int):Prop where
 sV:∀f,fL (tl f)
 snd:∀f,∀a∈tl f,∃c:Nat,a=c/\c<k.count/\m9 x k f c
theorem jF.start(x:bC)(k:dg):jF x k λ_=>[]:=⟨λ_=>List.Pairwise.nil,λf a h=>by grind⟩
def jF.len{x:bC}{k:dg}{tl:Nat->List Int}(h:jF x k tl)(f:Nat):(tl f).length<=k.count:=Ai (h.sV f) λa b=>by
 obtain⟨c,rfl,ah,_⟩:=h.snd f a b;omega
def FM{x:bC}{k:dg}{f c:Nat}(h:c∈dC x k f):c<k.fields.length:=by
 unfold dC at h;split at h
 ·have ah:=(abq.1 h).1;exact(g_.1 ah).1
 grind
def jF.now{x:bC}{k:dg}{tl:Nat->List Int}(h:jF x k tl)(g:k.fields.length=k.count){f:Nat}{co:bT}(aC:x.ay[f]? =A co):∀a∈k_ k tl ((dC x k f).map λ(n:Nat)=>(n:Int)) co.ins (tl f),∃c:Nat,a=c/\c<k.count/\m9 x k f c:=by
 intro a d;rcases NR.1 d with ah|⟨i,aP,ah,ai⟩
 ·exact h.snd f a ah
 ·obtain⟨c,aA,rfl⟩:=List.mem_map.1 ai;refine⟨c,rfl,g▸FM aA,?_⟩;unfold kb at ah;split at ah
  ·rename_i aZ;simp only[List.mem_singleton]at ah;exact .site aC aP aZ ah.symm aA
  ·split at ah
   ·rename_i aZ;obtain⟨b,e,_,ba⟩:=h.snd _ _ ah;obtain rfl:c=b:=by omega
    exact .call aC aP aZ ba aA
   grind
def nJ(tl:Nat->List Int)(f:Nat)(l:List Int):Nat->List Int:=λg=>if g=f then l else tl g
theorem jF.dG{x:bC}{k:dg}{tl:Nat->List Int}(h:jF x k tl){f:Nat}{l:List Int}(ar:fL l)(b:∀a∈l,∃c:Nat,a=c/\c<k.count/\m9 x k f c):jF x k (nJ tl f l):=by
 refine⟨λg=> ?_,λg=> ?_⟩
 ·unfold nJ;split
  ·omega
  ·exact h.sV g
 ·unfold nJ;split
  ·grind
  ·exact h.snd g
def kq(tl:Nat->List Int):Nat->Nat
 |0=>0
 |f+1=>kq tl f+(tl f).length
def Ek{tl:Nat->List Int}{m:Nat}(h:∀f,(tl f).length<=m):∀n,kq tl n<=n*m
 |0=>by simp[kq]
 |f+1=>by
  have:=Ek h f;grind[kq]
theorem El{tl:Nat->List Int}{f:Nat}{l:List Int}(h:(tl f).length<l.length):∀n,kq tl n<=kq (nJ tl f l) n/\(f<n->kq tl n<kq (nJ tl f l) n)
 |0=>⟨du _,(by omega)⟩
 |g+1=>by
  have a:=El h g;grind[kq,nJ]
structure m8(n:Nat)(t:Bool)(tl:Nat->List Int)(b:Bool)(a:Nat->List Int):Prop where
 le:kq tl n<=kq a n
 on:b=true->t=true\/kq tl n<kq a n
 off:b=false->t=false/\a=tl
theorem m8.refl(n:Nat)(t:Bool)(tl:Nat->List Int):m8 n t tl t tl:=⟨(by omega),.inl,λh=>⟨h,rfl⟩⟩
theorem m8.trans{n:Nat}{t j l:Bool}{B f g:Nat->List Int}(h:m8 n t B j f)(k:m8 n j f l g):m8 n t B l g:=
 ⟨Nat.le_trans h.le k.le,λe=>by
  rcases k.on e with i|i
  ·rcases h.on i with m|m
   ·grind
   ·exact .inr (by have:=k.le;omega)
  ·exact .inr (by have:=h.le;omega),λe=>by
  obtain⟨a,b⟩:=k.off e;obtain⟨c,d⟩:=h.off a;grind⟩
theorem m8.dG{n f:Nat}{t:Bool}{tl:Nat->List Int}{l:List Int}(aC:f<n)(h:(tl f).length<l.length):m8 n t tl J (nJ tl f l):=
 ⟨(El h n).1,(by grind[El]),λe=>by cases e⟩
def t_(x:bC)(k:dg)(tl:Nat->List Int)(f:Nat):Prop:=∀co,x.ay[f]? =A co->∀i∈co.ins,∀a∈kb k tl i,a∈((dC x k f).map λ(n:Nat)=>(n:Int))->a∈tl f
def jF.end{x:bC}{k:dg}{tl:Nat->List Int}(h:jF x k tl)(b:k.fields.length=k.count)(aA:∀f,f<x.ay.length->t_ x k tl f)(f:Nat):tl f=(yo x k f).map λ(n:Nat)=>(n:Int):=by
 have key:∀{f c},m9 x k f c->(c:Int)∈tl f:=by
  intro f c ba
  induction ba with
  |site ah aP aZ d a=>
   refine aA _ (by grind) _ ah _ aP _ ?_ (by grind);grind[kb]
  |call ah aP aZ _ a e=>
   refine aA _ (by grind) _ ah _ aP _ ?_ (by grind);grind[kb]
 exact F3 (h.sV f) (h.snd f) λn _ aL=>key aL
def abA(l g:List Nat):hN (l.map λ(n:Nat)=>(n:Int)) (g.map λ(n:Nat)=>(n:Int))=(pt l g).map λ(n:Nat)=>(n:Int):=by
 grind[hN,pt,List.filter_congr]
def lD(cur:List Int):List (List Int)->List Int
 |[]=>cur
 |l::ls=>lD (sj cur l) ls
def NQ{a:Int}:∀{ls:List (List Int)} {cur:List Int},a∈lD cur ls↔a∈cur\/∃l∈ls,a∈l
 |[],cur=>by simp[lD]
 |l::ls,cur=>by
  rw[lD,NQ (ls:=ls),NP];grind
def PN:∀{ls:List (List Int)} {cur:List Int},fL cur->fL (lD cur ls)
 |[],_,h=>h
 |l::ls,cur,_=>PN (ls:=ls) (PM cur l)
def acw{x:bC}{k:dg}{f:Nat}{co:bT}(c:x.ay[f]? =A co)(l:List Int)(ar:fL l)(hm:∀a,a∈l↔∃n:Nat,a=n/\(g4 k.fields ((List.range co.vars.length).map λv=>k.node (bk x.ay f+v)) n\/∃i∈co.ins,n∈hO x k i)):
  hN (hN l ((ie x k).map λ(n:Nat)=>(n:Int))) ((mI x k f co).map λ(n:Nat)=>(n:Int))=(z2 x k f co).map λ(n:Nat)=>(n:Int):=by
 have e:∀{g:List Nat} {n:Nat},((n:Nat):Int)∈(g.map λ(n:Nat)=>(n:Int))↔n∈g:=by
  grind
 have d:∀n:Nat,(g4 k.fields ((List.range co.vars.length).map λv=>k.node (bk x.ay f+v)) n\/∃i∈co.ins,n∈hO x k i)->n<k.fields.length:=by
  rintro n (h|⟨i,_,h⟩)
  ·cases h with
   |root _ aA=>omega
   |step _ _ _ aw=>omega
  ·unfold hO at h;split at h
   ·exact(g_.1 h).1
   ·split at h
    ·exact FM h
    grind
 refine F3 (PR (PR ar)) (λa b=> ?_) λn aL j=> ?_
 ·obtain⟨ah,ai⟩:=Fi.1 b;grind[Fi]
 grind[Fi]
end
end Go.a_
namespace Go.Proofs.YtmhhnnklfcbgfaaGreat
open Go.cw
open Nat (reduceAdd reduceLeDiff)
section
open Go.a_
set_option maxRecDepth 2000
section
variable {x:bC}{k:a_.dg}{zX W0 T E:Nat}{a b cc d ov nv fv gv uv b5:af}
structure r1(n T:Nat)(tl:Nat->List Int)(dv:Nat->af)(H:ae):Prop where
 g:H.get T=some (.row false 1 ((List.range n).map λf=>[dv f]))
 aw:∀f,f<n->aH aN H (T< ·) (tl f) (dv f)/\hI (dv f)
theorem r1.aB{n:Nat}{tl:Nat->List Int}{dv:Nat->af}{H H':ae}(s:r1 n T tl dv H)(p:au H H'):r1 n T tl dv H':=⟨p.get s.g,λf aC=>⟨(s.aw f aC).1.aB p,(s.aw f aC).2⟩⟩
theorem r1.at_{n:Nat}{tl:Nat->List Int}{dv:Nat->af}{H:ae}(s:r1 n T tl dv H){f:Nat}(aC:f<n):ct P 31 (.az T 0 n 1 (A n)) (D F (f:Nat))=A (.ptr T f 0)/\aI P H 30 (.ptr T f 0)=A (dv f):=by
 refine⟨nj dP aC,?_⟩;rw[e0 yn s.g (e:=[dv f]) al];rfl
structure kT(x:bC)(k:a_.dg)(zX W0 T E:Nat)(a b cc d ov nv fv gv uv b5:af)(tl:Nat->List Int)(dv:Nat->af)(H:ae):Prop where
 aV:fI x k zX W0 a b cc d ov nv fv gv uv (.az T 0 x.ay.length 1 (some x.ay.length)) b5 H
 hu:aH (bu aN) H (λq=>W0<q/\q<E) ((List.range x.ay.length).map λf=>aQ (dC x k f)) uv
 iJ:r1 x.ay.length T tl dv H
 gl:W0<E/\E<=T
theorem kT.aB{tl:Nat->List Int}{dv:Nat->af}{H H':ae}(s:kT x k zX W0 T E a b cc d ov nv fv gv uv b5 tl dv H)(p:au H H'):kT x k zX W0 T E a b cc d ov nv fv gv uv b5 tl dv H':=⟨s.aV.aB p,s.hu.aB p,s.iJ.aB p,s.gl⟩
theorem Ss{tl:Nat->List Int}{dv:Nat->af}{f:Nat}(aC:f<x.ay.length)(B:(dC x k f).length<=1000000){H0:ae}(t:kT x k zX W0 T E a b cc d ov nv fv gv uv b5 tl dv H0){x2 x5 x6 lv:af}{l:List Int}{okl:Nat->Prop}(n:aH aN H0 okl l lv)(y:l.length<=10000000){L0:af->af->ae->O}{L1:af->af->af->ae->O}{L4:af->af->af->af->af->af->ae->O}{Q:af->ae->Prop}{N:Nat}:∀(j i q:Nat) (H:ae) (cur:List Int) (c:af),i+j=l.length->j<q->au H0 H->aH aN H (T< ·) cur c->hI c->cur.length<=10000000+i->
  (∀(H':ae) (h:af),au H0 H'->aH aN H' (T< ·) (gZ cur (mr (aQ (dC x k f)) (l.drop i))) h->hI h->W (nE (aK P aG) N L0 L1 L4 (.ptr W0 0 0) x2 (D F (f:Nat)) h x5 x6 H') Q)->
  W (x0 (aK P aG) N L0 L1 L4 q (.ptr W0 0 0) x2 (D F (f:Nat)) c x5 x6 lv (D F (i:Nat)) H) Q
 |_,_,0,_,_,_,_,aJ,_,_,_,_,_=>ad
 |0,i,q+1,H,cur,c,aP,_,p,aA,m,v,fin=>by
  have aw:=n.aB p;have U:¬(i:Int)<(l.length:Int):=ad;refine b3 @x0.eq_2 @C1.eq_1 (aw.bg b0) ?_;rw[List.drop_of_length_le ad]at fin;exact fin H c p aA m
 |j+1,i,q+1,H,cur,c,aP,aJ,p,aA,m,v,fin=>by
  have aw:=n.aB p;have s:=t.aB p;have z:i<l.length:=ad;have G:eB (.ptr W0 0 0)=A (.ptr W0 0 0):=rfl;obtain⟨V,o,r⟩:=aw.int (j:=(i:Int)) (a:=l[i]) ad al;obtain⟨Y,w,K,L,M⟩:=s.hu.list (j:=(f:Int)) (a:=aQ (dC x k f)) ad al;have u:=fB (show i<=1000000000 by omega);have on:=Ss aC B t (x2:=x2) (x5:=x5) (x6:=x6) n y (L0:=L0) (L1:=L1) (L4:=L4) (Q:=Q) (N:=N) j (i+1) q;have dO:T<H.next:=ae.bq s.iJ.g
  rw[List.drop_eq_getElem_cons z]at fin;refine bh @x0.eq_2 @C1.eq_1 (aw.bg b0) G (gQ s.aV.cQ) (ag K (ag L (ag o r))) ?_;refine dK (PK M (by rw[g1];omega)) ?_;by_cases he:l[i]∈aQ (dC x k f)
  ·have e:mr (aQ (dC x k f)) (l[i]::l.drop (i+1))=l[i]::mr (aQ (dC x k f)) (l.drop (i+1)):=by grind[mr]
   rw[e,gZ]at fin;refine b3 he o r ?_;refine e2 (FV aA m ad) ?_;rintro h H1 ⟨R,S⟩ pp;refine bG @Ie.eq_1 u ?_;exact on H1 _ h ad ad (p.trans pp) (R.keep (.le ad)) S (by grind[Aa]) fin
  ·have e:mr (aQ (dC x k f)) (l[i]::l.drop (i+1))=mr (aQ (dC x k f)) (l.drop (i+1)):=by grind[mr]
   rw[e]at fin;refine b3 @Ie.eq_1 he u ?_;grind
theorem agI(a:hY (cf x) x.sites.length k){n:Int}(b:0<=n)(ah:n.toNat<x.sites.length):(aQ k.of)[n.toNat]? =A (k.site n):=by
 have aw:n.toNat<k.of.length:=by rw[a.FE];omega
 grind[dg.site,aQ]
theorem St(v:ez x)(o:hY (cf x) x.sites.length k){tl:Nat->List Int}{dv:Nat->af}(G:jF x k tl){f:Nat}{co:bT}(aC:x.ay[f]? =A co)(ai:(dC x k f).length<=1000000){H0:ae}(am:kT x k zX W0 T E a b cc d ov nv fv gv uv b5 tl dv H0){x2 gw:af}{aX:Nat->Prop}(M:aH gq H0 aX co.ins gw)(aR:co.ins.length<=1000000){L0:af->af->ae->O}{L1:af->af->af->ae->O}{Q:af->ae->Prop}{N:Nat}(aL:100<N):∀(j i q:Nat) (H:ae) (cur:List Int) (e:af),i+j=co.ins.length->j<q->au H0 H->aH aN H (T< ·) cur e->hI e->fL cur->(∀z∈cur,∃c:Nat,z=c/\c<k.count/\m9 x k f c)->
  (∀(H':ae) (r:af),au H0 H'->aH aN H' (T< ·) (k_ k tl (aQ (dC x k f)) (co.ins.drop i) cur) r->hI r->W (nD (aK P aG) N L0 L1 (.ptr W0 0 0) x2 (D F (f:Nat)) r H') Q)->
  W (rA (aK P aG) N L0 L1 q (.ptr W0 0 0) x2 (D F (f:Nat)) e gw (D F (i:Nat)) H) Q
 |_,_,0,_,_,_,_,aJ,_,_,_,_,_,_=>ad
 |0,i,q+1,H,cur,e,aP,_,p,aA,w,_,_,fin=>by
  have hw:=M.aB p;have a_:¬(i:Int)<(co.ins.length:Int):=ad;refine b3 @rA.eq_2 @C0.eq_1 (hw.bg eP) ?_;rw[List.drop_of_length_le ad]at fin;exact fin H e p aA w
 |j+1,i,q+1,H,cur,e,aP,aJ,p,aA,w,aj,bd,fin=>by
  have hw:=M.aB p;have s:=am.aB p;have y:i<co.ins.length:=ad;have ak:eB (.ptr W0 0 0)=A (.ptr W0 0 0):=rfl;have aO:=(List.getElem?_eq_some_iff.1 aC).1;have aT:=o.dD;have a9:=o.mi;have bc:=v.sites;obtain⟨L,nn,ro,els,cs,S,_,a1,a2,wi,rfl,bi⟩:=hw.at_ (K:=gq) eP (j:=(i:Int)) (a:=co.ins[i]) ad al;have aF:H.get L=A (.row ro 6 els):=a1;have R:aI P H 3 (.ptr L nn 0)=A (D F co.ins[i].op)/\aI P H 3 (.ptr L nn 3)=A (D F co.ins[i].c)/\aI P H 3 (.ptr L nn 4)=A (D F co.ins[i].n):=by
   refine⟨?_,?_,?_⟩<;>(rw[e0 rO aF a2];rfl)
  have B:dY x f co co.ins[i]=true:=(ia (v.code aC)).ins (List.getElem_mem y);have aU:=List.getElem_mem y;have a5:=fB (show i<=1000000000 by omega);have on:=St v o G aC ai am (x2:=x2) M aR (L0:=L0) (L1:=L1) (Q:=Q) aL j (i+1) q;rw[List.drop_eq_getElem_cons y,k_]at fin;generalize co.ins[i]=ins at*;have a8:cur.length<=k.count:=Ai aj λz l=>al
  have walk:∀{lv:af} {okl:Nat->Prop} {H1:ae},au H H1->aH aN H1 okl (kb k tl ins) lv->(kb k tl ins).length<=90->W (xW (aK P aG) N L0 L1 (rA (aK P aG) N L0 L1 q) (.ptr W0 0 0) x2 (D F (f:Nat)) e gw (D F (i:Nat)) lv H1) Q:=by
   intro lv okl H1 pp aw ba;rw[xW];refine Ss aO ai (s.aB pp) aw ad (kb k tl ins).length 0 N H1 cur e ad ad (.refl _) (aA.aB pp) w ad ?_;intro ar aD aY aq a7;rw[List.drop_zero]at aq;refine bG @nE.eq_1 a5 ?_;refine on ar _ aD ad ad ((p.trans pp).trans aY) aq a7 (vl aj) (λz l=> ?_) fin;rcases zO.1 l with h|h
   ·grind
   ·obtain⟨ax,aM⟩:=Fh.1 h;exact G.now aT aC z (NR.2 (.inr ⟨ins,aU,ax,aM⟩))
  have alloc:0<=ins.n->ins.n.toNat<x.sites.length->(ins.op=11\/ins.op=12)->W (xX (aK P aG) N L0 L1 (rA (aK P aG) N L0 L1 q) (.ptr W0 0 0) x2 (D F (f:Nat)) e gw (D F (i:Nat)) .ao (D F ins.op) (C J) H) Q:=by
   intro V ah aZ;obtain⟨bf,a3,a4⟩:=s.aV.aZ.int (j:=ins.n) (a:=k.site ins.n) V (agI o V ah);have m:kb k tl ins=[k.site ins.n]:=if_pos aZ;have a0:=au.push H (.row I 1 [[D F (k.site ins.n)]]);have:=walk a0 (lv:= .az H.next 0 1 1 (A 1)) (okl:=bb) (by rw[m];exact hc H bb trivial _) al;refine bh @xX.eq_1 ak (gQ s.aV.cQ) S R (ag a3 (ag a4 @c2)) ?_;exact this
  refine c_ @rA.eq_2 @C0.eq_1 (hw.bg eP) S R ?_;by_cases Y:ins.op=11
  ·have t:∀j:Int,(ins.op==j)=(11==j):=λj=>al
   have l:=nc (rJ Y B).2;grind
  have an:(ins.op==11)=false:=beq_eq_false_iff_ne.2 Y;by_cases u:ins.op=12
  ·have t:∀j:Int,(ins.op==j)=(12==j):=λj=>al
   have l:=nc (rK u B).2;have:=alloc l.1 l.2.1 (.inr u);simp-implicitDefEqProofs(disch:=try exact aW)only[reduceAdd,reduceLeDiff,reduceIte,bB,t,Int.reduceBEq];omega
  have ap:(ins.op==12)=false:=beq_eq_false_iff_ne.2 u;by_cases aa:ins.op=13
  ·obtain⟨g,aS⟩:=oD aa B;have ab:=(List.getElem?_eq_some_iff.1 aS.at_.2).1;have t13:(ins.op==13)=true:=al;have m:kb k tl ins=tl ins.c.toNat:=by grind[kb]
   obtain⟨U,av⟩:=s.iJ.at_ ab;have aE:((ins.c.toNat:Nat):Int)=ins.c:=Int.toNat_of_nonneg aS.at_.1;rw[aE]at U;have be:=G.len ins.c.toNat;have:=walk (.refl H) (lv:=dv ins.c.toNat) (okl:=(T< ·)) (by rw[m];exact(s.iJ.aw _ ab).1) al;refine bh @xX.eq_1 an ap t13 ak (ag (gQ s.aV.cQ) (ag S (ag R (ag U av)))) ?_;omega
  ·have a6:(ins.op==13)=false:=beq_eq_false_iff_ne.2 aa;have m:kb k tl ins=[]:=by grind[kb]
   have:=walk (.refl H) (lv:= .ao) (okl:=bb) (by rw[m];exact .nil) al;refine cv @xX.eq_1 an ap a6 ?_;omega
end
end
section
open Go.a_
set_option maxRecDepth 2000
section
variable {x:bC}{k:a_.dg}{zX W0 T E:Nat}{a b cc d ov nv fv gv uv b5:af}
theorem kT.store{tl:Nat->List Int}{dv:Nat->af}{H:ae}(s:kT x k zX W0 T E a b cc d ov nv fv gv uv b5 tl dv H){f:Nat}(aC:f<x.ay.length){l:List Int}{v:af}(h:aH aN H (T< ·) l v)(aA:hI v):cr P H 30 (.ptr T f 0) v=A (H.set T (.row I 1 ((List.range x.ay.length).map λg=>[dj dv f v g])))/\kT x k zX W0 T E a b cc d ov nv fv gv uv b5 (nJ tl f l) (dj dv f v) (H.set T (.row I 1 ((List.range x.ay.length).map λg=>[dj dv f v g]))):=by
 have o:∀q,q≠T->(H.set T (.row I 1 ((List.range x.ay.length).map λg=>[dj dv f v g]))).get q=H.get q:=(by grind[ae.b8]);have gl:=s.gl;have pu:cl T H (H.set T (.row I 1 ((List.range x.ay.length).map λg=>[dj dv f v g]))):=⟨aX,λq aJ=>o q ad⟩;have ky:dm H (T< ·) (H.set T (.row I 1 ((List.range x.ay.length).map λg=>[dj dv f v g]))) (T< ·):=λq c (aJ:T<q) g=>al
 refine⟨Db (t:=30) aF s.iJ.g aC h.one,s.aV.e3 pu ad,s.hu.keep λq c aJ g=>al,⟨ae.cH (ae.bq s.iJ.g),λg aS=> ?_⟩,gl⟩;by_cases e:g=f
 ·subst e;rw[hj,show nJ tl g l g=l from if_pos rfl];exact⟨h.keep ky,aA⟩
 ·rw[fk _ _ e,show nJ tl f l g=tl g from if_neg e];exact⟨(s.iJ.aw g aS).1.keep ky,(s.iJ.aw g aS).2⟩
theorem Sq(ar:right x=J)(v:hY (cf x) x.sites.length k)(ak:∀f,(dC x k f).length<=1000000){L0:af->af->ae->O}{Q:af->ae->Prop}{N:Nat}(aL:2600<N):∀(j i q:Nat) (H:ae) (tl:Nat->List Int) (dv:Nat->af) (t:Bool),i+j=x.ay.length->j<q->jF x k tl->kT x k zX W0 T E a b cc d ov nv fv gv uv b5 tl dv H->(t=I->∀f,f<i->t_ x k tl f)->
  (∀(H':ae) (p:Nat->List Int) (aF:Nat->af) (B:Bool),jF x k p->kT x k zX W0 T E a b cc d ov nv fv gv uv b5 p aF H'->m8 x.ay.length t tl B p->(B=I->∀f,f<x.ay.length->t_ x k p f)->g3 T H H'->W (L0 (.ptr W0 0 0) (C B) H') Q)->
  W (xZ (aK P aG) N L0 q (.ptr W0 0 0) (C t) (D F (i:Nat)) H) Q
 |_,_,0,_,_,_,_,_,aJ,_,_,_,_=>ad
 |0,i,q+1,H,tl,dv,t,aP,_,h,s,aA,fin=>by
  have a8:¬(i:Int)<(x.ay.length:Int):=ad;have m:eB (.ptr W0 0 0)=A (.ptr W0 0 0):=rfl;obtain⟨_,o,_⟩:∃z,aH gf H (· <W0) x.ay cc/\z=0:=by
   obtain⟨_,e,b1,b',aq,aD,rfl,ah,ai,ax,aM⟩:=s.aV.aE;grind
  refine c_ @xZ.eq_2 @CZ.eq_1 m (gQ s.aV.cQ) (o.bg cD) ?_;exact fin H tl dv t h s (.refl _ _ _) al (.refl _ _)
 |j+1,i,q+1,H,tl,dv,t,aP,aJ,h,s,aA,fin=>by
  have ab:=ga ar;have l:i<x.ay.length:=ad;have a1:=ab.ay;have m:eB (.ptr W0 0 0)=A (.ptr W0 0 0):=rfl;obtain⟨_,o,_⟩:∃z,aH gf H (· <W0) x.ay cc/\z=0:=by
   obtain⟨_,e,b1,b',aq,aD,rfl,ah,ai,ax,aM⟩:=s.aV.aE;grind
  have aC:x.ay[i]? =A x.ay[i]:=al;have a6:=pI ar;have a7:=qK (List.getElem_mem l);obtain⟨L,n,a0,gw,aX,aY,bV,b9⟩:=o.o0 (j:=(i:Int)) (g:=x.ay[i]) ad al;obtain⟨an,ap⟩:=s.iJ.at_ l;have on:=Sq ar v ak (L0:=L0) (Q:=Q) aL j (i+1) q;generalize x.ay[i]=co at*;refine bh @xZ.eq_2 @CZ.eq_1 m (gQ s.aV.cQ) (o.bg cD) (ag an (ag ap (ag aX (aY _ (au.refl _))))) ?_;refine St ab v h aC (ak i) s b9 ad ad co.ins.length 0 N H (tl i) (dv i) ad ad (.refl _) (s.iJ.aw i l).1 (s.iJ.aw i l).2 (h.sV i) (h.snd i) ?_;intro H1 aa y r aZ;rw[List.drop_zero]at r;have s1:=s.aB y;obtain⟨V,Y⟩:=s1.iJ.at_ l;have aS:=h.now v.dD aC
  have aR:fL (k_ k tl (aQ (dC x k i)) co.ins (tl i)):=adi (h.sV i);have aj:=(s1.iJ.aw i l).1;have aI:=zQ k tl (aQ (dC x k i)) co.ins (tl i);have am:=fB (show i<=1000000000 by omega);have a2:(k_ k tl (aQ (dC x k i)) co.ins (tl i)).length=(tl i).length->t_ x k tl i:=by
   intro hlen av a3 ii aN z aT aU;obtain rfl:co=av:=al;rw[aI]at hlen;exact(Pm (h.sV i) hlen).1 z (List.mem_flatMap.2 ⟨ii,aN,Fh.2 ⟨aT,aU⟩⟩)
  have a5:(tl i).length<=(k_ k tl (aQ (dC x k i)) co.ins (tl i)).length:=by grind[Go.a_.FU]
  have aO:∀z∈k_ k tl (aQ (dC x k i)) co.ins (tl i),∃c:Nat,z=c/\c<k.count/\m9 x k i c:=aS;generalize k_ k tl (aQ (dC x k i)) co.ins (tl i)=w at*;by_cases hlen:w.length=(tl i).length
  ·have d1:(((w.length:Nat):Int) != (((tl i).length:Nat):Int))=false:=al;refine bh @nD.eq_1 @mT.eq_1 (r.bg b0) m (gQ s1.aV.cQ) (ag V (ag Y (ag (aj.bg b0) (ag d1 am)))) ?_;refine on H1 tl dv t ad ad h s1 (λe f a4=> ?_) λu G hh t2 K M R S U=>fin u G hh t2 K M R S ((EA y).trans U)
   grind
  ·have d1:(((w.length:Nat):Int) != (((tl i).length:Nat):Int))=true:=al;obtain⟨st,s2⟩:=s1.store l r aZ;have hle:H1.next<=(H1.set T (.row I 1 ((List.range x.ay.length).map λg=>[dj dv i aa g]))).next:=Nat.le.refl
   refine bh @nD.eq_1 @mT.eq_1 (r.bg b0) m (gQ s1.aV.cQ) (ag V (ag Y (ag (aj.bg b0) (ag d1 (ag st am))))) ?_;have fy:g3 T H (H1.set T (.row I 1 ((List.range x.ay.length).map λg=>[dj dv i aa g]))):=(EA y).trans ⟨Nat.le.refl,(by grind[ae.b8])⟩;refine on _ _ _ J ad ad (h.dG aR aO) s2 (λe=>by cases e) λu G hh t2 K M R S U=>fin u G hh t2 K M ((m8.dG l ad).trans R) S (fy.trans U)
theorem Sr(ar:right x=J)(g:hY (cf x) x.sites.length k)(j:∀f,(dC x k f).length<=1000000){N:Nat}(i:2600<N):∀(q:Nat) (H:ae) (tl:Nat->List Int) (dv:Nat->af) (t:Bool),(x.ay.length*k.count-kq tl x.ay.length)+(if t then 1 else 0)<q->jF x k tl->kT x k zX W0 T E a b cc d ov nv fv gv uv b5 tl dv H->(t=I->∀f,f<x.ay.length->t_ x k tl f)->
  W (xY (aK P aG) N q (.ptr W0 0 0) (C t) H) λr H'=>r= .tuple []/\∃c e,(∀f,c f=aQ (yo x k f))/\kT x k zX W0 T E a b cc d ov nv fv gv uv b5 c e H'/\g3 T H H'
 |0,_,_,_,_,aJ,_,_,_=>ad
 |q+1,H,tl,dv,t,aJ,h,s,aA=>by
  have on:=Sr ar g j i q;cases t with
  |false=>
   refine bG @xY.eq_2 @CY.eq_1 ?_;exact aD.2 ⟨rfl,tl,dv,λf=>h.end g.dD (aA rfl) f,s,.refl _ _⟩
  |true=>
   refine bG @xY.eq_2 @CY.eq_1 ?_;have z:=(ga ar).ay;refine Sq ar g j i x.ay.length 0 N H tl dv I ad ad h s ad ?_;intro H1 l qA t1 n p o u v;have ah:=Ek (tl:=l) (m:=k.count) n.len x.ay.length;have ai:=Ek (tl:=tl) (m:=k.count) h.len x.ay.length;have ax:=o.le;simp only[if_true]at aJ;refine(on H1 l qA t1 ?_ n p u).mono ?_
   ·cases t1 with
    |false=>grind
    |true=>
     have:=o.on rfl;grind
   ·rintro r H' ⟨rfl,c,e,w,y,z3⟩;exact⟨rfl,c,e,w,y,v.trans z3⟩
theorem FL(a:hY (cf x) x.sites.length k)(f:Nat):(dC x k f).length<=k.count:=by
 unfold dC;split
 ·unfold mI pt;refine Nat.le_trans (List.length_filter_le _ _) ?_;unfold fE;rw[a.dD];exact ns _ _
 ·simp
theorem aiI{H:ae}{d_:af}(ar:right x=J)(n:hY (cf x) x.sites.length k)(s:fI x k zX W0 a b cc d ov nv fv gv uv d_ b5 H)(hu:aH (bu aN) H (λq=>W0<q/\q<E) ((List.range x.ay.length).map λf=>aQ (dC x k f)) uv)(t:W0<E)(O:E<=H.next):
  W (aK P aG 89 [.ptr W0 0 0] H) λr H'=>r= .tuple []/\∃tv',fI x k zX W0 a b cc d ov nv fv gv uv tv' b5 H'/\aH (bu aN) H' (λq=>H.next<=q) ((List.range x.ay.length).map λf=>aQ (yo x k f)) tv'/\H.next<=H'.next/\∀q,q<H.next->q≠W0->H'.get q=H.get q:=by
 have m:=ga ar;have Q:=m.ay;have S:=m.sites;have R:=n.mi;refine afH (x.ay.length*k.count+3000) ?_;have G:eB (.ptr W0 0 0)=A (.ptr W0 0 0):=rfl;obtain⟨_,u,_⟩:∃z,aH gf H (· <W0) x.ay cc/\z=0:=by
  obtain⟨_,e,b1,b',M,N,rfl,ah,ai,ax,aM⟩:=s.aE;cases e;exact⟨0,ax,rfl⟩
 have mk:=u0 H.next x.ay.length ad
 obtain⟨T,dO⟩:∃T,T=H.next:=⟨_,rfl⟩
 have h:=au.push H (.row I 1 ((List.range x.ay.length).map λ_=>[.ao]));have l:=ae.a2 H (.row I 1 ((List.range x.ay.length).map λ_=>[.ao]));have s1:=s.aB h;have y:=hu.aB h;have cL:(H.push (.row I 1 ((List.range x.ay.length).map λ_=>[af.ao]))).next=T+1:=by rw[dO];rfl
 rw[<-dO]at l mk;have U:=s.lt;refine qb @Rt.eq_1 G (gQ s.cQ) (u.bg cD) dO.symm mk ?_;generalize H.push (.row I 1 ((List.range x.ay.length).map λ_=>[af.ao]))=H1 at*;have st:=ahD (v:= .az T 0 x.ay.length 1 (A x.ay.length)) s1.cQ rfl;have s2:=s1.set (gv':=gv) (uv':=uv) (tv':= .az T 0 x.ay.length 1 (A x.ay.length)) (wv':=b5);have o:∀q,q≠W0->(H1.set W0 (.row I 13 [e9 a b cc d x.main k.count ov nv fv gv uv (.az T 0 x.ay.length 1 (A x.ay.length)) b5])).get q=H1.get q:=λq aJ=>ae.b8 (Ne.symm aJ)
 have V:(H1.set W0 (.row I 13 [e9 a b cc d x.main k.count ov nv fv gv uv (.az T 0 x.ay.length 1 (A x.ay.length)) b5])).next=T+1:=by rw[<-cL];rfl
 have hle:H1.next<=(H1.set W0 (.row I 13 [e9 a b cc d x.main k.count ov nv fv gv uv (.az T 0 x.ay.length 1 (A x.ay.length)) b5])).next:=Nat.le.refl
 refine Sf st ?_;have B:=y.keep (H':=H1.set W0 (.row I 13 [e9 a b cc d x.main k.count ov nv fv gv uv (.az T 0 x.ay.length 1 (A x.ay.length)) b5])) (ok':=λq=>W0<q/\q<E) λq c aJ g=>⟨aJ,al⟩
 have p:=(o T ad).trans l;generalize H1.set W0 (.row I 13 [e9 a b cc d x.main k.count ov nv fv gv uv (.az T 0 x.ay.length 1 (A x.ay.length)) b5])=j at*;have ts:kT x k zX W0 T E a b cc d ov nv fv gv uv b5 (λ_=>[]) (λ_=> .ao) j:=⟨s2,B,⟨p,λf _=>⟨.nil,Kk⟩⟩,t,ad⟩;refine(Sr ar n (λf=>by grind[FL]) ad _ j _ _ J (by simp only[if_true];omega) (jF.start x k) ts (λe=>by cases e)).mono ?_;rintro r H' ⟨rfl,tl,dv,L,i,z3⟩;have ax:=z3.1;refine⟨rfl,_,i.aV,?_,ad,λq aJ w=> ?_⟩
 ·have:=C_ (K:=aN) (ok:=λq=>T<=q) (f:=λf=>aQ (yo x k f)) (du T) i.iJ.g λf aC=>by
   have:=(i.iJ.aw f aC).1;rw[L]at this;exact this.keep (.le λq (aJ:T<q)=>ad)
  exact this
 ·rw[z3.2 q ad ad,o q w,h.2 q ad]
end
end
section
open Go.a_
set_option maxRecDepth 2000
section
variable {x:bC}{k:a_.dg}{zX W0:Nat}{a b cc d ov nv fv gv uv d_ b5:af}
theorem fI.ay{H:ae}(s:fI x k zX W0 a b cc d ov nv fv gv uv d_ b5 H):aH gf H (· <W0) x.ay cc:=by
 obtain⟨_,e,b1,b',c,f,rfl,ah,ai,ax,aM⟩:=s.aE;grind
theorem fI.Md{H:ae}(s:fI x k zX W0 a b cc d ov nv fv gv uv d_ b5 H):aH e_ H (· <W0) x.globals b:=by
 obtain⟨_,e,b1,b',c,f,rfl,ah,ai,ax,aM⟩:=s.aE;grind
theorem aiO(l:List Nat)(n:Nat):aQ l++[(n:Int)]=aQ (l++[n]):=by simp[aQ]
theorem aY.Fu{B:Nat}{H1:ae}{l:List Nat}{v:af}{a:Nat}(h:aY aN B bb H1 (aQ l) v)(c:B<=H1.next)(aw:l.length<=999999999):
  ∃b H',eA P (H1.push (.row I 1 [[D F (a:Nat)]])) [30,30] v (.az H1.next 0 1 1 (A 1))=A (b,H')/\aY aN B bb H' (aQ (l++[a])) b/\cl B H1 H'/\H1.next+1<=H'.next:=by
 obtain⟨b,H',d,e,f,g,_⟩:=h.jU (a:=(a:Int)) c (by grind[g1]);grind[aiO]
theorem MW(ar:right x=J){B:Nat}(h:W0<B){Q:af->ae->Prop}{N:Nat}:∀(j i q:Nat) (H:ae) (v:af),i+j=x.globals.length->j<q->fI x k zX W0 a b cc d ov nv fv gv uv d_ b5 H->B<=H.next->aY aN B bb H (aQ ((List.range i).map (ew x))) v->
  (∀(H':ae) (v:af),cl B H H'->aY aN B bb H' (aQ ((List.range x.globals.length).map (ew x))) v->W (B5 (aK P aG) N (.ptr zX 0 0) (.ptr W0 0 0) v H') Q)->
  W (w1 (aK P aG) N q (.ptr zX 0 0) (.ptr W0 0 0) v (D F (i:Nat)) H) Q
 |_,_,0,_,_,_,aJ,_,_,_,_=>ad
 |0,i,q+1,H,v,aP,_,s,e,aw,fin=>by
  have z:¬(i:Int)<(x.globals.length:Int):=ad;refine cv @w1.eq_2 @B0.eq_1 (c9 s.aO) (s.Md.bg cS) ?_;obtain rfl:i=x.globals.length:=ad;exact fin H v (.refl _ _) aw
 |j+1,i,q+1,H,v,aP,aJ,s,e,aw,fin=>by
  have f:=ga ar;have y:=f.globals;have on:=MW ar h (Q:=Q) (N:=N) j (i+1) q;refine c_ @w1.eq_2 @B0.eq_1 (c9 s.aO) (s.Md.bg cS) (cn s.aO) ?_;refine bw (PF f s.aE (g:=i) ad) λH1 c=> ?_
  have E:=c.1;obtain⟨r,H',m,n,o,w⟩:=(aw.aB c).Fu (a:=ew x i) ad al;refine bG @c2 m ?_;have pu:cl B H H':=(ek c e).trans o;have p:(List.range (i+1)).map (ew x)=(List.range i).map (ew x)++[ew x i]:=by grind[List.range_succ]
  rw[p]at on;exact on H' r ad ad (s.e3 pu h) ad n λl v2 t u=>fin l v2 (pu.trans t) u
theorem MZ(ar:right x=J){f:Nat}{co:bT}(aC:x.ay[f]? =A co){B:Nat}(m:W0<B){L9:af->af->af->ae->O}{Q:af->ae->Prop}{N:Nat}:∀(j i q:Nat) (H:ae) (v:af),i+j=co.params.toNat->j<q->fI x k zX W0 a b cc d ov nv fv gv uv d_ b5 H->B<=H.next->aY aN B bb H (aQ (eG x f::(List.range i).map λv=>bk x.ay f+v)) v->
  (∀(H':ae) (v:af),cl B H H'->aY aN B bb H' (aQ (eG x f::(List.range co.params.toNat).map λv=>bk x.ay f+v)) v->W (B6 (aK P aG) N L9 (.ptr zX 0 0) (.ptr W0 0 0) (D F (f:Nat)) v H') Q)->
  W (wZ (aK P aG) N L9 q (.ptr zX 0 0) (.ptr W0 0 0) (D F (f:Nat)) v (D F (i:Nat)) H) Q
 |_,_,0,_,_,_,aJ,_,_,_,_=>ad
 |j,i,q+1,H,v,aP,aJ,s,w,aw,fin=>by
  have l:=ga ar;have T:=(List.getElem?_eq_some_iff.1 aC).1;have y:=(ia (l.code aC)).params;obtain⟨L,n,S,gw,o,E,bV,b9⟩:=s.ay.o0 (j:=(f:Int)) (g:=co) ad (fA aC);have z:co.params=((co.params.toNat:Nat):Int):=(Int.toNat_of_nonneg y.1).symm;have e:=(E _ (au.refl _)).1;rw[z]at e
  match j,aP,aJ with
  |0,aP,_=>
   have U:¬(i:Int)<((co.params.toNat:Nat):Int):=ad;refine c_ @wZ.eq_2 @BZ.eq_1 (c9 s.aO) o e ?_;obtain rfl:i=co.params.toNat:=ad;exact fin H v (.refl _ _) aw
  |j+1,aP,aJ=>
   have on:=MZ ar aC m (L9:=L9) (Q:=Q) (N:=N) j (i+1) q;refine bh @wZ.eq_2 @BZ.eq_1 (c9 s.aO) o e (cn s.aO) ?_;refine bw (Qd l s.aE (f:=f) (v:=i) ad ad) λH1 c=> ?_
   have V:=c.1;obtain⟨G,H',r,h,t,R⟩:=(aw.aB c).Fu (a:=bk x.ay f+i) ad al;refine bG @c2 r ?_;have pu:cl B H H':=(ek c w).trans t;have u:(eG x f::(List.range i).map λv=>bk x.ay f+v)++[bk x.ay f+i]=eG x f::(List.range (i+1)).map λv=>bk x.ay f+v:=by grind[List.range_succ]
   rw[u]at h;exact on H' G ad ad (s.e3 pu m) ad h λp v2 K M=>fin p v2 (pu.trans K) M
theorem aY.lit(H:ae)(n:Nat):aY aN H.next bb (H.push (.row I 1 [[D F (n:Nat)]])) (aQ [n]) (.az H.next 0 1 1 (A 1)):=
 ⟨.inr ⟨H.next,[[D F (n:Nat)]],A 1,rfl,trivial,ae.a2 _ _,by simp[aQ],.inr rfl,λi a aP=>by
  rcases i with _|i
  ·cases aP;exact⟨_,rfl,rfl⟩
  ·simp[aQ]at aP⟩,al⟩
theorem zb(fs:List (List Int))(r:List Int):(fE fs r).length<=fs.length:=ns _ _
theorem MV(ar:right x=J)(h:hY (cf x) x.sites.length k){E:Nat}(z:W0<E){Q:af->ae->Prop}{N:Nat}(aj:10<N):∀(j i q:Nat) (H:ae) (uv:af),i+j=x.ay.length->j<q->fI x k zX W0 a b cc d ov nv fv gv uv d_ b5 H->E<=H.next->aH aN H (λq=>W0<q/\q<E) (aQ (ie x k)) gv->aY (bu aN) E (E<= ·) H ((List.range i).map λf=>aQ (dC x k f)) uv->
  (∀(H':ae) (uv:af),fI x k zX W0 a b cc d ov nv fv gv uv d_ b5 H'->H.next<=H'.next->(∀q,q<E->q≠W0->H'.get q=H.get q)->aY (bu aN) E (E<= ·) H' ((List.range x.ay.length).map λf=>aQ (dC x k f)) uv->W (rq (aK P aG) N (.ptr zX 0 0) (.ptr W0 0 0) H') Q)->
  W (w5 (aK P aG) N q (.ptr zX 0 0) (.ptr W0 0 0) (D F (i:Nat)) H) Q
 |_,_,0,_,_,_,aJ,_,_,_,_,_=>ad
 |0,i,q+1,H,uv,aP,_,s,y,aS,aw,fin=>by
  have a1:¬(i:Int)<(x.ay.length:Int):=ad;refine cv @w5.eq_2 @B4.eq_1 (c9 s.aO) (s.ay.bg cD) ?_;grind
 |j+1,i,q+1,H,uv,aP,aJ,s,y,aS,aw,fin=>by
  have e:=ga ar;have aV:=e.ay;have am:=e.sites;have a0:=h.dD;have aZ:=h.mi;have a2:i<x.ay.length:=ad;have aC:x.ay[i]? =A x.ay[i]:=al;have a5:=(ia (e.code aC)).params;have on:=MV ar h z (Q:=Q) aj j (i+1) q;have ak:dC x k i=mI x k i x.ay[i]:=by grind[dC]
  have a7:∀v,v<x.ay[i].params.toNat->bk x.ay i+v<cf x:=λv an=>by
   have:=rQ aC (show v<x.ay[i].vars.length by omega);grind[cf]
  generalize x.ay[i]=co at*;have aI:=fB (show i<=1000000000 by omega);refine c_ @w5.eq_2 @B4.eq_1 (c9 s.aO) (s.ay.bg cD) (cn s.aO) ?_;refine bw (P2 e s.aE (f:=i) ad) λH1 M=> ?_
  have aq:=au.push H1 (.row I 1 [[D F (eG x i:Nat)]]);have lit:=aY.lit H1 (eG x i);have p:=M.trans aq;refine bP @c2 ?_;have a8:=s.lt;have a3:=M.1;refine MZ ar aC (B:=H1.next) ad co.params.toNat 0 N _ _ ad ad (s.aB p) aX al ?_;intro U v2 R l2;have t:au H U:=⟨by have:=p.1;have:=R.1;omega,λq aJ=>by rw[R.2 q ad,p.2 q aJ]⟩;have s2:=s.aB t;have a6:eG x i<cf x:=by grind[eG,cf]
  have a4:=t.1;simp-implicitDefEqProofs(disch:=try exact aW)only[B6];refine cK (IQ h am al (λv an=> ?_) s2 l2.az) ?_
  ·grind
  rintro a9 V ⟨ap,u⟩;refine⟨u.1,?_⟩;have gb:=s2.aB u;have r:=t.trans u;have K:eB (.ptr W0 0 0)=A (.ptr W0 0 0):=rfl;refine bG K (gQ gb.cQ) ?_;refine e2 (F6 ap.az (aS.aB r) (by grind[g1,zb]) (by grind[g1,zb,ie])) λax Y n O=> ?_
  have S:=gb.aB O;have L:=r.trans O;have ah:hN (aQ (fE k.fields ((eG x i::(List.range co.params.toNat).map λv=>bk x.ay i+v).map k.node))) (aQ (ie x k))=aQ (dC x k i):=by
   have:=abA (fE k.fields ((eG x i::(List.range co.params.toNat).map λv=>bk x.ay i+v).map k.node)) (ie x k);rw[ak];refine this.trans ?_;unfold mI;rw[List.map_cons,List.map_map];rfl
  rw[ah]at n;obtain⟨l,H',ab,m,w,aT⟩:=aw.sd dP y L ((n.kJ fx).keep (.le λq (aJ:V.next<=q)=>by show H.next<=q;have:=r.1;omega)) al;have av:=au.push Y (.row I 1 [[ax]]);have aD:=S.aB av;have rg:bF (A gv) gv=true:=dF aS;have aA:bF (A uv) uv=true:=by simp[bF,aw.az.rd]
  have T:=s.e3 w z;have st:=ahC (v:=l) T.cQ m.az.one;refine bh K (gQ S.cQ) (λz0=>rH z0 n.az.one) ab st (ag (gQ s2.cQ) (ag (gQ gb.cQ) (ag (gQ aD.cQ) (ag rg (ag aA (ag @wY.eq_1 aI)))))) ?_;have o:∀q,q≠W0->(H'.set W0 (.row I 13 [e9 a b cc d x.main k.count ov nv fv gv l d_ b5])).get q=H'.get q:=λq aJ=>ae.b8 (Ne.symm aJ)
  have aU:=L.1;have fy:∀q,q<E->q≠W0->(H'.set W0 (.row I 13 [e9 a b cc d x.main k.count ov nv fv gv l d_ b5])).get q=H.get q:=λq aJ G=>by rw[o q G,w.2 q aJ]
  have ai:((List.range i).map λf=>aQ (dC x k f))++[aQ (dC x k i)]=(List.range (i+1)).map λf=>aQ (dC x k f):=by grind[List.range_succ]
  rw[ai]at m;refine on _ l ad ad T.set (by simp;omega) (aS.keep λq c aJ g=>⟨aJ,al⟩) (m.keep λq c (aJ:E<=q) g=>⟨aJ,al⟩) λaa aF aL aM a_ aR=>fin aa aF aL (by simp at aM;omega) (λq aJ G=>al) aR
