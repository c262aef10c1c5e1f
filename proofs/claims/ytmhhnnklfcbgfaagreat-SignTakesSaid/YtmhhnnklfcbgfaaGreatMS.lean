/-
  Texts of one proof, laid together: Tv Sd Se Sf Sj Sk Sm Sn Sq Tw SgO SgP Tx Ty Tz.
-/
import Derived.Test.YtmhhnnklfcbgfaaGreatMR
set_option linter.unusedVariables false
set_option linter.unusedSimpArgs false
set_option linter.defProp false
open Option renaming some→A,none→Z
open Bool renaming true→J,false→I
open Go.cv.af renaming int→D,bool→C
open Go.IntKind renaming i64→F
namespace Go.Proofs.YtmhhnnklfcbgfaaGreat
open Go.cv
open Nat (reduceAdd reduceLeDiff)
section
open Go.a2
set_option maxRecDepth 2000
section
variable {x:bq}{H:ae}{ok:Nat->Prop}
def Ly(au:right x=J){l:List bt}{lv:af}(o:gy (b7 x) x.sites.length l)(ar:l.length<=800000000)(n:aI cU H ok l lv){bS:af->ae->O}{Q:af->ae->Prop}
  (fin:∀(a:af) (H':ae),ky H' (λL=>H.next<=L) (a2.merge (ho (b7 x) x.sites.length l) x.sites.length) a->aw H H'->W (bS a H') Q):
  W (eg H (aK P aD 82 [D F (b7 x:Nat),D F (x.sites.length:Nat),D F 8,lv] H) λg ah=>
   aU (jd g 0) λp=>
   aU (jd g 1) λ_=>
   fA ah [af.aq,af.aq] λf ai=>
   gG ai (cz P ai 154 f p) λay=>
   aU (aJ P ay 154 f) λx87=>
   eg ay (aK P aD 83 [x87] ay) λx88 aM=>
   aU (jd x88 0) λx89=>
   aU (jd x88 1) λ_=>bS x89 aM) Q:=by
 have d:=fG au;have e:=d.sites;have aL:=PH d;refine cB (aeJ o aL e ar n) ?_;rintro _ H1 ⟨pv,rfl,⟨nv,fv,rfl,ah,ai⟩,c⟩;refine⟨c.1,?_⟩;have r:∀(k:af->ae->O),fA H1 [.aq,.aq] k=k (.ptr H1.next 0 0) (H1.push (.row I 2 [[.aq,.aq]])):=λk=>by rw[kf,kh];rfl
 have j:=ae.a1 H1 (.row I 2 [[.aq,.aq]]);have st:=yZ j ah.one ai.one;have dt:(H1.push (.row I 2 [[.aq,.aq]])).set H1.next (.row I 2 [[nv,fv]])=H1.push (.row I 2 [[nv,fv]]):=ae.gD Nat.le.refl Nat.le.refl
 rw[dt]at st;have b:=aw.push H1 (.row I 2 [[nv,fv]]);have m:=ae.a1 H1 (.row I 2 [[nv,fv]]);simp only[zn,List.getElem?_cons_zero,List.getElem?_cons_succ,mr,r,st];rw[nr aW];simp only[m0 m,mr];refine cB (aeA (OV e aa) (ah.aC b) (ai.aC b)) ?_;rintro _ i ⟨a,rfl,s,h⟩;refine⟨h.1,?_⟩;simp only[zn,List.getElem?_cons_zero,List.getElem?_cons_succ,mr];have ay:=c.1;have aM:=b.1;exact fin a i (s.keep (.le λq (aH:_<=q)=>aa)) ((c.trans b).trans h)
theorem QK(au:right x=J){V lv:af}{zX zC:Nat}{t:Nat}(bI:(eb (b7 x) x.sites.length (cons x) (t+1)).of=(eb (b7 x) x.sites.length (cons x) t).of)(a5:∀j,j<t->(eb (b7 x) x.sites.length (cons x) (j+1)).of≠(eb (b7 x) x.sites.length (cons x) j).of)
  {cs:List af} (bA:V= .agg cs) (bC:zX+1<zC) {N:Nat} (bz:100<N):∀(q i:Nat) (H:ae) (T:af),i<=t->t<i+q->cE H (· <zX) x V->H.get zX=A (.row I 5 [cs])->aI cU H (· <zC) (cons x) lv->(∃r,H.get (zX+1)=A (.row I 4 [r])/\r.length=4)->(∃n a b c,T= .agg (bl n a b c)/\H.get zC=A (.row I 4 [bl n a b c]))->ky H (λq=>zX<=q/\q≠zC) (eb (b7 x) x.sites.length (cons x) i) T->
  W (CE (aK P aD) N q (.ptr zX 0 0) (.ptr (zX+1) 0 0) (D F (b7 x:Nat)) lv (.ptr zC 0 0) H) λr H'=>ky H' (λL=>zX<=L) (eb (b7 x) x.sites.length (cons x) (t+1)) r/\cg zX H H'
 |0,i,_,_,aP,aH,_,_,_,_,_,_=>aa
 |q+1,i,H,T,aP,aH,aF,aQ,a6,⟨bf,aS,a7⟩,⟨n,a,b,c,bh,b5⟩,ap=>by
  have a4:=fG au;have cl:=a4.sites;subst bh;obtain⟨bY,b',d,aJ,ah,ai,ay,aM⟩:=ap;simp only[af.agg.injEq,bl,List.cons.injEq,af.int.injEq,and_true,true_and]at aJ;obtain⟨b8,rfl,rfl,rfl⟩:=aJ;obtain rfl:n=(eb (b7 x) x.sites.length (cons x) i).count:=aa;have cf:=ae.bm b5;have ce:=zN au;have he:=vZ (b7 x) x.sites.length (cons x) i;have bK:=u9 (b7 x) x.sites.length (cons x) i;have bG:=E8 (b7 x) x.sites.length (cons x) i;have bJ:eb (b7 x) x.sites.length (cons x) (i+1)=a2.merge (ho (b7 x) x.sites.length (cons x++hZ (m8 (b7 x) x.sites.length (cons x) i) x.sites.length)) x.sites.length:=rfl;obtain⟨_,bj,a0,aB,bu,d0,bk,bn,bo,bp,am⟩:=aF
  have aF:cE H (· <zX) x V:=⟨_,bj,a0,aB,bu,d0,bk,bn,bo,bp,am⟩;have bi:cs=[a0,aB,bu,d0,D F x.main]:=al;subst bi;generalize cd:eb (b7 x) x.sites.length (cons x) i=cm at*;generalize cb:m8 (b7 x) x.sites.length (cons x) i=R at*;rw[bK]at ah;rw[bG]at b5;obtain⟨B,a3⟩:∃B,B=H.next:=⟨_,rfl⟩
  obtain⟨v1,H1,bS,ar,bU,_,_⟩:=(aZ.nil cU H.next ba H).LF (m:=cons x) (w:=lv) Nat.le.refl a6 al;rw[List.nil_append]at ar;have ax:aw H H1:=bU.aC;have ch:=ax.1;have bO:∀L,dx v1=A L->H.next<=L/\L<H1.next:=λL e=>ar.jy e
  have aL:=ax.get b5;have ck:=vT R x.sites.length;have mk:=Pb H1.next (dB R x.sites.length).length aa
  have aA:=aw.push H1 (.row I 1 (dP (List.replicate (dB R x.sites.length).length 0)));have cp:=ae.a1 H1 (.row I 1 (dP (List.replicate (dB R x.sites.length).length 0)));have aR:=aA.get aL;have bP:∀H0,bD P H0 .len [30] [a]=A (D F x.sites.length):=λH0=>by rw[ah.len bV,fI];simp
  have b4:IntKind.i64.wrap ((x.sites.length:Int)-1)=(x.sites.length:Int)-1:=Go.IntWalk.i64_in _ ⟨aa,aa⟩;refine bb @CE.eq_2 @IG.eq_1 bS (hb aL) (hb aR) (ag mk (ag bP b4)) ?_;obtain⟨zA,aX⟩:∃zA,zA=H1.next:=⟨_,rfl⟩
  rw[<-aX]at cp ⊢;have ca:B<=zA:=aa;have cq:(H1.push (.row I 1 (dP (List.replicate (dB R x.sites.length).length 0)))).next=zA+1:=by rw[aX];rfl
  have bd:=ax.trans aA;have bW:=ar.aC aA;generalize H1.push (.row I 1 (dP (List.replicate (dB R x.sites.length).length 0)))=ad at*;have bL:∀k,k<B->k≠zA:=λk G=>aa
  have aU:aI aN ad (· <B) (aO ((List.range x.sites.length).map (dj R))) a:=a3▸ah.below.aC bd;refine Lx he aa aa (ok:=(· <B)) bL x.sites.length N ad _ (ds _) aa aR aU cp aW (λs ah ai=>aa) ?_;intro aj cr Q bs bE bH;have bR:∀L n aG,v1= .az L 0 n 4 aG->zA≠L:=λL n aG e=>by have:=(bO L (by rw[e];rfl)).2;omega
  have bX:aZ cU B ba aj (cons x++(List.range 0).map λs=>bt.same s (et R s)) v1:=by
   rw[List.range_zero,List.map_nil,List.append_nil,a3];exact bW.frame (λh=>h) λL e=>Q.2 L al
  have bM:du ad (· <B) aj (· <B):=λk b (G:k<B) g=>⟨G,by rw[Q.2 k aa];exact g⟩
  have ci:=Q.1;rw[CB];refine Lw he aa (show zC<B by omega) (ok:=(· <B)) (λk G=>G) bE bH aa x.sites.length 0 N aj v1 aa aa aa (by rw[Q.2 zC aa];omega) (aU.keep bM) bs bX bR ?_;intro y cn be bZ;have cc:(hZ R x.sites.length).length=x.sites.length:=by simp[hZ]
  have wf:gy (b7 x) x.sites.length (cons x++hZ R x.sites.length):=Uc (zO a4) (Ub he _ _);have Y:aw H y:=⟨by have:=be.1;omega,λk G=>by rw[be.2 k aa,Q.2 k aa,bd.2 k G]⟩;have bv:=Y.get aQ;have b9:=am.aC Y;have bQ:∀H0,bD P H0 .len [25] [d0]=A (D F x.sites.length):=λH0=>am.len fV
  refine bT @CC.eq_1 (dh bv) bQ ?_;refine Ly au wf al bZ.az ?_;intro T f ap b1;obtain⟨bY,b',d,rfl,v,K,M,a9⟩:=ap;rw[<-bJ]at v K M ⊢;generalize ao:eb (b7 x) x.sites.length (cons x) (i+1)=aV at*;have b6:∀(q:af->ae->O),fA f [D F 0,.aq,.aq,.aq] q=q (.ptr f.next 0 0) (f.push (.row I 4 [bl 0 .aq .aq .aq])):=λq=>by rw[kf,kh];rfl
  have b2:=ae.a1 f (.row I 4 [bl 0 .aq .aq .aq]);have mh:cz P (f.push (.row I 4 [bl 0 .aq .aq .aq])) 33 (.ptr f.next 0 0) (.agg (bl aV.count bY b' d))=A (f.push (.row I 4 [bl aV.count bY b' d])):=by
   rw[k1 b2 rfl v.one K.one M.one,ae.lD]
  have ab:=aw.push f (.row I 4 [bl aV.count bY b' d]);have U:=ae.a1 f (.row I 4 [bl aV.count bY b' d]);have bc:=Y.trans b1;have o:=bc.trans ab;have an:=o.get b5;simp only[b6,mh];rw[nr aW];have n5:f.next<(f.push (.row I 4 [bl aV.count bY b' d])).next:=aW
  have b0:zC<f.next:=by have:=bc.1;omega
  obtain⟨E,bx⟩:∃E,E=f.next:=⟨_,rfl⟩
  rw[<-bx]at U n5 b0 ⊢;generalize f.push (.row I 4 [bl aV.count bY b' d])=l at*;have i1:=v.aC ab;have hlen:(aO aV.of).length<=1000000000:=by
   have e:=u9 (b7 x) x.sites.length (cons x) (i+1);rw[ao]at e;rw[e];simp[aO];omega
  refine bF (hb U) (hb an) ?_;refine dK (GW i1 (ah.aC o) hlen) ?_;have cj:zC<y.next:=by have:=Y.1;omega
  have bg:=k1 (n:=aV.count) (a:=bY) (b:=b') (c:=d) an rfl v.one K.one M.one;have iS:=ae.bm an;have p:∀q,q≠zC->(l.set zC (.row I 4 [bl aV.count bY b' d])).get q=l.get q:=λq aH=>ae.b_ (Ne.symm aH)
  have bq:(l.set zC (.row I 4 [bl aV.count bY b' d])).get zC=A (.row I 4 [bl aV.count bY b' d]):=ae.cO iS;have n8:l.next<=(l.set zC (.row I 4 [bl aV.count bY b' d])).next:=Nat.le.refl
  have co:(l.set zC (.row I 4 [bl aV.count bY b' d])).next=l.next:=rfl
  by_cases e:i=t
  ·subst e;have ak:aO aV.of=aO ((List.range x.sites.length).map (dj R)):=al;have aT:(l.set zC (.row I 4 [bl aV.count bY b' d])).get (zX+1)=A (.row I 4 [bf]):=by rw[p _ aa];exact o.get aS
   refine bT ak (kq U) bg ?_;generalize l.set zC (.row I 4 [bl aV.count bY b' d])=S at*;have b3:=k1 (n:=aV.count) (a:=bY) (b:=b') (c:=d) aT a7 v.one K.one M.one;have bN:=ae.bm aT;have br:(S.set (zX+1) (.row I 4 [bl aV.count bY b' d])).get (zX+1)=A (.row I 4 [bl aV.count bY b' d]):=ae.cO bN;have a_:∀q,q≠zX+1->(S.set (zX+1) (.row I 4 [bl aV.count bY b' d])).get q=S.get q:=λq aH=>ae.b_ (Ne.symm aH)
   refine bT (kq bq) b3 (kq br) ?_;have u:du f (λL=>y.next<=L) (S.set (zX+1) (.row I 4 [bl aV.count bY b' d])) (λL=>zX<=L):=λq b (aH:y.next<=q) g=>⟨show zX<=q by omega,by rw[a_ q aa,p q aa];exact ab.get g⟩
   rw[ao];exact aE.2 ⟨⟨_,_,_,rfl,v.keep u,K.keep u,M.keep u,a9⟩,by have:=o.1;simp;omega,λq aH=>by rw[a_ q aa,p q aa,o.2 q aa]⟩
  ·have ak:aO aV.of≠aO ((List.range x.sites.length).map (dj R)):=λh=>a5 i aa (by
    grind[JE])
   refine bT ak (kq U) bg ?_;have a8:∀{av:Nat->Prop},(∀q,av q->q≠zC)->du H av (l.set zC (.row I 4 [bl aV.count bY b' d])) av:=λbw q b aH g=>⟨aH,by rw[p q (bw q aH)];exact o.get g⟩
   have u:du f (λL=>y.next<=L) (l.set zC (.row I 4 [bl aV.count bY b' d])) (λq=>zX<=q/\q≠zC):=λq b (aH:y.next<=q) g=>⟨show zX<=q/\q≠zC by omega,by rw[p q aa];exact ab.get g⟩
   refine(QK au bI a5 bA bC bz q (i+1) _ (.agg (bl aV.count bY b' d)) aa aa (aF.keep (a8 λq (aH:q<zX)=>aa)) (by rw[p zX aa];exact o.get aQ) (a6.keep (a8 λq (aH:q<zC)=>aa)) ⟨bf,by rw[p _ aa];exact o.get aS,a7⟩ ⟨_,_,_,_,rfl,ae.cO iS⟩ ?_).mono λr H' z=>⟨z.1,⟨by have:=z.2.1;have:=o.1;omega,λq aH=>by rw[z.2.2 q aH,p q aa,o.2 q aa]⟩⟩
   rw[ao];exact⟨_,_,_,rfl,v.keep u,K.keep u,M.keep u,a9⟩
theorem ad7(au:right x=J){V:af}(aF:cE H ok x V):W (aK P aD 37 [V] H) λr H'=>ky H' (λL=>H.next<=L) (a2.fK x) r/\aw H H':=by
 have B:=fG au;have aN:=B.sites;obtain⟨E,aJ,ad,aj,aL⟩:=Ju (b7 x) x.sites.length (cons x);have n:=aF;obtain⟨_,rfl,a,b,cc,d,rfl,ah,ai,ay,aM⟩:=aF;refine agu (E+101) ?_;obtain⟨zX,i⟩:∃zX,zX=H.next:=⟨_,rfl⟩
 have ao:=aw.push H (.row I 5 [[a,b,cc,d,D F x.main]]);have R:=ae.a1 H (.row I 5 [[a,b,cc,d,D F x.main]]);have K:=aw.push (H.push (.row I 5 [[a,b,cc,d,D F x.main]])) (.row I 4 [bl 0 .aq .aq .aq]);have y:=ae.a1 (H.push (.row I 5 [[a,b,cc,d,D F x.main]])) (.row I 4 [bl 0 .aq .aq .aq]);have h:=K.get R;have M:(H.push (.row I 5 [[a,b,cc,d,D F x.main]])).next=zX+1:=by rw[i];simp
 have ar:∀(k:af->ae->O),fA (H.push (.row I 5 [[a,b,cc,d,D F x.main]])) [D F 0,.aq,.aq,.aq] k=k (.ptr (zX+1) 0 0) ((H.push (.row I 5 [[a,b,cc,d,D F x.main]])).push (.row I 4 [bl 0 .aq .aq .aq])):=λk=>by rw[kf,kh,M];rfl
 rw[M]at y;rw[<-i]at h;simp only[Si,dQ ah ai ay aM,nq,ar,<-i];have f:=ao.trans K;generalize U:(H.push (.row I 5 [[a,b,cc,d,D F x.main]])).push (.row I 4 [bl 0 .aq .aq .aq])=N at*;have aO:N.next=zX+2:=by rw[<-U];simp[i]
 refine bK (cq h) ?_;refine bz (ad8 au (n.aC f)) λax u=> ?_
 have S:=u.get h;refine bK (cq S) ?_;refine e2 (aey au (n.aC (f.trans u))) λlv l G an=> ?_
 have m:=u.trans an;have aP:=f.trans m;have T:=m.get h;have al:∀H0,bD P H0 .len [25] [d]=A (D F x.sites.length):=λH0=>aM.len fV
 have aI:=zN au;refine bF (dh T) al ?_;refine Ly au (zO B) aa G.az ?_;intro aA c ab v;obtain⟨bY,b',e,rfl,p,s,t,am⟩:=ab;have ak:eb (b7 x) x.sites.length (cons x) 0=a2.merge (ho (b7 x) x.sites.length (cons x)) x.sites.length:=rfl;rw[<-ak]at p s t ⊢;generalize Y:eb (b7 x) x.sites.length (cons x) 0=aV at*;have av:∀(q:af->ae->O),fA c [D F 0,.aq,.aq,.aq] q=q (.ptr c.next 0 0) (c.push (.row I 4 [bl 0 .aq .aq .aq])):=λq=>by rw[kf,kh];rfl
 have ap:=ae.a1 c (.row I 4 [bl 0 .aq .aq .aq]);have mh:cz P (c.push (.row I 4 [bl 0 .aq .aq .aq])) 33 (.ptr c.next 0 0) (.agg (bl aV.count bY b' e))=A (c.push (.row I 4 [bl aV.count bY b' e])):=by
  rw[k1 ap rfl p.one s.one t.one,ae.lD]
 have w:=aw.push c (.row I 4 [bl aV.count bY b' e]);have Q:=ae.a1 c (.row I 4 [bl aV.count bY b' e]);have j:=(m.trans v).trans w;simp only[av,mh];rw[nr aW];have aE:zX+2<=l.next:=by have:=m.1;omega
 have aG:l.next<=c.next:=v.1
 refine(QK au ad aj rfl (zX:=zX) (zC:=c.next) aa aa (E+101) 0 _ (.agg (bl aV.count bY b' e)) aa aa (i▸n.keep λq b aH g=>⟨ae.bm g,(f.trans j).get g⟩) (j.get h) ((G.az.below.aC (v.trans w)).keep (.le λL aB=>aa)) ⟨_,j.get y,rfl⟩ ⟨_,_,_,_,rfl,Q⟩ ?_).mono λr H' z=>⟨?_,⟨by have:=z.2.1;have:=(f.trans j).1;omega,λq aH=>by rw[z.2.2 q aa,(f.trans j).2 q aH]⟩⟩
 ·rw[Y];have o:du c (λL=>l.next<=L) (c.push (.row I 4 [bl aV.count bY b' e])) (λq=>zX<=q/\q≠c.next):=λq b (aH:l.next<=q) g=>⟨show zX<=q/\q≠c.next by have:=ae.bm g;omega,w.get g⟩
  exact⟨_,_,_,rfl,p.keep o,s.keep o,t.keep o,am⟩
 grind[a2.fK]
end
end
section
open Go.a2
set_option maxRecDepth 2000
section
variable {x:bq}{k:a2.cK}
theorem PE{m:Nat}(a:fN (b7 x) m k){v:Nat}(b:v<b7 x):k.nodes[v]? =A (k.node v):=by
 have:v<k.nodes.length:=by rw[a.nl];omega
 grind[cK.node]
theorem OL(au:right x=J)(w:fN (b7 x) x.sites.length k){W0 zX B:Nat}{a b cc d ov nv fv gv uv:af}{n:Nat}(o:zX<B)(m:W0<B){Q:af->ae->Prop}{N:Nat}:∀(j i q:Nat) (H:ae) (v:af),i+j=x.globals.length->j<q->aZ aN B ba H ((List.range i).map λg=>k.node (eA x g)) v->B<=H.next->H.get W0=A (.row I 11 [gP a b cc d x.main n ov nv fv gv uv])->H.get zX=A (.row I 5 [[a,b,cc,d,D F x.main]])->cE H (· <B) x (.agg [a,b,cc,d,D F x.main])->aI aN H (· <B) k.nodes nv->
  (∀(c:af) (H':ae),aZ aN B ba H' ((List.range x.globals.length).map λg=>k.node (eA x g)) c->cg B H H'->W (CI (aK P aD) N (.ptr zX 0 0) (.ptr W0 0 0) c H') Q)->
  W (xH (aK P aD) N q (.ptr zX 0 0) (.ptr W0 0 0) v (D F x.globals.length) (D F i) H) Q
 |_,_,0,_,_,_,aH,_,_,_,_,_,_,_=>aa
 |0,i,q+1,H,v,aP,_,ar,l,cC,aQ,aF,aL,fin=>by
  have O:¬(i:Int)<(x.globals.length:Int):=aa;refine bF @xH.eq_2 @CH.eq_1 ?_;obtain rfl:i=x.globals.length:=aa;exact fin v H ar (.refl _ _)
 |j+1,i,q+1,H,v,aP,aH,ar,l,cC,aQ,aF,aL,fin=>by
  have u:i<x.globals.length:=aa;have L:=(fG au).globals;have on:=OL au w (a:=a) (b:=b) (cc:=cc) (d:=d) (ov:=ov) (fv:=fv) (gv:=gv) (uv:=uv) (n:=n) (nv:=nv) o m (Q:=Q) (N:=N) j (i+1) q;have M:eA x i<b7 x:=by grind[eA,b7]
  refine bT @xH.eq_2 @CH.eq_1 (cq aQ) ?_;refine bz (aaf au aF u) λH1 e=> ?_
  obtain⟨p,i1,i2⟩:=(aL.aC e).int (j:=((eA x i:Nat):Int)) (a:=k.node (eA x i)) aa (by grind[PE]);have y:=ar.aC e;have s:B<=H1.next:=by have:=e.1;omega
  obtain⟨c,f,r,h,a3,a4,a5⟩:=y.j4 (a:=k.node (eA x i)) s al;have K:(H1.push (.row I 1 [[D F (k.node (eA x i))]])).next<=f.next:=by grind[ae.fW]
  have rd:af.beq nv nv=true:=aL.rd;have z:bG (A nv) nv=true:=by simp[bG,rd]
  have pu:=(ek e l).trans a3;have t:((List.range i).map λg=>k.node (eA x g))++[k.node (eA x i)]=(List.range (i+1)).map λg=>k.node (eA x g):=by grind[List.range_succ]
  rw[t]at h;refine bb (iU cC) (iU (e.get cC)) i1 i2 @c3 (ag r z) ?_;exact on f c aa aa h aa ((pu.2 W0 m).trans cC) ((pu.2 zX o).trans aQ) (aF.keep λq b aH g=>⟨aH,by rw[pu.2 q aH];exact g⟩) (aL.eu pu) λc H' E G=>fin c H' E (pu.trans G)
end
end
section
open Go.a2
set_option maxRecDepth 2000
theorem ZO{fs:List (List Int)}{r dc:List Int}(h:∀c,c∈r↔c∈dc):fa fs r=fa fs dc:=by
 unfold fa;refine AQ λc _=>⟨λp=>p.mono λd a hm=> .root ((h _).1 hm) a,λp=>p.mono λd a hm=> .root ((h _).2 hm) a⟩
theorem acN(l g:List Nat):nQ (aO l) [aO g]=aO (oR l g):=by
 unfold nQ oR aO;rw[List.filter_map]
 congr 1
 refine List.filter_congr λa _=> ?_
 have h:(∀o∈[List.map (λ(n:Nat)=>(n:Int)) g],((a:Nat):Int)∉o)↔a∉g:=by
  simp only[List.mem_singleton,forall_eq];grind
 grind
section
variable {x:bq}{k:a2.cK}
theorem akS{f:Nat}{c:bQ}{p:Nat}(a:p<=c.vars.length):(k4 x k f c).take p=(List.range p).map λv=>k.node (bj x.ax f+v):=by
 unfold k4;rw[<-List.map_take,List.take_range,Nat.min_eq_left a]
theorem adI{f:Nat}{c:bQ}(a:c.params.toNat<=c.vars.length):nQ (aO (fa k.fields ((k4 x k f c).take c.params.toNat++[k.node (eM x f)]))) [aO (hM x k)]=aO (kU x k f c):=by
 grind[acN,akS,kU,ZO]
end
end
section
open Go.a2
set_option maxRecDepth 2000
section
variable {H:ae}{ok:Nat->Prop}
theorem ah_(H:ae)(l:List Int)(a:0<l.length):aI aN (H.push (.row I 1 (l.map λn=>[D F n]))) ba l (.az H.next 0 l.length 1 Z):=
 .inr (.inl ⟨H.next,0,Z,I,_,rfl,trivial,ae.a1 _ _,aW,λj x b=>⟨[D F x],al,rfl⟩⟩)
theorem adT{l:List Int}{r:af}(h:aI aN H ok l r)(aB:(r= .aq/\l.length=0)\/∃L i cap ro els,r= .az L i l.length 1 cap/\H.get L=A (.row ro 1 els)/\i+l.length<=els.length/\∀q,cap=A q->l.length<=q){p:Nat}(U:p<=l.length)(S:l.length<=1000000)(z:Int):
  ∃w f d,gI P 30 r Z (A (.int .i64 (p:Nat))) (A (.int .i64 (p:Nat)))=A w/\ej P (H.push (.row I 1 [[.int .i64 z]])) [30,30] w (.az H.next 0 1 1 (A 1))=A (f,d)/\aw H d/\(H.push (.row I 1 [[.int .i64 z]])).next<=d.next/\aI aN d ba (l.take p++[z]) f:=by
 have u:P.underlying 30=A (.slice 3):=aG;have O:cM P 3=A 1:=aG;have pp:=aw.push H (.row I 1 [[.int .i64 z]]);have E:=ae.a1 H (.row I 1 [[.int .i64 z]]);have one:aI aN (H.push (.row I 1 [[.int .i64 z]])) ba [z] (.az H.next 0 1 1 (A 1)):= .inr (.inl ⟨H.next,0,A 1,I,_,rfl,trivial,E,aW,λj x b=>by
  match j,b with
  |0,b=>cases b;exact⟨_,rfl,rfl⟩⟩)
 rcases aB with⟨rfl,R⟩|⟨L,i,cap,ro,els,rfl,g,aP,aA⟩
 ·have m:p=0:=aa;subst m;have az:gI P 30 .aq Z (A (.int .i64 ((0:Nat):Int))) (A (.int .i64 ((0:Nat):Int)))=A .aq:=aG;obtain⟨f,d,k,n,a3,a4,_⟩:=aZ.j4 (a:=z) (aZ.nil aN H.next ba H) (ds _) aW;exact⟨_,f,d,az,k,a3,by grind[ae.fW],by simpa using n.az⟩
 ·have T:l.length<=cap.getD l.length:=by
   cases cap with
   |none=>grind
   |some c=>grind
  have o:dR (A (.int .i64 ((p:Nat):Int))) 0 (cap.getD l.length)=A p:=by
   grind[dR]
  have s:dR (A (.int .i64 ((p:Nat):Int))) 0 p=A p:=by
   grind[dR]
  have t:dR Z 0 p=A 0:=rfl;have M:(l.take p).length=p:=al;have az:gI P 30 (.az L i l.length 1 cap) Z (A (.int .i64 (p:Nat))) (A (.int .i64 (p:Nat)))=A (.az L i (l.take p).length 1 (A (l.take p).length)):=by
   rw[M];simp only[gI,u,O,if_true,o,s,t,Nat.add_zero,Nat.sub_zero]
  have K:aI aN (H.push (.row I 1 [[.int .i64 z]])) ok (l.take p) (.az L i (l.take p).length 1 (A (l.take p).length)):=by
   rcases h with⟨e,_⟩|⟨L',V,Q,N,v,e,ai,B,aM,G⟩|⟨_,_,_,e,ar⟩
   ·cases e
   ·cases e;refine .inr (.inl ⟨L,i,_,N,v,rfl,ai,pp.get B,aa,λj y b=> ?_⟩);rw[List.getElem?_take]at b;split at b
    ·exact G j y b
    grind
   ·subst ar;have m:(([]:List Int).take p)=[]:=aW;rw[m];exact .inr (.inr ⟨L,i,A 0,rfl,rfl⟩)
  obtain⟨f,k,n⟩:=Vp K (pp.get g) aa one aW al;refine⟨_,f,_,az,k,pp.trans (aw.push _ _),aW,?_⟩;grind[ah_]
end
end
section
open Go.a2
set_option maxRecDepth 2000
structure oi(x:bq)(k:a2.cK)(zX W0 E i:Nat)(a b cc d:af)(n:Nat)(ov nv fv gv uv:af)(H:ae):Prop where
 aQ:H.get zX=some (.row false 5 [[a,b,cc,d,.int .i64 x.main]])
 cC:H.get W0=some (.row false 11 [gP a b cc d x.main n ov nv fv gv uv])
 aF:cE H (· <W0) x (.agg [a,b,cc,d,.int .i64 x.main])
 aX:aI aN H (· <W0) (aO k.of) ov
 aL:aI aN H (· <W0) k.nodes nv
 aA:hF nv
 aB:aI (bp aN) H (· <W0) k.fields fv
 aR:aI aN H (λq=>W0<q/\q<E) (aO (hM x k)) gv
 hu:aZ (bp aN) E (E<= ·) H ((List.range i).map λf=>aO (cr x k f)) uv
 gr:zX<W0/\W0<E/\E<=H.next
section
variable {x:bq}{k:a2.cK}{zX W0 E i:Nat}{a b cc d:af}{n:Nat}{ov nv fv gv uv:af}{H:ae}
theorem ajb{v:af}(g:H.get W0=A (.row I 11 [gP a b cc d x.main n ov nv fv gv uv]))(e:v.one=J):cz P H 31 (.ptr W0 0 10) v=A (H.set W0 (.row I 11 [gP a b cc d x.main n ov nv fv gv v])):=by
 have c:=dn e;rw[fb (n:=1) aG g rfl al al b0,c];rfl
theorem ajc{v:af}(g:H.get W0=A (.row I 11 [gP a b cc d x.main n ov nv fv gv uv]))(e:v.one=J):cz P H 30 (.ptr W0 0 9) v=A (H.set W0 (.row I 11 [gP a b cc d x.main n ov nv fv v uv])):=by
 have c:=dn e;rw[fb (n:=1) aG g rfl al al b0,c];rfl
def rp{m:Int}(g:H.get zX=A (.row I 5 [[a,b,cc,d,D F m]])):aJ P H 24 (.ptr zX 0 2)=A cc:=by rw[eW aG g rfl];rfl
theorem oi.step(s:oi x k zX W0 E i a b cc d n ov nv fv gv uv H){c:ae}{e:af}(p:cg E H c)(hu:aZ (bp aN) E (E<= ·) c ((List.range (i+1)).map λf=>aO (cr x k f)) e):oi x k zX W0 E (i+1) a b cc d n ov nv fv gv e (c.set W0 (.row I 11 [gP a b cc d x.main n ov nv fv gv e])):=by
 obtain⟨j,l2,l⟩:=s.gr;have o:∀q,q≠W0->(c.set W0 (.row I 11 [gP a b cc d x.main n ov nv fv gv e])).get q=c.get q:=(by grind[ae.b_]);have h:du H (· <W0) (c.set W0 (.row I 11 [gP a b cc d x.main n ov nv fv gv e])) (· <W0):=λq b aH g=>⟨aH,by rw[o q aa,p.2 q aa];exact g⟩
 have aL:=p.1;exact⟨by rw[o zX aa,p.2 zX aa];exact s.aQ,ae.cO aa,s.aF.keep h,s.aX.keep h,s.aL.keep h,s.aA,s.aB.keep h,s.aR.keep λq b aH g=>⟨aH,by rw[o q aa,p.2 q aH.2];exact g⟩,hu.keep λq b aH g=>al,j,l2,by simp;omega⟩
end
end
section
open Go.a2
set_option maxRecDepth 2000
section
variable {x:bq}{k:a2.cK}{zX W0 E:Nat}{a b cc d:af}{n:Nat}{ov nv fv gv:af}
def S3(l:Nat){v:af}(a:v.one=J):gu P l 31 1 [(0,v)]=A (.az l 0 1 1 (A 1),.row I 1 [[v]]):=qB l a
theorem OK(au:right x=J)(m:fN (b7 x) x.sites.length k){N:Nat}:∀(j i q:Nat) (H:ae) (uv:af),i+j=x.ax.length->j<q->oi x k zX W0 E i a b cc d n ov nv fv gv uv H->
  W (xG (aK P aD) N q (.ptr zX 0 0) (.ptr W0 0 0) (D F x.ax.length) (D F i) H) λr H'=>r= .ptr W0 0 0/\(∃uv',oi x k zX W0 E x.ax.length a b cc d n ov nv fv gv uv' H')/\H.next<=H'.next/\∀q,q<E->q≠W0->H'.get q=H.get q
 |_,_,0,_,_,_,aH,_=>aa
 |0,i,q+1,H,uv,aP,_,s=>by
  have bL:¬(i:Int)<(x.ax.length:Int):=aa;refine bT @xG.eq_2 @CG.eq_1 @IH.eq_1 ?_;grind[aE]
 |j+1,i,q+1,H,uv,aP,aH,s=>by
  have ak:i<x.ax.length:=aa;have S:=fG au;have a5:=S.sites;have bI:=S.ax;have on:=OK au m (N:=N) j (i+1) q;have aB:x.ax[i]? =A x.ax[i]:=List.getElem?_eq_getElem ak;generalize x.ax[i]=c at aB;have aj:=hI (S.code aB);obtain⟨a6,bd,bo⟩:=aj.params;have bN:=aj.vars;obtain⟨bO,l2,a_⟩:=s.gr;refine bF @xG.eq_2 @CG.eq_1 ?_;refine cB (T9 au m s.cC s.aF s.aL s.aA aB) ?_;rintro bU H1 ⟨v1,h,bs⟩;refine⟨h.1,?_⟩;have aU:=h.get s.aQ;refine bK (cq aU) ?_;refine bz (aep au (s.aF.aC h) ak) λQ Y=> ?_
  have e:=h.trans Y;have aV:=e.get s.aQ;have aG:=e.get s.cC;obtain⟨_,a4,bx,bA,bC,d1,ai,ar,av,R,ay⟩:=s.aF;cases a4;simp only[List.cons.injEq,and_true]at ai;obtain⟨rfl,rfl,rfl,rfl⟩:=ai;have aF:cE H (· <W0) x (.agg [a,b,cc,d,D F x.main]):=s.aF;obtain⟨L,li,bD,bE,bk,bR,bS,b2⟩:=R.oC (j:=(i:Int)) aa (fH aB);have u:∀{H':ae},aw H H'->aJ P H' 3 (.ptr L li 0)=A (D F ((c.params.toNat:Nat):Int)):=λp=>al
  have a7:(k4 x k i c).length=c.vars.length:=by simp[k4]
  obtain⟨w,bV,bw,s1,s2,bg,bQ,br⟩:=adT (H:=Q) (v1.aC Y) (by
   rw[a7];rcases bs with z|⟨L',a9,cap,ro,els,bu,bv,z3,z4⟩
   ·grind
   ·exact .inr ⟨L',a9,cap,ro,els,bu,Y.get bv,z3,z4⟩) (p:=c.params.toNat) aa aa (k.node (eM x i))
  have bM:eM x i<b7 x:=by grind[eM,b7]
  obtain⟨bi,i1,i2⟩:=(s.aL.aC e).int (j:=((eM x i:Nat):Int)) (a:=k.node (eM x i)) aa (by grind[PE]);refine bb (rp aV) bk (u e) s1 (iU aG) (ag i1 (ag i2 (ag @c3 s2))) ?_;have M:=e.trans bg;have aM:=M.get s.cC;refine e2 (Ed m a5 aM (s.aB.aC M) br al) λec l f1 bh=> ?_
  have O:=M.trans bh;have aS:=O.get s.cC;have a2:=s.aR.one;have ad:=aw.push l (.row I 1 [[gv]]);refine bF (iU aS) (λz0=>S3 z0 a2) ?_;have bJ:=m.dz;have bH:=m.kH;have bc:∀r,(aO (fa k.fields r)).length<=60:=λr=>by
   grind[kW,aO,fa]
  have be:aI (bp aN) (l.push (.row I 1 [[gv]])) ba [aO (hM x k)] (.az l.next 0 1 1 (A 1)):= .inr (.inl ⟨l.next,0,A 1,I,_,rfl,trivial,ae.a1 _ _,aW,λj y T=>by
   match j,T with
   |0,T=>cases T;exact⟨[gv],rfl,gv,rfl,((s.aR.aC O).aC ad).any⟩⟩)
  refine cB (O8 al aW (λo aX=>by
   have:=bc ((List.range x.globals.length).map λg=>k.node (eA x g));simp only[List.mem_singleton]at aX;subst aX;exact Nat.le_trans this b0) (f1.az.aC ad) be) ?_
  rintro t v ⟨B,ao⟩;refine⟨ao.1,?_⟩;rw[adI aa]at B;have ap:cr x k i=kU x k i c:=by grind[cr]
  rw[<-ap]at B;have U:=O.trans ad;have V:=U.trans ao;have a3:H.next<=(l.push (.row I 1 [[gv]])).next:=U.1
  obtain⟨nm,ah,x1,x2,x3,x4,x5⟩:=aZ.sI (K:=bp aN) (ok:=(E<= ·)) (ok':=(E<= ·)) dJ s.hu a_ V (a:=aO (cr x k i)) (cs:=[t]) ⟨t,rfl,(B.kt fy).keep (.le λq aH=>Nat.le_trans a3 aH)⟩ (λq aH=>aa) al;have bW:(v.push (.row I 1 [[t]])).next<=ah.next:=by grind[ae.fW]
  have bt:ej P (v.push (.row I 1 [[t]])) [31,31] uv (.az v.next 0 1 1 (A 1))=A (nm,ah):=x1;have a0:((List.range i).map λf=>aO (cr x k f))++[aO (cr x k i)]=(List.range (i+1)).map λf=>aO (cr x k f):=by grind[List.range_succ]
  rw[a0]at x2;have aT:=(x3.2 W0 l2).trans s.cC;have st:=ajb aT x2.az.one;have bj:=aw.push v (.row I 1 [[t]]);have bf:=V.trans bj;have ab:=e.trans (aw.push Q (.row I 1 [[D F (k.node (eM x i))]]));have bq:bG (A (.agg [a,b,cc,d,D F x.main])) (.agg [a,b,cc,d,D F x.main])=true:=by simp[bG,af.beq,e9.beq,ar.rd,av.rd,R.rd,ay.rd]
  have a8:bG (A cc) cc=true:=by simp[bG,R.rd]
  have bm:bG (A nv) nv=true:=by simp[bG,s.aL.rd]
  have bl:bG (A gv) gv=true:=by simp[bG,s.aR.rd]
  have bn:bG (A uv) uv=true:=by simp[bG,s.hu.az.rd]
  have an:∀{H':ae},aw H H'->aJ P H' 27 (.ptr zX 0 0)=A (.agg [a,b,cc,d,D F x.main]):=λp=>cq (p.get s.aQ)
  have lc:∀{H':ae},aw H H'->aJ P H' 24 (.ptr zX 0 2)=A cc:=λp=>rp (p.get s.aQ)
  have lw:∀{H':ae},aw H H'->aJ P H' 30 (.ptr W0 0 7)=A nv/\aJ P H' 30 (.ptr W0 0 9)=A gv/\aJ P H' 31 (.ptr W0 0 10)=A uv:=λp=>⟨(iU (p.get s.cC)).2.2.1,(iU (p.get s.cC)).2.2.2.2.1,(iU (p.get s.cC)).2.2.2.2.2⟩
  have G:=aw.refl H;have bP:aJ P Q 3 bi=A (D F (k.node (eM x i))):=i2;simp-implicitDefEqProofs(disch:=try exact aY)only[reduceAdd,reduceLeDiff,reduceIte,bB,lw V,S3 _ B.az.one,bt,st,an G,an h,lc G,lc h,lc e,lc ab,u G,u h,u e,u ab,lw G,lw h,lw e,lw M,lw O,lw U,lw bf,lw ab,i2,bq,a8,bm,bl,bn,fz,Bool.and_self,Bool.and_true,e8 (show i<=1000000000 by omega)];refine(on _ nm aa aa (s.step x3 x2)).mono λr H' z=>⟨z.1,z.2.1,by have:=z.2.2.1;have:=x3.1;simp at*;omega,λq aH am=>by rw[z.2.2.2 q aH am,ae.b_ (Ne.symm am),x3.2 q aH]⟩
end
end
section
open Go.a2
set_option maxRecDepth 2000
section
variable {x:bq}{H:ae}{ok:Nat->Prop}
def JI(aR:∀g∈x.ax,g.vars.length<=1000000000)(aP:∀c∈x.ax,c.ins.length<=1000000000)(au:right x=I){V:af}(aF:cE H ok x V):W (aK P aD 38 [V] H) λr H'=>r= .gC/\aw H H':=by
 have h:=aF;obtain⟨_,rfl,a,b,cc,d,rfl,ah,ai,ay,aM⟩:=aF;refine Ru 0 ?_;have e:=aw.push H (.row I 5 [[a,b,cc,d,D F x.main]]);have f:=ae.a1 H (.row I 5 [[a,b,cc,d,D F x.main]]);refine bT @CF.eq_1 (dQ ah ai ay aM) (cq f) ?_;refine bz (rh (h.aC e) aR aP) λK p=> ?_
 rw[au];refine bM ?_;exact aE.2 ⟨rfl,e.trans p⟩
theorem JJ(au:right x=J){V:af}(aF:cE H ok x V):W (aK P aD 38 [V] H) λr H'=>∃zX W0 E a b cc d n ov nv fv gv uv,r= .ptr W0 0 0/\oi x (a2.fK x) zX W0 E x.ax.length a b cc d n ov nv fv gv uv H'/\aw H H':=by
 have w:=aF;have u:=fG au;have v:=u_ x;obtain⟨_,rfl,a,b,cc,d,rfl,ah,ai,ay,aM⟩:=aF;refine Ru (x.globals.length+x.ax.length+1) ?_;have L:=aw.push H (.row I 5 [[a,b,cc,d,D F x.main]]);have i:=ae.a1 H (.row I 5 [[a,b,cc,d,D F x.main]]);refine bT @CF.eq_1 (dQ ah ai ay aM) (cq i) ?_;refine bz (rh (w.aC L) (rD u) (rE au)) λK p=> ?_
 rw[au];refine bK (cq (p.get i)) ?_;refine e2 (WV au ((w.aC L).aC p)) ?_;rintro _ c ⟨ov,nv,fv,rfl,a6,bd,bo,bO⟩ aU;generalize a5:a2.fK x=k at*;have ab:=p.trans aU;have m:=ab.get i;have aV:bG (A (.agg [a,b,cc,d,D F x.main])) (.agg [a,b,cc,d,D F x.main])=true:=by simp[bG,af.beq,e9.beq,ah.rd,ai.rd,ay.rd,aM.rd]
 have ad:ey P 76 [(0,.agg [a,b,cc,d,D F x.main]),(1,.agg (bl k.count ov nv fv))]=A (.agg (gP a b cc d x.main k.count ov nv fv .aq .aq)):=KZ;have aj:fl c.next (.agg (gP a b cc d x.main k.count ov nv fv .aq .aq))=A (.ptr c.next 0 0,.row I 11 [gP a b cc d x.main k.count ov nv fv .aq .aq]):=by
  have ak:=ah.one;have am:=ai.one;have an:=ay.one;have ao:=aM.one;have ap:=a6.one;have ar:=bd.one;have av:=bo.one;simp[fl,af.cells,gP,ak,am,an,ao,ap,ar,av];rfl
 have e:=aw.push c (.row I 11 [gP a b cc d x.main k.count ov nv fv .aq .aq]);have t:=ae.a1 c (.row I 11 [gP a b cc d x.main k.count ov nv fv .aq .aq]);have aT:∀{H':ae},H'.get H.next=A (.row I 5 [[a,b,cc,d,D F x.main]])->aJ P H' 23 (.ptr H.next 0 1)=A b:=λg=>by rw[eW aG g rfl];rfl
 have aS:∀H0,bD P H0 .len [23] [b]=A (D F x.globals.length):=λH0=>ai.len cW
 refine bb (cq m) ad aj (cq (p.get i)) aV (ag (aT (e.get m)) aS) ?_;have aE:H.next<c.next:=ae.bm m
 have a3:H.next<K.next:=ae.bm (p.get i)
 have G:=(L.trans ab).trans e;obtain⟨W0,j⟩:∃W0,W0=c.next:=⟨_,rfl⟩
 rw[<-j]at t aE ⊢;have a9:(c.push (.row I 11 [gP a b cc d x.main k.count ov nv fv .aq .aq])).next=W0+1:=by rw[j];simp
 have Q:=e.get m;have U:cE (c.push (.row I 11 [gP a b cc d x.main k.count ov nv fv .aq .aq])) (· <W0) x (.agg [a,b,cc,d,D F x.main]):=w.keep λq b aH g=>⟨by have:=ae.bm g;omega,G.get g⟩
 have aL:aI aN (c.push (.row I 11 [gP a b cc d x.main k.count ov nv fv .aq .aq])) (· <W0) (aO k.of) ov:=j▸a6.below.aC e;have T:aI aN (c.push (.row I 11 [gP a b cc d x.main k.count ov nv fv .aq .aq])) (· <W0) k.nodes nv:=j▸bd.below.aC e;have S:aI (bp aN) (c.push (.row I 11 [gP a b cc d x.main k.count ov nv fv .aq .aq])) (· <W0) k.fields fv:=j▸bo.below.aC e;generalize c.push (.row I 11 [gP a b cc d x.main k.count ov nv fv .aq .aq])=s at*;refine OL au v (zX:=H.next) (W0:=W0) (B:=W0+1) aa aa x.globals.length 0 _ s .aq aa aa (aZ.nil aN _ _ _) aa t Q (U.keep (.le λq aH=>aa)) (T.keep (.le λq aH=>aa)) ?_
 intro a_ M aR f;have N:=(f.2 W0 aa).trans t;have aA:=(f.2 H.next aa).trans Q;have aQ:du s (· <W0) M (· <W0):=λq b (aH:q<W0) g=>⟨aH,by rw[f.2 q aa];exact g⟩
 have aP:=u.sites;have a4:=u.globals;refine bK @CI.eq_1 ?_;refine e2 (Ed v aP N (S.keep aQ) aR.az al) λgv h Y l=> ?_
 have O:=l.get N;have aB:=l.get aA;have st:=ajc O Y.az.one;have pP:=ae.bm O;have y:∀q,q≠W0->(h.set W0 (.row I 11 [gP a b cc d x.main k.count ov nv fv gv .aq])).get q=h.get q:=λq aH=>ae.b_ (Ne.symm aH)
 have R:=(y H.next aa).trans aB;have lc:∀H0,bD P H0 .len [24] [cc]=A (D F x.ax.length):=λH0=>ay.len cG
 refine bT st (rp R) lc ?_;have o:du s (· <W0) (h.set W0 (.row I 11 [gP a b cc d x.main k.count ov nv fv gv .aq])) (· <W0):=λq b (aH:q<W0) g=>⟨aH,by rw[y q aa];exact l.get (by rw[f.2 q aa];exact g)⟩
 have a7:=f.1;have a8:=l.1;have aX:oi x k H.next W0 h.next 0 a b cc d k.count ov nv fv gv .aq (h.set W0 (.row I 11 [gP a b cc d x.main k.count ov nv fv gv .aq])):=⟨R,ae.cO pP,U.keep o,aL.keep o,T.keep o,bO,S.keep o,(Y.kt fy).keep λq b (aH:M.next<=q) g=>⟨⟨aa,ae.bm g⟩,al⟩,aZ.nil (bp aN) _ _ _,aa,pP,aW⟩
 refine(OK au v x.ax.length 0 _ _ .aq aa aa aX).mono λr H' z=> ?_
 obtain⟨rfl,⟨uv,s1⟩,a0,z3⟩:=z;refine⟨_,_,_,_,_,_,_,_,_,_,_,_,_,rfl,s1,by have:=G.1;simp at a0;omega,λq aH=> ?_⟩;rw[z3 q aa aa,y q aa,l.2 q aa,f.2 q aa,G.2 q aH]
end
end
section
open Go.a2
set_option maxRecDepth 2000
section
variable {x:bq}{H:ae}{ok:Nat->Prop}
theorem ain(au:right x=J){V:af}(aF:cE H ok x V){f:Int}:W (aK P aD 22 [V,D F f] H) λr H'=>aI aN H' ba (if 0<=f then aO (cr x (a2.fK x) f.toNat)else[]) r/\aw H H':=by
 have l:=aF;obtain⟨_,rfl,a,b,cc,d,rfl,ah,ai,ay,aM⟩:=aF;refine Rt 0 ?_;have e:=aw.push H (.row I 5 [[a,b,cc,d,D F x.main]]);have h:=ae.a1 H (.row I 5 [[a,b,cc,d,D F x.main]]);refine bT @Cg.eq_1 (dQ ah ai ay aM) (cq h) ?_;refine cB (JJ au (l.aC e)) ?_;rintro _ K ⟨zX,W0,E,bY,b',m,o,n,ov,nv,fv,gv,uv,rfl,s,p⟩;refine⟨p.1,?_⟩;have ne:bx P .neq 73 J (.ptr W0 0 0) .gC=A (C J):=aG;have i:aJ P K 24 (.ptr H.next 0 2)=A cc:=rp (p.get h);have lc:∀H0,bD P H0 .len [24] [cc]=A (D F x.ax.length):=λH0=>ay.len cG
 by_cases c:0<=f
 ·by_cases g:f<x.ax.length
  ·obtain⟨q,w,i1,i2,i3⟩:=aI.list s.hu.az (j:=f) (a:=aO (cr x (a2.fK x) f.toNat)) c (by
    grind)
   refine ob ne c g @decide_true i (ag lc (ag (iU s.cC) (ag i1 i2))) ?_;exact aE.2 ⟨i3.any,e.trans p⟩
  ·refine ob ne c g @decide_true @decide_false (ag i lc) ?_;have k:cr x (a2.fK x) f.toNat=[]:=by
    grind[cr]
   exact aE.2 ⟨by rw[k];exact .nil,e.trans p⟩
 ·refine D6 ne c @decide_false ?_;exact aE.2 ⟨.nil,e.trans p⟩
end
end
section
open Go.a2
set_option maxRecDepth 2000
section
variable {x:bq}{H:ae}{ok:Nat->Prop}
end
end
section
open Go.a2
set_option maxRecDepth 2000
def fi(a b cc d:af)(hn:Int)(n:Nat)(ov nv fv gv uv ch b6:af):List af:=[a,b,cc,d,D F hn,D F (n:Nat),ov,nv,fv,gv,uv,ch,b6]
section
variable {x:bq}{k:a2.cK}{zX W0:Nat}{a b cc d ov nv fv gv uv ch b6:af}{hn:Int}{n:Nat}{H:ae}
def gL(g:H.get W0=A (.row I 13 [fi a b cc d hn n ov nv fv gv uv ch b6])):aJ P H 24 (.ptr W0 0 2)=A cc/\aJ P H 30 (.ptr W0 0 6)=A ov/\aJ P H 30 (.ptr W0 0 7)=A nv/\aJ P H 31 (.ptr W0 0 8)=A fv/\aJ P H 30 (.ptr W0 0 9)=A gv/\aJ P H 31 (.ptr W0 0 10)=A uv/\aJ P H 31 (.ptr W0 0 11)=A ch/\aJ P H 31 (.ptr W0 0 12)=A b6:=by
 refine⟨?_,?_,?_,?_,?_,?_,?_,?_⟩<;>(rw[eW aG g rfl];rfl)
theorem aiS{v:af}(g:H.get W0=A (.row I 13 [fi a b cc d hn n ov nv fv gv uv ch b6]))(e:v.one=J):cz P H 30 (.ptr W0 0 9) v=A (H.set W0 (.row I 13 [fi a b cc d hn n ov nv fv v uv ch b6])):=by
 have c:=dn e;rw[fb (n:=1) aG g rfl al al b0,c];rfl
theorem aiP{v:af}(g:H.get W0=A (.row I 13 [fi a b cc d hn n ov nv fv gv uv ch b6]))(e:v.one=J):cz P H 31 (.ptr W0 0 10) v=A (H.set W0 (.row I 13 [fi a b cc d hn n ov nv fv gv v ch b6])):=by
 have c:=dn e;rw[fb (n:=1) aG g rfl al al b0,c];rfl
theorem aiQ{v:af}(g:H.get W0=A (.row I 13 [fi a b cc d hn n ov nv fv gv uv ch b6]))(e:v.one=J):cz P H 31 (.ptr W0 0 11) v=A (H.set W0 (.row I 13 [fi a b cc d hn n ov nv fv gv uv v b6])):=by
 have c:=dn e;rw[fb (n:=1) aG g rfl al al b0,c];rfl
theorem aiR{v:af}(g:H.get W0=A (.row I 13 [fi a b cc d hn n ov nv fv gv uv ch b6]))(e:v.one=J):cz P H 31 (.ptr W0 0 12) v=A (H.set W0 (.row I 13 [fi a b cc d hn n ov nv fv gv uv ch v])):=by
 have c:=dn e;rw[fb (n:=1) aG g rfl al al b0,c];rfl
structure fX(x:bq)(k:a2.cK)(zX W0:Nat)(a b cc d:af)(ov nv fv gv uv ch b6:af)(H:ae):Prop where
 aQ:H.get zX=some (.row false 5 [[a,b,cc,d,.int .i64 x.main]])
 cC:H.get W0=some (.row false 13 [fi a b cc d x.main k.count ov nv fv gv uv ch b6])
 aF:cE H (· <W0) x (.agg [a,b,cc,d,.int .i64 x.main])
 aX:aI aN H (· <W0) (aO k.of) ov
 aL:aI aN H (· <W0) k.nodes nv
 aB:aI (bp aN) H (· <W0) k.fields fv
 iD:zX<W0
def fX.lt(s:fX x k zX W0 a b cc d ov nv fv gv uv ch b6 H):W0<H.next:=ae.bm s.cC
def fX.eu{H':ae}{B:Nat}(s:fX x k zX W0 a b cc d ov nv fv gv uv ch b6 H)(p:cg B H H')(f:W0<B):fX x k zX W0 a b cc d ov nv fv gv uv ch b6 H':=by
 have e:du H (· <W0) H' (· <W0):=λq c (aH:q<W0) g=>⟨aH,by rw[p.2 q aa];exact g⟩
 have:=s.iD;exact⟨(p.2 zX aa).trans s.aQ,(p.2 W0 f).trans s.cC,s.aF.keep e,s.aX.keep e,s.aL.keep e,s.aB.keep e,s.iD⟩
theorem fX.aC{H':ae}(s:fX x k zX W0 a b cc d ov nv fv gv uv ch b6 H)(p:aw H H'):fX x k zX W0 a b cc d ov nv fv gv uv ch b6 H':=s.eu (ek p aa) s.lt
theorem fX.set{gv' uv' tv' wv':af}(s:fX x k zX W0 a b cc d ov nv fv gv uv ch b6 H):fX x k zX W0 a b cc d ov nv fv gv' uv' tv' wv' (H.set W0 (.row I 13 [fi a b cc d x.main k.count ov nv fv gv' uv' tv' wv'])):=by
 have o:∀q,q≠W0->(H.set W0 (.row I 13 [fi a b cc d x.main k.count ov nv fv gv' uv' tv' wv'])).get q=H.get q:=(by grind[ae.b_]);have e:du H (· <W0) (H.set W0 (.row I 13 [fi a b cc d x.main k.count ov nv fv gv' uv' tv' wv'])) (· <W0):=λq c (aH:q<W0) g=>al
 have:=s.iD;exact⟨by rw[o zX aa];exact s.aQ,ae.cO s.lt,s.aF.keep e,s.aX.keep e,s.aL.keep e,s.aB.keep e,s.iD⟩
theorem Ua{nn m:Nat}(h:fN nn m k)(hm:m<=60){g:List Nat}{lv:af}(M:g.length<=900000)(z:∀v∈g,v<nn){B:Nat}(y:W0<B){N:Nat}:∀(j i q:Nat) (H:ae) (rv:af),i+j=g.length->j<q->fX x k zX W0 a b cc d ov nv fv gv uv ch b6 H->aI aN H (· <B) (aO g) lv->B<=H.next->aZ aN B ba H ((g.take i).map k.node) rv->
  W (yK (aK P aD) N q (.ptr W0 0 0) lv rv (D F (i:Nat)) H) λr H'=>aZ aN B ba H' (aO (fa k.fields (g.map k.node))) r/\cg B H H'
 |_,_,0,_,_,_,aH,_,_,_,_=>aa
 |0,i,q+1,H,rv,aP,_,s,ar,t,au=>by
  have Y:¬(i:Int)<(g.length:Int):=aa;have u:∀H0,bD P H0 .len [30] [lv]=A (D F g.length):=λH0=>by rw[ar.len bV,fI]
  have w:dS (.ptr W0 0 0)=A (.ptr W0 0 0):=rfl;refine bb @yK.eq_2 @DM.eq_1 @Jd.eq_1 u w (gL s.cC) ?_;rw[List.take_of_length_le aa]at au;refine cB (QX s.aB au.az (by have:=h.dz;have:=h.kH;omega) (λf aB=>by have:=h.f8 f aB;omega) al) ?_;rintro r H1 ⟨l,o⟩;refine⟨o.1,aE.2 ⟨⟨l.eS,λL n c e=>by have:=l.low L n c e;omega⟩,ek o t⟩⟩
 |j+1,i,q+1,H,rv,aP,aH,s,ar,t,au=>by
  have O:i<g.length:=aa;have u:∀H0,bD P H0 .len [30] [lv]=A (D F g.length):=λH0=>by rw[ar.len bV,fI]
  have w:dS (.ptr W0 0 0)=A (.ptr W0 0 0):=rfl;have ah:=z _ (List.getElem_mem O);have ab:g[i]<k.nodes.length:=by rw[h.nl];omega
  obtain⟨ai,Q,R⟩:=ar.int (j:=(i:Int)) (a:=(g[i]:Int)) aa (by grind[lJ,List.getElem?_eq_getElem]);have ad:k.nodes[g[i]]? =A (k.node g[i]):=by grind[cK.node]
  obtain⟨aj,S,T⟩:=s.aL.int (j:=(g[i]:Int)) (a:=k.node g[i]) aa al;have on:=Ua (lv:=lv) h hm M z y (N:=N) j (i+1) q;have eZ:(g.take (i+1)).map k.node=(g.take i).map k.node++[k.node g[i]]:=by grind[List.take_succ_eq_append_getElem]
  rw[eZ]at on;obtain⟨U,H',E,G,p,K,_⟩:=au.j4 (a:=k.node g[i]) t al;have hle:H.next+1<=H'.next:=K
  refine bb @yK.eq_2 @DM.eq_1 u w (gL s.cC) (ag Q (ag R (ag S (ag T (ag @c3 E))))) ?_;refine(on H' U aa aa (s.eu p y) (ar.eu p) aa G).mono ?_;rintro r V ⟨l,o⟩;exact⟨l,p.trans o⟩
def JP{nn m:Nat}{ok:Nat->Prop}(f:fN nn m k)(hm:m<=60){c:List Nat}{lv:af}(e:c.length<=900000)(g:∀v∈c,v<nn)(s:fX x k zX W0 a b cc d ov nv fv gv uv ch b6 H)(ar:aI aN H ok (aO c) lv):
  W (aK P aD 87 [.ptr W0 0 0,lv] H) λr H'=>aZ aN H.next ba H' (aO (fa k.fields (c.map k.node))) r/\aw H H':=by
 refine ag1 (c.length+1) ?_;rw[Sw];refine(Ua f hm e g s.lt c.length 0 _ H .aq aa aa s ar.below Nat.le.refl (aZ.nil _ _ _ _)).mono ?_;rintro r H' ⟨h,i⟩;exact⟨h,i.aC⟩
theorem alf{ok y z:Nat->Prop}{f:Nat}{l g:List Int}{us:List (List Int)}{lv:af}(s:fX x k zX W0 a b cc d ov nv fv gv uv ch b6 H)(ar:aI aN H ok l lv)(aR:aI aN H y g gv)(hu:aI (bp aN) H z us uv){u:List Int}(aB:us[f]? =A u)(t:l.length<=1000000)(R:g.length<=1000000)(S:u.length<=1000000):
  W (aK P aD 92 [.ptr W0 0 0,D F (f:Nat),lv] H) λr H'=>aZ aN H.next ba H' (h3 (h3 l g) u) r/\aw H H':=by
 refine ag7 0 ?_;have o:dS (.ptr W0 0 0)=A (.ptr W0 0 0):=rfl;refine bT @SB.eq_1 o (gL s.cC) ?_;refine e2 (G1 ar aR t aa) λU H1 v h=> ?_
 have s1:=s.aC h;obtain⟨L,i,ro,els,cs,E,_,G,M,w,rfl,q⟩:=hu.at_ (K:=bp aN) dJ (j:=(f:Int)) (a:=u) aa al;have lw:∀{H':ae},aw H H'->aJ P H' 30 (.ptr L i 0)=A w:=λp=>by rw[eW sg (p.get G) M];rfl
 have T:(h3 l g).length<=l.length:=List.length_filter_le _ _;refine cu o (gL s1.cC) E (lw h) ?_;refine e2 (G1 v.az (q.aC h) aa aa) λV Q m B=> ?_
 have N:bG (A uv) uv=true:=dD hu;have O:bG (A w) w=true:=dD q;refine bb (gL s.cC) (gL s1.cC) (lw h) (lw (aw.refl H)) N O ?_;have aL:=h.1;exact aE.2 ⟨⟨m.eS,λL n c e=>by have:=m.low L n c e;omega⟩,h.trans B⟩
theorem ale{ok S:Nat->Prop}(Q:ep x){m:Nat}(u:fN (b7 x) x.sites.length k)(hm:m<=60){f:Nat}{co:bQ}{i:In}{wi:af}(aB:x.ax[f]? =A co)(E:dM x f co i=J)(hw:aI aN H ok i.args wi)(s:fX x k zX W0 a b cc d ov nv fv gv uv ch b6 H)(hu:aI (bp aN) H S ((List.range x.ax.length).map λf=>aO (cr x k f)) uv):
  W (aK P aD 91 [.ptr W0 0 0,.agg (cf i wi)] H) λr H'=>aI aN H' ba (aO (eX x k i)) r/\aw H H':=by
 refine ag6 0 ?_;have K:dS (.ptr W0 0 0)=A (.ptr W0 0 0):=rfl;have l:=aw.push H (.row I 6 [cf i wi]);have U:(H.push (.row I 6 [cf i wi])).get H.next=A (.row I 6 [[D F i.op,D F i.a,D F i.b,D F i.c,D F i.n,wi]]):=ae.a1 _ _
 refine bF @SA.eq_1 (dm hw) ?_;have p:=s.aC l;have R:=hu.aC l;generalize H.push (.row I 6 [cf i wi])=H0 at*;generalize H.next=zI at*
 have v:=fU U;have site:∀n:Int,0<=n->n.toNat<x.sites.length->(aO k.of)[n.toNat]? =A (k.site n):=λn y ah=>by
  have ar:n.toNat<k.of.length:=by rw[u.Gz];omega
  grind[cK.site,aO]
 have alloc:0<=i.n->i.n.toNat<x.sites.length->(i.op=11\/i.op=12)->W (yS (aK P aD) (.ptr W0 0 0) (.ptr zI 0 0) (D F i.op) (C J) H0) λr H'=>aI aN H' ba (aO (eX x k i)) r/\aw H H':=by
  intro y ah aX;obtain⟨an,T,V⟩:=p.aX.int (j:=i.n) (a:=k.site i.n) y (site _ y ah);have L:=aw.push H0 (.row I 1 [[D F (k.site i.n)]]);have M:=p.aC L;refine bb @yS.eq_1 K (gL p.cC) (o U) T (ag V @c3) ?_;refine e2 (QX M.aB (hd H0 ba trivial (k.site i.n)) (by have:=u.dz;have:=u.kH;have:=Q.sites;omega) (λf aB=>by have:=u.f8 f aB;omega) aW) λr H1 aj ak=> ?_
  have ad:bG (A fv) fv=true:=dD s.aB;refine bT (gL p.cC) (gL M.cC) ad ?_;have e:eX x k i=fa k.fields [k.site i.n]:=if_pos aX;rw[e];exact aE.2 ⟨aj.az,(l.trans L).trans ak⟩
 by_cases z:i.op=11
 ·have t:∀j:Int,(i.op==j)=(11==j):=λj=>al
  have h:=kF (o9 z E).2;have:=alloc h.1 h.2.1 (.inl z);simp-implicitDefEqProofs(disch:=try exact aY)only[reduceAdd,reduceLeDiff,reduceIte,bB,v,t,Int.reduceBEq];omega
 have N:(i.op==11)=false:=beq_eq_false_iff_ne.2 z;by_cases B:i.op=12
 ·have t:∀j:Int,(i.op==j)=(12==j):=λj=>al
  have h:=kF (o_ B E).2;have:=alloc h.1 h.2.1 (.inr B);simp-implicitDefEqProofs(disch:=try exact aY)only[reduceAdd,reduceLeDiff,reduceIte,bB,v,t,Int.reduceBEq];omega
 have O:(i.op==12)=false:=beq_eq_false_iff_ne.2 B;by_cases G:i.op=13
 ·obtain⟨g,aR⟩:=ni G E;have am:=(List.getElem?_eq_some_iff.1 aR.at_.2).1;have t13:(i.op==13)=true:=al;obtain⟨q,w,Y,aa,ab⟩:=R.list (j:=i.c) (a:=aO (cr x k i.c.toNat)) aR.at_.1 al;refine bb @yS.eq_1 v N O t13 (ag K (ag (gL p.cC) (ag (o U) (ag Y aa)))) ?_;have e:eX x k i=cr x k i.c.toNat:=by grind[eX]
  rw[e];exact aE.2 ⟨ab.any,l⟩
 ·have ai:(i.op==13)=false:=beq_eq_false_iff_ne.2 G;refine bb @yS.eq_1 @DT.eq_1 v N O ai ?_;have e:eX x k i=[]:=by grind[eX]
  rw[e];exact aE.2 ⟨.nil,l⟩
end
end
end Go.Proofs.YtmhhnnklfcbgfaaGreat
namespace Go.a2
open Go.cv
section
open Classical
section
variable {n m:Nat}{l:List bt}{R:Nat->Nat->Prop}
end
def Gb{l r:List Nat}{a:Nat}:a∈oR l r↔a∈l/\a∉r:=by simp[oR]
end
section
open Classical
theorem GO:∀{r l:List Int},l.length<=(gV l r).length
 |[],_=>ds _
 |a::r,l=>Nat.le_trans (QA (v:=a)) (GO (r:=r))
def QF:∀{r l:List Int},fP l->(gV l r).length=l.length->(∀a∈r,a∈l)/\gV l r=l
 |[],_,_,_=>⟨λa h=>by grind,rfl⟩
 |a::r,l,au,h=>by
  have ah:=GO (r:=r) (l:=gU l a);rw[gV]at h;have b:a∈l:=by
   apply Classical.byContradiction;intro aL;have:=QC aL;omega
  have e:=QB au b;rw[e]at h;obtain⟨i1,i2⟩:=QF (r:=r) au h;grind[gV]
def gf(k:cK)(tl:Nat->List Int)(i:In):List Int:=if i.op=11\/i.op=12 then[k.site i.n]else if i.op=13 then tl i.c.toNat else[]
def mO(out l:List Int):List Int:=l.filter λa=>decide (a∈out)
theorem F_{out l:List Int}{a:Int}:a∈mO out l↔a∈l/\a∈out:=by simp[mO]
def lA(k:cK)(tl:Nat->List Int)(out:List Int):List In->List Int->List Int
 |[],cur=>cur
 |i::is,cur=>lA k tl out is (gV cur (mO out (gf k tl i)))
theorem AD(k:cK)(tl:Nat->List Int)(out:List Int):∀(is:List In) (cur:List Int),lA k tl out is cur=gV cur (is.flatMap λi=>mO out (gf k tl i))
  |[],_=>rfl
  |i::is,cur=>by
   rw[lA,AD k tl out is,List.flatMap_cons];exact(d _ _ _).symm
 where d:∀(a b l:List Int),gV l (a++b)=gV (gV l a) b
  |[],_,_=>rfl
  |c::a,b,l=>by rw[List.cons_append,gV,gV];exact d a b _
def aew{k:cK}{tl:Nat->List Int}{out:List Int}{is:List In}{cur:List Int}(h:fP cur):fP (lA k tl out is cur):=by
 grind[AD,vX]
def O1{k:cK}{tl:Nat->List Int}{out:List Int}{is:List In}{cur:List Int}{a:Int}:a∈lA k tl out is cur↔a∈cur\/∃i∈is,a∈gf k tl i/\a∈out:=by
 grind[AD,Ay,F_]
structure jQ(x:bq)(k:cK)(tl:Nat->List Int):Prop where
 tx:∀f,fP (tl f)
 snd:∀f,∀a∈tl f,∃c:Nat,a=c/\c<k.count/\jP x k f c
theorem jQ.start(x:bq)(k:cK):jQ x k λ_=>[]:=⟨λ_=>List.Pairwise.nil,λf a h=>by grind⟩
def jQ.len{x:bq}{k:cK}{tl:Nat->List Int}(h:jQ x k tl)(f:Nat):(tl f).length<=k.count:=vV (h.tx f) λa b=>by
 obtain⟨c,rfl,ah,_⟩:=h.snd f a b;omega
def tt{x:bq}{k:cK}{f c:Nat}(h:c∈cr x k f):c<k.fields.length:=by
 unfold cr at h;split at h
 ·have ah:=(Gb.1 h).1;exact(g4.1 ah).1
 grind
def jQ.now{x:bq}{k:cK}{tl:Nat->List Int}(h:jQ x k tl)(g:k.fields.length=k.count){f:Nat}{co:bQ}(aB:x.ax[f]? =A co):∀a∈lA k tl ((cr x k f).map λ(n:Nat)=>(n:Int)) co.ins (tl f),∃c:Nat,a=c/\c<k.count/\jP x k f c:=by
 intro a d;rcases O1.1 d with ah|⟨i,aP,ah,ai⟩
 ·exact h.snd f a ah
 ·obtain⟨c,aA,rfl⟩:=List.mem_map.1 ai;refine⟨c,rfl,g▸tt aA,?_⟩;unfold gf at ah;split at ah
  ·rename_i aX;simp only[List.mem_singleton]at ah;exact .site aB aP aX ah.symm aA
  ·split at ah
   ·rename_i aX;obtain⟨b,e,_,a_⟩:=h.snd _ _ ah;obtain rfl:c=b:=by omega
    exact .call aB aP aX a_ aA
   grind
def g8(tl:Nat->List Int)(f:Nat)(l:List Int):Nat->List Int:=λg=>if g=f then l else tl g
theorem jQ.dF{x:bq}{k:cK}{tl:Nat->List Int}(h:jQ x k tl){f:Nat}{l:List Int}(au:fP l)(b:∀a∈l,∃c:Nat,a=c/\c<k.count/\jP x k f c):jQ x k (g8 tl f l):=by
 refine⟨λg=> ?_,λg=> ?_⟩
 ·unfold g8;split
  ·omega
  ·exact h.tx g
 ·unfold g8;split
  ·grind
  ·exact h.snd g
def km(tl:Nat->List Int):Nat->Nat
 |0=>0
 |f+1=>km tl f+(tl f).length
def va{tl:Nat->List Int}{m:Nat}(h:∀f,(tl f).length<=m):∀n,km tl n<=n*m
 |0=>by simp[km]
 |f+1=>by
  have:=va h f;grind[km]
theorem Fb{tl:Nat->List Int}{f:Nat}{l:List Int}(h:(tl f).length<l.length):∀n,km tl n<=km (g8 tl f l) n/\(f<n->km tl n<km (g8 tl f l) n)
 |0=>⟨ds _,(by omega)⟩
 |g+1=>by
  have a:=Fb h g;grind[km,g8]
structure lS(n:Nat)(t:Bool)(tl:Nat->List Int)(b:Bool)(a:Nat->List Int):Prop where
 le:km tl n<=km a n
 on:b=true->t=true\/km tl n<km a n
 off:b=false->t=false/\a=tl
theorem lS.refl(n:Nat)(t:Bool)(tl:Nat->List Int):lS n t tl t tl:=⟨(by omega),.inl,λh=>⟨h,rfl⟩⟩
theorem lS.trans{n:Nat}{t j l:Bool}{B f g:Nat->List Int}(h:lS n t B j f)(k:lS n j f l g):lS n t B l g:=
 ⟨Nat.le_trans h.le k.le,λe=>by
  rcases k.on e with i|i
  ·rcases h.on i with m|m
   ·grind
   ·exact .inr (by have:=k.le;omega)
  ·exact .inr (by have:=h.le;omega),λe=>by
  obtain⟨a,b⟩:=k.off e;obtain⟨c,d⟩:=h.off a;grind⟩
theorem lS.dF{n f:Nat}{t:Bool}{tl:Nat->List Int}{l:List Int}(aB:f<n)(h:(tl f).length<l.length):lS n t tl J (g8 tl f l):=
 ⟨(Fb h n).1,(by grind[Fb]),λe=>by cases e⟩
def lM(x:bq)(k:cK)(tl:Nat->List Int)(f:Nat):Prop:=∀co,x.ax[f]? =A co->∀i∈co.ins,∀a∈gf k tl i,a∈((cr x k f).map λ(n:Nat)=>(n:Int))->a∈tl f
def jQ.end{x:bq}{k:cK}{tl:Nat->List Int}(h:jQ x k tl)(b:k.fields.length=k.count)(aA:∀f,f<x.ax.length->lM x k tl f)(f:Nat):tl f=(lI x k f).map λ(n:Nat)=>(n:Int):=by
 have key:∀{f c},jP x k f c->(c:Int)∈tl f:=by
  intro f c a_
  induction a_ with
  |site ah aP aX d a=>
   refine aA _ (by grind) _ ah _ aP _ ?_ (by grind);grind[gf]
  |call ah aP aX _ a e=>
   refine aA _ (by grind) _ ah _ aP _ ?_ (by grind);grind[gf]
 exact vW (h.tx f) (h.snd f) λn _ aL=>key aL
def acM(l g:List Nat):h3 (l.map λ(n:Nat)=>(n:Int)) (g.map λ(n:Nat)=>(n:Int))=(oR l g).map λ(n:Nat)=>(n:Int):=by
 grind[h3,oR,List.filter_congr]
def l1(cur:List Int):List (List Int)->List Int
 |[]=>cur
 |l::ls=>l1 (sO cur l) ls
def OZ{a:Int}:∀{ls:List (List Int)} {cur:List Int},a∈l1 cur ls↔a∈cur\/∃l∈ls,a∈l
 |[],cur=>by simp[l1]
 |l::ls,cur=>by
  rw[l1,OZ (ls:=ls),OY];grind
def Q6:∀{ls:List (List Int)} {cur:List Int},fP cur->fP (l1 cur ls)
 |[],_,h=>h
 |l::ls,cur,_=>Q6 (ls:=ls) (Q5 cur l)
def adK{x:bq}{k:cK}{f:Nat}{co:bQ}(c:x.ax[f]? =A co)(l:List Int)(au:fP l)(hm:∀a,a∈l↔∃n:Nat,a=n/\(fC k.fields ((List.range co.vars.length).map λv=>k.node (bj x.ax f+v)) n\/∃i∈co.ins,n∈eX x k i)):
  h3 (h3 l ((hM x k).map λ(n:Nat)=>(n:Int))) ((kU x k f co).map λ(n:Nat)=>(n:Int))=(oU x k f co).map λ(n:Nat)=>(n:Int):=by
 have e:∀{g:List Nat} {n:Nat},((n:Nat):Int)∈(g.map λ(n:Nat)=>(n:Int))↔n∈g:=by
  grind
 have d:∀n:Nat,(fC k.fields ((List.range co.vars.length).map λv=>k.node (bj x.ax f+v)) n\/∃i∈co.ins,n∈eX x k i)->n<k.fields.length:=by
  rintro n (h|⟨i,_,h⟩)
  ·cases h with
   |root _ aA=>omega
   |step _ _ _ ar=>omega
  ·unfold eX at h;split at h
   ·exact(g4.1 h).1
   ·split at h
    ·exact tt h
    grind
 unfold oU;refine vW (Q8 (Q8 au)) (λa b=> ?_) λn aL j=> ?_
 ·obtain⟨ah,ai⟩:=Ga.1 b;grind[Ga]
 grind[Ga]
end
end Go.a2
namespace Go.Proofs.YtmhhnnklfcbgfaaGreat
open Go.cv
open Nat (reduceAdd reduceLeDiff)
section
open Go.a2
set_option maxRecDepth 2000
section
variable {x:bq}{k:a2.cK}{zX W0 T E:Nat}{a b cc d ov nv fv gv uv b6:af}
structure sw(n T:Nat)(tl:Nat->List Int)(dv:Nat->af)(H:ae):Prop where
 g:H.get T=some (.row false 1 ((List.range n).map λf=>[dv f]))
 ar:∀f,f<n->aI aN H (T< ·) (tl f) (dv f)/\hF (dv f)
theorem sw.aC{n:Nat}{tl:Nat->List Int}{dv:Nat->af}{H H':ae}(s:sw n T tl dv H)(p:aw H H'):sw n T tl dv H':=⟨p.get s.g,λf aB=>⟨(s.ar f aB).1.aC p,(s.ar f aB).2⟩⟩
theorem sw.at_{n:Nat}{tl:Nat->List Int}{dv:Nat->af}{H:ae}(s:sw n T tl dv H){f:Nat}(aB:f<n):ct P 31 (.az T 0 n 1 (A n)) (D F (f:Nat))=A (.ptr T f 0)/\aJ P H 30 (.ptr T f 0)=A (dv f):=by
 refine⟨mQ dJ aB,?_⟩;rw[eW sg s.g (e:=[dv f]) al];rfl
structure la(x:bq)(k:a2.cK)(zX W0 T E:Nat)(a b cc d ov nv fv gv uv b6:af)(tl:Nat->List Int)(dv:Nat->af)(H:ae):Prop where
 aV:fX x k zX W0 a b cc d ov nv fv gv uv (.az T 0 x.ax.length 1 (some x.ax.length)) b6 H
 hu:aI (bp aN) H (λq=>W0<q/\q<E) ((List.range x.ax.length).map λf=>aO (cr x k f)) uv
 eZ:sw x.ax.length T tl dv H
 gr:W0<E/\E<=T
theorem la.aC{tl:Nat->List Int}{dv:Nat->af}{H H':ae}(s:la x k zX W0 T E a b cc d ov nv fv gv uv b6 tl dv H)(p:aw H H'):la x k zX W0 T E a b cc d ov nv fv gv uv b6 tl dv H':=⟨s.aV.aC p,s.hu.aC p,s.eZ.aC p,s.gr⟩
theorem TB{tl:Nat->List Int}{dv:Nat->af}{f:Nat}(aB:f<x.ax.length)(B:(cr x k f).length<=1000000){H0:ae}(t:la x k zX W0 T E a b cc d ov nv fv gv uv b6 tl dv H0){x2 x5 x6 lv:af}{l:List Int}{okl:Nat->Prop}(n:aI aN H0 okl l lv)(y:l.length<=10000000){L0:af->af->ae->O}{L1:af->af->af->ae->O}{L4:af->af->af->af->af->af->ae->O}{Q:af->ae->Prop}{N:Nat}:∀(j i q:Nat) (H:ae) (cur:List Int) (c:af),i+j=l.length->j<q->aw H0 H->aI aN H (T< ·) cur c->hF c->cur.length<=10000000+i->
  (∀(H':ae) (h:af),aw H0 H'->aI aN H' (T< ·) (gV cur (mO (aO (cr x k f)) (l.drop i))) h->hF h->W (n3 (aK P aD) N L0 L1 L4 (.ptr W0 0 0) x2 (D F (f:Nat)) h x5 x6 H') Q)->
  W (yP (aK P aD) N L0 L1 L4 q (.ptr W0 0 0) x2 (D F (f:Nat)) c x5 x6 lv (D F (i:Nat)) H) Q
 |_,_,0,_,_,_,_,aH,_,_,_,_,_=>aa
 |0,i,q+1,H,cur,c,aP,_,p,aA,m,v,fin=>by
  have ar:=n.aC p;have U:¬(i:Int)<(l.length:Int):=aa;refine bT @yP.eq_2 @DQ.eq_1 (ar.bf bV) ?_;rw[List.drop_of_length_le aa]at fin;exact fin H c p aA m
 |j+1,i,q+1,H,cur,c,aP,aH,p,aA,m,v,fin=>by
  have ar:=n.aC p;have s:=t.aC p;have z:i<l.length:=aa;have G:dS (.ptr W0 0 0)=A (.ptr W0 0 0):=rfl;obtain⟨V,o,r⟩:=ar.int (j:=(i:Int)) (a:=l[i]) aa al;obtain⟨Y,w,K,L,M⟩:=s.hu.list (j:=(f:Int)) (a:=aO (cr x k f)) aa al;have u:=e8 (show i<=1000000000 by omega);have on:=TB aB B t (x2:=x2) (x5:=x5) (x6:=x6) n y (L0:=L0) (L1:=L1) (L4:=L4) (Q:=Q) (N:=N) j (i+1) q;have dU:T<H.next:=ae.bm s.eZ.g
  rw[List.drop_eq_getElem_cons z]at fin;refine bb @yP.eq_2 @DQ.eq_1 (ar.bf bV) G (gL s.aV.cC) (ag K (ag L (ag o r))) ?_;refine dK (Q3 M (by rw[fI];omega)) ?_;by_cases he:l[i]∈aO (cr x k f)
  ·have e:mO (aO (cr x k f)) (l[i]::l.drop (i+1))=l[i]::mO (aO (cr x k f)) (l.drop (i+1)):=by grind[mO]
   rw[e,gV]at fin;refine bT he o r ?_;refine e2 (GP aA m aa) ?_;rintro h H1 ⟨R,S⟩ pp;refine bF @Je.eq_1 u ?_;exact on H1 _ h aa aa (p.trans pp) (R.keep (.le aa)) S (by grind[AS]) fin
  ·have e:mO (aO (cr x k f)) (l[i]::l.drop (i+1))=mO (aO (cr x k f)) (l.drop (i+1)):=by grind[mO]
   rw[e]at fin;refine bT @Je.eq_1 he u ?_;grind
theorem ahP(a:fN (b7 x) x.sites.length k){n:Int}(b:0<=n)(ah:n.toNat<x.sites.length):(aO k.of)[n.toNat]? =A (k.site n):=by
 have ar:n.toNat<k.of.length:=by rw[a.Gz];omega
 grind[cK.site,aO]
theorem TC(v:ep x)(o:fN (b7 x) x.sites.length k){tl:Nat->List Int}{dv:Nat->af}(G:jQ x k tl){f:Nat}{co:bQ}(aB:x.ax[f]? =A co)(ai:(cr x k f).length<=1000000){H0:ae}(am:la x k zX W0 T E a b cc d ov nv fv gv uv b6 tl dv H0){x2 gw:af}{aW:Nat->Prop}(M:aI fJ H0 aW co.ins gw)(aS:co.ins.length<=1000000){L0:af->af->ae->O}{L1:af->af->af->ae->O}{Q:af->ae->Prop}{N:Nat}(aL:100<N):∀(j i q:Nat) (H:ae) (cur:List Int) (e:af),i+j=co.ins.length->j<q->aw H0 H->aI aN H (T< ·) cur e->hF e->fP cur->(∀z∈cur,∃c:Nat,z=c/\c<k.count/\jP x k f c)->
  (∀(H':ae) (r:af),aw H0 H'->aI aN H' (T< ·) (lA k tl (aO (cr x k f)) (co.ins.drop i) cur) r->hF r->W (n2 (aK P aD) N L0 L1 (.ptr W0 0 0) x2 (D F (f:Nat)) r H') Q)->
  W (r6 (aK P aD) N L0 L1 q (.ptr W0 0 0) x2 (D F (f:Nat)) e gw (D F (i:Nat)) H) Q
 |_,_,0,_,_,_,_,aH,_,_,_,_,_,_=>aa
 |0,i,q+1,H,cur,e,aP,_,p,aA,w,_,_,fin=>by
  have hw:=M.aC p;have a_:¬(i:Int)<(co.ins.length:Int):=aa;refine bT @r6.eq_2 @DP.eq_1 (hw.bf eJ) ?_;rw[List.drop_of_length_le aa]at fin;exact fin H e p aA w
 |j+1,i,q+1,H,cur,e,aP,aH,p,aA,w,aj,be,fin=>by
  have hw:=M.aC p;have s:=am.aC p;have y:i<co.ins.length:=aa;have ak:dS (.ptr W0 0 0)=A (.ptr W0 0 0):=rfl;have aQ:=(List.getElem?_eq_some_iff.1 aB).1;have aT:=o.dz;have a9:=o.kH;have bd:=v.sites;obtain⟨L,nn,ro,els,cs,S,_,a1,a2,wi,rfl,bi⟩:=hw.at_ (K:=fJ) eJ (j:=(i:Int)) (a:=co.ins[i]) aa al;have aG:H.get L=A (.row ro 6 els):=a1;have R:aJ P H 3 (.ptr L nn 0)=A (D F co.ins[i].op)/\aJ P H 3 (.ptr L nn 3)=A (D F co.ins[i].c)/\aJ P H 3 (.ptr L nn 4)=A (D F co.ins[i].n):=by
   refine⟨?_,?_,?_⟩<;>(rw[eW qG aG a2];rfl)
  have B:dM x f co co.ins[i]=true:=(hI (v.code aB)).ins (List.getElem_mem y);have aU:=List.getElem_mem y;have a5:=e8 (show i<=1000000000 by omega);have on:=TC v o G aB ai am (x2:=x2) M aS (L0:=L0) (L1:=L1) (Q:=Q) aL j (i+1) q;rw[List.drop_eq_getElem_cons y,lA]at fin;generalize co.ins[i]=ins at*;have a8:cur.length<=k.count:=vV aj λz l=>al
  have walk:∀{lv:af} {okl:Nat->Prop} {H1:ae},aw H H1->aI aN H1 okl (gf k tl ins) lv->(gf k tl ins).length<=90->W (yL (aK P aD) N L0 L1 (r6 (aK P aD) N L0 L1 q) (.ptr W0 0 0) x2 (D F (f:Nat)) e gw (D F (i:Nat)) lv H1) Q:=by
   intro lv okl H1 pp ar bc;rw[yL];refine TB aQ ai (s.aC pp) ar aa (gf k tl ins).length 0 N H1 cur e aa aa (.refl _) (aA.aC pp) w aa ?_;intro au aE aZ ap a7;rw[List.drop_zero]at ap;refine bF @n3.eq_1 a5 ?_;refine on au _ aE aa aa ((p.trans pp).trans aZ) ap a7 (vX aj) (λz l=> ?_) fin;rcases Ay.1 l with h|h
   ·grind
   ·obtain⟨ay,aM⟩:=F_.1 h;exact G.now aT aB z (O1.2 (.inr ⟨ins,aU,ay,aM⟩))
  have alloc:0<=ins.n->ins.n.toNat<x.sites.length->(ins.op=11\/ins.op=12)->W (yM (aK P aD) N L0 L1 (r6 (aK P aD) N L0 L1 q) (.ptr W0 0 0) x2 (D F (f:Nat)) e gw (D F (i:Nat)) .aq (D F ins.op) (C J) H) Q:=by
   intro V ah aX;obtain⟨bh,a3,a4⟩:=s.aV.aX.int (j:=ins.n) (a:=k.site ins.n) V (ahP o V ah);have m:gf k tl ins=[k.site ins.n]:=if_pos aX;have a0:=aw.push H (.row I 1 [[D F (k.site ins.n)]]);have:=walk a0 (lv:= .az H.next 0 1 1 (A 1)) (okl:=ba) (by rw[m];exact hd H ba trivial _) al;refine bb @yM.eq_1 ak (gL s.aV.cC) S R (ag a3 (ag a4 @c3)) ?_;exact this
  refine dd @r6.eq_2 @DP.eq_1 (hw.bf eJ) S R ?_;by_cases Y:ins.op=11
  ·have t:∀j:Int,(ins.op==j)=(11==j):=λj=>al
   have l:=kF (o9 Y B).2;grind
  have an:(ins.op==11)=false:=beq_eq_false_iff_ne.2 Y;by_cases u:ins.op=12
  ·have t:∀j:Int,(ins.op==j)=(12==j):=λj=>al
   have l:=kF (o_ u B).2;have:=alloc l.1 l.2.1 (.inr u);simp-implicitDefEqProofs(disch:=try exact aY)only[reduceAdd,reduceLeDiff,reduceIte,bB,t,Int.reduceBEq];omega
  have ao:(ins.op==12)=false:=beq_eq_false_iff_ne.2 u;by_cases ab:ins.op=13
  ·obtain⟨g,aR⟩:=ni ab B;have ad:=(List.getElem?_eq_some_iff.1 aR.at_.2).1;have t13:(ins.op==13)=true:=al;have m:gf k tl ins=tl ins.c.toNat:=by grind[gf]
   obtain⟨U,av⟩:=s.eZ.at_ ad;have aF:((ins.c.toNat:Nat):Int)=ins.c:=Int.toNat_of_nonneg aR.at_.1;rw[aF]at U;have bg:=G.len ins.c.toNat;have:=walk (.refl H) (lv:=dv ins.c.toNat) (okl:=(T< ·)) (by rw[m];exact(s.eZ.ar _ ad).1) al;refine bb @yM.eq_1 an ao t13 ak (ag (gL s.aV.cC) (ag S (ag R (ag U av)))) ?_;omega
  ·have a6:(ins.op==13)=false:=beq_eq_false_iff_ne.2 ab;have m:gf k tl ins=[]:=by grind[gf]
   have:=walk (.refl H) (lv:= .aq) (okl:=ba) (by rw[m];exact .nil) al;refine cu @yM.eq_1 an ao a6 ?_;omega
end
end
section
open Go.a2
set_option maxRecDepth 2000
section
variable {x:bq}{k:a2.cK}{zX W0 T E:Nat}{a b cc d ov nv fv gv uv b6:af}
theorem la.store{tl:Nat->List Int}{dv:Nat->af}{H:ae}(s:la x k zX W0 T E a b cc d ov nv fv gv uv b6 tl dv H){f:Nat}(aB:f<x.ax.length){l:List Int}{v:af}(h:aI aN H (T< ·) l v)(aA:hF v):cz P H 30 (.ptr T f 0) v=A (H.set T (.row I 1 ((List.range x.ax.length).map λg=>[dp dv f v g])))/\la x k zX W0 T E a b cc d ov nv fv gv uv b6 (g8 tl f l) (dp dv f v) (H.set T (.row I 1 ((List.range x.ax.length).map λg=>[dp dv f v g]))):=by
 have o:∀q,q≠T->(H.set T (.row I 1 ((List.range x.ax.length).map λg=>[dp dv f v g]))).get q=H.get q:=(by grind[ae.b_]);have gr:=s.gr;have pu:cg T H (H.set T (.row I 1 ((List.range x.ax.length).map λg=>[dp dv f v g]))):=⟨aW,λq aH=>o q aa⟩;have kO:du H (T< ·) (H.set T (.row I 1 ((List.range x.ax.length).map λg=>[dp dv f v g]))) (T< ·):=λq c (aH:T<q) g=>al
 refine⟨y0 (t:=30) aG s.eZ.g aB h.one,s.aV.eu pu aa,s.hu.keep λq c aH g=>al,⟨ae.cO (ae.bm s.eZ.g),λg aR=> ?_⟩,gr⟩;by_cases e:g=f
 ·subst e;rw[hl,show g8 tl g l g=l from if_pos rfl];exact⟨h.keep kO,aA⟩
 ·rw[fm _ _ e,show g8 tl f l g=tl g from if_neg e];exact⟨(s.eZ.ar g aR).1.keep kO,(s.eZ.ar g aR).2⟩
theorem Tz(au:right x=J)(v:fN (b7 x) x.sites.length k)(ak:∀f,(cr x k f).length<=1000000){L0:af->af->ae->O}{Q:af->ae->Prop}{N:Nat}(aL:2600<N):∀(j i q:Nat) (H:ae) (tl:Nat->List Int) (dv:Nat->af) (t:Bool),i+j=x.ax.length->j<q->jQ x k tl->la x k zX W0 T E a b cc d ov nv fv gv uv b6 tl dv H->(t=I->∀f,f<i->lM x k tl f)->
  (∀(H':ae) (p:Nat->List Int) (aG:Nat->af) (B:Bool),jQ x k p->la x k zX W0 T E a b cc d ov nv fv gv uv b6 p aG H'->lS x.ax.length t tl B p->(B=I->∀f,f<x.ax.length->lM x k p f)->hg T H H'->W (L0 (.ptr W0 0 0) (C B) H') Q)->
  W (yO (aK P aD) N L0 q (.ptr W0 0 0) (C t) (D F (i:Nat)) H) Q
 |_,_,0,_,_,_,_,_,aH,_,_,_,_=>aa
 |0,i,q+1,H,tl,dv,t,aP,_,h,s,aA,fin=>by
  have a9:¬(i:Int)<(x.ax.length:Int):=aa;have m:dS (.ptr W0 0 0)=A (.ptr W0 0 0):=rfl;obtain⟨_,o,_⟩:∃z,aI fO H (· <W0) x.ax cc/\z=0:=by
   obtain⟨_,e,bY,b',ap,aE,rfl,ah,ai,ay,aM⟩:=s.aV.aF;grind
  refine dd @yO.eq_2 @DO.eq_1 m (gL s.aV.cC) (o.bf cG) ?_;exact fin H tl dv t h s (.refl _ _ _) al (.refl _ _)
 |j+1,i,q+1,H,tl,dv,t,aP,aH,h,s,aA,fin=>by
  have ad:=fG au;have l:i<x.ax.length:=aa;have a1:=ad.ax;have m:dS (.ptr W0 0 0)=A (.ptr W0 0 0):=rfl;obtain⟨_,o,_⟩:∃z,aI fO H (· <W0) x.ax cc/\z=0:=by
   obtain⟨_,e,bY,b',ap,aE,rfl,ah,ai,ay,aM⟩:=s.aV.aF;grind
  have aB:x.ax[i]? =A x.ax[i]:=al;have a7:=nT au;have a8:=oH (List.getElem_mem l);obtain⟨L,n,a0,gw,aW,aX,bS,b2⟩:=o.oC (j:=(i:Int)) (g:=x.ax[i]) aa al;obtain⟨an,ao⟩:=s.eZ.at_ l;have on:=Tz au v ak (L0:=L0) (Q:=Q) aL j (i+1) q;generalize x.ax[i]=co at*;refine bb @yO.eq_2 @DO.eq_1 m (gL s.aV.cC) (o.bf cG) (ag an (ag ao (ag aW (aX _ (aw.refl _))))) ?_;refine TC ad v h aB (ak i) s b2 aa aa co.ins.length 0 N H (tl i) (dv i) aa aa (.refl _) (s.eZ.ar i l).1 (s.eZ.ar i l).2 (h.tx i) (h.snd i) ?_;intro H1 ab y r aZ;rw[List.drop_zero]at r;have s1:=s.aC y;obtain⟨V,Y⟩:=s1.eZ.at_ l;have aS:=h.now v.dz aB
  have aR:fP (lA k tl (aO (cr x k i)) co.ins (tl i)):=aew (h.tx i);have aj:=(s1.eZ.ar i l).1;have aJ:=AD k tl (aO (cr x k i)) co.ins (tl i);have am:=e8 (show i<=1000000000 by omega);have a3:(lA k tl (aO (cr x k i)) co.ins (tl i)).length=(tl i).length->lM x k tl i:=by
   intro hlen av a4 ii aN z aT aU;obtain rfl:co=av:=al;rw[aJ]at hlen;exact(QF (h.tx i) hlen).1 z (List.mem_flatMap.2 ⟨ii,aN,F_.2 ⟨aT,aU⟩⟩)
  have a6:(tl i).length<=(lA k tl (aO (cr x k i)) co.ins (tl i)).length:=by grind[Go.a2.GO]
  have aQ:∀z∈lA k tl (aO (cr x k i)) co.ins (tl i),∃c:Nat,z=c/\c<k.count/\jP x k i c:=aS;generalize lA k tl (aO (cr x k i)) co.ins (tl i)=w at*;by_cases hlen:w.length=(tl i).length
  ·have d1:(((w.length:Nat):Int) != (((tl i).length:Nat):Int))=false:=al;refine bb @n2.eq_1 @nc.eq_1 (r.bf bV) m (gL s1.aV.cC) (ag V (ag Y (ag (aj.bf bV) (ag d1 am)))) ?_;refine on H1 tl dv t aa aa h s1 (λe f a5=> ?_) λu G hv t2 K M R S U=>fin u G hv t2 K M R S ((Ft y).trans U)
   grind
  ·have d1:(((w.length:Nat):Int) != (((tl i).length:Nat):Int))=true:=al;obtain⟨st,s2⟩:=s1.store l r aZ;have hle:H1.next<=(H1.set T (.row I 1 ((List.range x.ax.length).map λg=>[dp dv i ab g]))).next:=Nat.le.refl
   refine bb @n2.eq_1 @nc.eq_1 (r.bf bV) m (gL s1.aV.cC) (ag V (ag Y (ag (aj.bf bV) (ag d1 (ag st am))))) ?_;have ec:hg T H (H1.set T (.row I 1 ((List.range x.ax.length).map λg=>[dp dv i ab g]))):=(Ft y).trans ⟨Nat.le.refl,(by grind[ae.b_])⟩;refine on _ _ _ J aa aa (h.dF aR aQ) s2 (λe=>by cases e) λu G hv t2 K M R S U=>fin u G hv t2 K M ((lS.dF l aa).trans R) S (ec.trans U)
theorem TA(au:right x=J)(g:fN (b7 x) x.sites.length k)(j:∀f,(cr x k f).length<=1000000){N:Nat}(i:2600<N):∀(q:Nat) (H:ae) (tl:Nat->List Int) (dv:Nat->af) (t:Bool),(x.ax.length*k.count-km tl x.ax.length)+(if t then 1 else 0)<q->jQ x k tl->la x k zX W0 T E a b cc d ov nv fv gv uv b6 tl dv H->(t=I->∀f,f<x.ax.length->lM x k tl f)->
  W (yN (aK P aD) N q (.ptr W0 0 0) (C t) H) λr H'=>r= .tuple []/\∃c e,(∀f,c f=aO (lI x k f))/\la x k zX W0 T E a b cc d ov nv fv gv uv b6 c e H'/\hg T H H'
 |0,_,_,_,_,aH,_,_,_=>aa
 |q+1,H,tl,dv,t,aH,h,s,aA=>by
  have on:=TA au g j i q;cases t with
  |false=>
   refine bF @yN.eq_2 @DN.eq_1 ?_;exact aE.2 ⟨rfl,tl,dv,λf=>h.end g.dz (aA rfl) f,s,.refl _ _⟩
  |true=>
   refine bF @yN.eq_2 @DN.eq_1 ?_;have z:=(fG au).ax;refine Tz au g j i x.ax.length 0 N H tl dv I aa aa h s aa ?_;intro H1 l q4 t1 n p o u v;have ah:=va (tl:=l) (m:=k.count) n.len x.ax.length;have ai:=va (tl:=tl) (m:=k.count) h.len x.ax.length;have ay:=o.le;simp only[if_true]at aH;refine(on H1 l q4 t1 ?_ n p u).mono ?_
   ·cases t1 with
    |false=>grind
    |true=>
     have:=o.on rfl;grind
   ·rintro r H' ⟨rfl,c,e,w,y,z3⟩;exact⟨rfl,c,e,w,y,v.trans z3⟩
theorem AN(a:fN (b7 x) x.sites.length k)(f:Nat):(cr x k f).length<=k.count:=by
 unfold cr;split
 ·unfold kU oR;refine Nat.le_trans (List.length_filter_le _ _) ?_;unfold fa;rw[a.dz];exact kW _ _
 ·simp
theorem ajW{H:ae}{ch:af}(au:right x=J)(n:fN (b7 x) x.sites.length k)(s:fX x k zX W0 a b cc d ov nv fv gv uv ch b6 H)(hu:aI (bp aN) H (λq=>W0<q/\q<E) ((List.range x.ax.length).map λf=>aO (cr x k f)) uv)(t:W0<E)(O:E<=H.next):
  W (aK P aD 89 [.ptr W0 0 0] H) λr H'=>r= .tuple []/\∃tv',fX x k zX W0 a b cc d ov nv fv gv uv tv' b6 H'/\aI (bp aN) H' (λq=>H.next<=q) ((List.range x.ax.length).map λf=>aO (lI x k f)) tv'/\H.next<=H'.next/\∀q,q<H.next->q≠W0->H'.get q=H.get q:=by
 have m:=fG au;have Q:=m.ax;have S:=m.sites;have R:=n.kH;refine ag3 (x.ax.length*k.count+3000) ?_;have G:dS (.ptr W0 0 0)=A (.ptr W0 0 0):=rfl;obtain⟨_,u,_⟩:∃z,aI fO H (· <W0) x.ax cc/\z=0:=by
  obtain⟨_,e,bY,b',M,N,rfl,ah,ai,ay,aM⟩:=s.aF;cases e;exact⟨0,ay,rfl⟩
 have mk:=tn H.next x.ax.length aa
 obtain⟨T,dU⟩:∃T,T=H.next:=⟨_,rfl⟩
 have h:=aw.push H (.row I 1 ((List.range x.ax.length).map λ_=>[.aq]));have l:=ae.a1 H (.row I 1 ((List.range x.ax.length).map λ_=>[.aq]));have s1:=s.aC h;have y:=hu.aC h;have cX:(H.push (.row I 1 ((List.range x.ax.length).map λ_=>[af.aq]))).next=T+1:=by rw[dU];rfl
 rw[<-dU]at l mk;have pP:=s.lt;refine ob @Sy.eq_1 G (gL s.cC) (u.bf cG) dU.symm mk ?_;generalize H.push (.row I 1 ((List.range x.ax.length).map λ_=>[af.aq]))=H1 at*;have st:=aiQ (v:= .az T 0 x.ax.length 1 (A x.ax.length)) s1.cC rfl;have s2:=s1.set (gv':=gv) (uv':=uv) (tv':= .az T 0 x.ax.length 1 (A x.ax.length)) (wv':=b6);have o:∀q,q≠W0->(H1.set W0 (.row I 13 [fi a b cc d x.main k.count ov nv fv gv uv (.az T 0 x.ax.length 1 (A x.ax.length)) b6])).get q=H1.get q:=λq aH=>ae.b_ (Ne.symm aH)
 have U:(H1.set W0 (.row I 13 [fi a b cc d x.main k.count ov nv fv gv uv (.az T 0 x.ax.length 1 (A x.ax.length)) b6])).next=T+1:=by rw[<-cX];rfl
 have hle:H1.next<=(H1.set W0 (.row I 13 [fi a b cc d x.main k.count ov nv fv gv uv (.az T 0 x.ax.length 1 (A x.ax.length)) b6])).next:=Nat.le.refl
 refine Tn st ?_;have B:=y.keep (H':=H1.set W0 (.row I 13 [fi a b cc d x.main k.count ov nv fv gv uv (.az T 0 x.ax.length 1 (A x.ax.length)) b6])) (ok':=λq=>W0<q/\q<E) λq c aH g=>⟨aH,al⟩
 have p:=(o T aa).trans l;generalize H1.set W0 (.row I 13 [fi a b cc d x.main k.count ov nv fv gv uv (.az T 0 x.ax.length 1 (A x.ax.length)) b6])=j at*;have ts:la x k zX W0 T E a b cc d ov nv fv gv uv b6 (λ_=>[]) (λ_=> .aq) j:=⟨s2,B,⟨p,λf _=>⟨.nil,Lj⟩⟩,t,aa⟩;refine(TA au n (λf=>by grind[AN]) aa _ j _ _ J (by simp only[if_true];omega) (jQ.start x k) ts (λe=>by cases e)).mono ?_;rintro r H' ⟨rfl,tl,dv,L,i,z3⟩;have ay:=z3.1;refine⟨rfl,_,i.aV,?_,aa,λq aH w=> ?_⟩
 ·have:=yV (K:=aN) (ok:=λq=>T<=q) (f:=λf=>aO (lI x k f)) (ds T) i.eZ.g λf aB=>by
   have:=(i.eZ.ar f aB).1;rw[L]at this;exact this.keep (.le λq (aH:T<q)=>aa)
  exact this
 ·rw[z3.2 q aa aa,o q w,h.2 q aa]
end
end
section
open Go.a2
set_option maxRecDepth 2000
section
variable {x:bq}{k:a2.cK}{zX W0:Nat}{a b cc d ov nv fv gv uv ch b6:af}
theorem fX.ax{H:ae}(s:fX x k zX W0 a b cc d ov nv fv gv uv ch b6 H):aI fO H (· <W0) x.ax cc:=by
 obtain⟨_,e,bY,b',c,f,rfl,ah,ai,ay,aM⟩:=s.aF;grind
theorem fX.Nj{H:ae}(s:fX x k zX W0 a b cc d ov nv fv gv uv ch b6 H):aI fc H (· <W0) x.globals b:=by
 obtain⟨_,e,bY,b',c,f,rfl,ah,ai,ay,aM⟩:=s.aF;grind
theorem aj4(l:List Nat)(n:Nat):aO l++[(n:Int)]=aO (l++[n]):=by simp[aO]
theorem aZ.Gp{B:Nat}{H1:ae}{l:List Nat}{v:af}{a:Nat}(h:aZ aN B ba H1 (aO l) v)(c:B<=H1.next)(ar:l.length<=999999999):
  ∃b H',ej P (H1.push (.row I 1 [[D F (a:Nat)]])) [30,30] v (.az H1.next 0 1 1 (A 1))=A (b,H')/\aZ aN B ba H' (aO (l++[a])) b/\cg B H1 H'/\H1.next+1<=H'.next:=by
 obtain⟨b,H',d,e,f,g,_⟩:=h.j4 (a:=(a:Int)) c (by grind[fI]);grind[aj4]
theorem N3(au:right x=J){B:Nat}(h:W0<B){Q:af->ae->Prop}{N:Nat}:∀(j i q:Nat) (H:ae) (v:af),i+j=x.globals.length->j<q->fX x k zX W0 a b cc d ov nv fv gv uv ch b6 H->B<=H.next->aZ aN B ba H (aO ((List.range i).map (eA x))) v->
  (∀(H':ae) (v:af),cg B H H'->aZ aN B ba H' (aO ((List.range x.globals.length).map (eA x))) v->W (CP (aK P aD) N (.ptr zX 0 0) (.ptr W0 0 0) v H') Q)->
  W (xK (aK P aD) N q (.ptr zX 0 0) (.ptr W0 0 0) v (D F (i:Nat)) H) Q
 |_,_,0,_,_,_,aH,_,_,_,_=>aa
 |0,i,q+1,H,v,aP,_,s,e,ar,fin=>by
  have z:¬(i:Int)<(x.globals.length:Int):=aa;refine cu @xK.eq_2 @CK.eq_1 (dh s.aQ) (s.Nj.bf cW) ?_;obtain rfl:i=x.globals.length:=aa;exact fin H v (.refl _ _) ar
 |j+1,i,q+1,H,v,aP,aH,s,e,ar,fin=>by
  have f:=fG au;have y:=f.globals;have on:=N3 au h (Q:=Q) (N:=N) j (i+1) q;refine dd @xK.eq_2 @CK.eq_1 (dh s.aQ) (s.Nj.bf cW) (cq s.aQ) ?_;refine bz (QY f s.aF (g:=i) aa) λH1 c=> ?_
  have E:=c.1;obtain⟨r,H',m,n,o,w⟩:=(ar.aC c).Gp (a:=eA x i) aa al;refine bF @c3 m ?_;have pu:cg B H H':=(ek c e).trans o;have p:(List.range (i+1)).map (eA x)=(List.range i).map (eA x)++[eA x i]:=by grind[List.range_succ]
  rw[p]at on;exact on H' r aa aa (s.eu pu h) aa n λl v2 t u=>fin l v2 (pu.trans t) u
theorem N6(au:right x=J){f:Nat}{co:bQ}(aB:x.ax[f]? =A co){B:Nat}(m:W0<B){L9:af->af->af->ae->O}{Q:af->ae->Prop}{N:Nat}:∀(j i q:Nat) (H:ae) (v:af),i+j=co.params.toNat->j<q->fX x k zX W0 a b cc d ov nv fv gv uv ch b6 H->B<=H.next->aZ aN B ba H (aO (eM x f::(List.range i).map λv=>bj x.ax f+v)) v->
  (∀(H':ae) (v:af),cg B H H'->aZ aN B ba H' (aO (eM x f::(List.range co.params.toNat).map λv=>bj x.ax f+v)) v->W (CQ (aK P aD) N L9 (.ptr zX 0 0) (.ptr W0 0 0) (D F (f:Nat)) v H') Q)->
  W (xJ (aK P aD) N L9 q (.ptr zX 0 0) (.ptr W0 0 0) (D F (f:Nat)) v (D F (i:Nat)) H) Q
 |_,_,0,_,_,_,aH,_,_,_,_=>aa
 |j,i,q+1,H,v,aP,aH,s,w,ar,fin=>by
  have l:=fG au;have T:=(List.getElem?_eq_some_iff.1 aB).1;have y:=(hI (l.code aB)).params;obtain⟨L,n,S,gw,o,E,bS,b2⟩:=s.ax.oC (j:=(f:Int)) (g:=co) aa (fH aB);have z:co.params=((co.params.toNat:Nat):Int):=(Int.toNat_of_nonneg y.1).symm;have e:=(E _ (aw.refl _)).1;rw[z]at e
  match j,aP,aH with
  |0,aP,_=>
   have U:¬(i:Int)<((co.params.toNat:Nat):Int):=aa;refine dd @xJ.eq_2 @CJ.eq_1 (dh s.aQ) o e ?_;obtain rfl:i=co.params.toNat:=aa;exact fin H v (.refl _ _) ar
  |j+1,aP,aH=>
   have on:=N6 au aB m (L9:=L9) (Q:=Q) (N:=N) j (i+1) q;refine bb @xJ.eq_2 @CJ.eq_1 (dh s.aQ) o e (cq s.aQ) ?_;refine bz (Ry l s.aF (f:=f) (v:=i) aa aa) λH1 c=> ?_
   have V:=c.1;obtain⟨G,H',r,h,t,R⟩:=(ar.aC c).Gp (a:=bj x.ax f+i) aa al;refine bF @c3 r ?_;have pu:cg B H H':=(ek c w).trans t;have u:(eM x f::(List.range i).map λv=>bj x.ax f+v)++[bj x.ax f+i]=eM x f::(List.range (i+1)).map λv=>bj x.ax f+v:=by grind[List.range_succ]
   rw[u]at h;exact on H' G aa aa (s.eu pu m) aa h λp v2 K M=>fin p v2 (pu.trans K) M
theorem aZ.lit(H:ae)(n:Nat):aZ aN H.next ba (H.push (.row I 1 [[D F (n:Nat)]])) (aO [n]) (.az H.next 0 1 1 (A 1)):=
 ⟨.inr ⟨H.next,[[D F (n:Nat)]],A 1,rfl,trivial,ae.a1 _ _,by simp[aO],.inr rfl,λi a aP=>by
  rcases i with _|i
  ·cases aP;exact⟨_,rfl,rfl⟩
  ·simp[aO]at aP⟩,al⟩
theorem zU(fs:List (List Int))(r:List Int):(fa fs r).length<=fs.length:=kW _ _
theorem N2(au:right x=J)(h:fN (b7 x) x.sites.length k){E:Nat}(G:W0<E){Q:af->ae->Prop}{N:Nat}(aj:10<N):∀(j i q:Nat) (H:ae) (uv:af),i+j=x.ax.length->j<q->fX x k zX W0 a b cc d ov nv fv gv uv ch b6 H->E<=H.next->aI aN H (λq=>W0<q/\q<E) (aO (hM x k)) gv->aZ (bp aN) E (E<= ·) H ((List.range i).map λf=>aO (cr x k f)) uv->
  (∀(H':ae) (uv:af),fX x k zX W0 a b cc d ov nv fv gv uv ch b6 H'->H.next<=H'.next->(∀q,q<E->q≠W0->H'.get q=H.get q)->aZ (bp aN) E (E<= ·) H' ((List.range x.ax.length).map λf=>aO (cr x k f)) uv->W (r0 (aK P aD) N (.ptr zX 0 0) (.ptr W0 0 0) H') Q)->
  W (xO (aK P aD) N q (.ptr zX 0 0) (.ptr W0 0 0) (D F (i:Nat)) H) Q
 |_,_,0,_,_,_,aH,_,_,_,_,_=>aa
 |0,i,q+1,H,uv,aP,_,s,z,aR,ar,fin=>by
  have a1:¬(i:Int)<(x.ax.length:Int):=aa;refine cu @xO.eq_2 @CO.eq_1 (dh s.aQ) (s.ax.bf cG) ?_;grind
 |j+1,i,q+1,H,uv,aP,aH,s,z,aR,ar,fin=>by
  have e:=fG au;have aV:=e.ax;have am:=e.sites;have a0:=h.dz;have aX:=h.kH;have a2:i<x.ax.length:=aa;have aB:x.ax[i]? =A x.ax[i]:=al;have a5:=(hI (e.code aB)).params;have on:=N2 au h G (Q:=Q) aj j (i+1) q;have ak:cr x k i=kU x k i x.ax[i]:=by grind[cr]
  have a7:∀v,v<x.ax[i].params.toNat->bj x.ax i+v<b7 x:=λv an=>by
   have:=si aB (show v<x.ax[i].vars.length by omega);grind[b7]
  generalize x.ax[i]=co at*;have aJ:=e8 (show i<=1000000000 by omega);refine dd @xO.eq_2 @CO.eq_1 (dh s.aQ) (s.ax.bf cG) (cq s.aQ) ?_;refine bz (Rk e s.aF (f:=i) aa) λH1 O=> ?_
  have ap:=aw.push H1 (.row I 1 [[D F (eM x i:Nat)]]);have lit:=aZ.lit H1 (eM x i);have p:=O.trans ap;refine bK @c3 ?_;have pP:=s.lt;have a3:=O.1;refine N6 au aB (B:=H1.next) aa co.params.toNat 0 N _ _ aa aa (s.aC p) aW al ?_;intro U v2 S l2;have t:aw H U:=⟨by have:=p.1;have:=S.1;omega,λq aH=>by rw[S.2 q aa,p.2 q aH]⟩;have s2:=s.aC t;have a6:eM x i<b7 x:=by grind[eM,b7]
  have a4:=t.1;simp-implicitDefEqProofs(disch:=try exact aY)only[CQ];refine cB (JP h am al (λv an=> ?_) s2 l2.az) ?_
  ·grind
  rintro a8 V ⟨ao,u⟩;refine⟨u.1,?_⟩;have w:=s2.aC u;have r:=t.trans u;have L:dS (.ptr W0 0 0)=A (.ptr W0 0 0):=rfl;refine bF L (gL w.cC) ?_;refine e2 (G1 ao.az (aR.aC r) (by grind[fI,zU]) (by grind[fI,zU,hM])) λay Y n R=> ?_
  have hq:=w.aC R;have M:=r.trans R;have ah:h3 (aO (fa k.fields ((eM x i::(List.range co.params.toNat).map λv=>bj x.ax i+v).map k.node))) (aO (hM x k))=aO (cr x k i):=by
   have:=acM (fa k.fields ((eM x i::(List.range co.params.toNat).map λv=>bj x.ax i+v).map k.node)) (hM x k);rw[ak];refine this.trans ?_;unfold kU;rw[List.map_cons,List.map_map];rfl
  rw[ah]at n;obtain⟨l,H',ad,m,y,aT⟩:=ar.qV dJ z M ((n.kt fy).keep (.le λq (aH:V.next<=q)=>by show H.next<=q;have:=r.1;omega)) al;have av:=aw.push Y (.row I 1 [[ay]]);have aE:=hq.aC av;have rg:bG (A gv) gv=true:=dD aR;have aA:bG (A uv) uv=true:=by simp[bG,ar.az.rd]
  have T:=s.eu y G;have st:=aiP (v:=l) T.cC m.az.one;refine bb L (gL hq.cC) (λz0=>qB z0 n.az.one) ad st (ag (gL s2.cC) (ag (gL w.cC) (ag (gL aE.cC) (ag rg (ag aA (ag @xI.eq_1 aJ)))))) ?_;have o:∀q,q≠W0->(H'.set W0 (.row I 13 [fi a b cc d x.main k.count ov nv fv gv l ch b6])).get q=H'.get q:=λq aH=>ae.b_ (Ne.symm aH)
  have aU:=M.1;have ec:∀q,q<E->q≠W0->(H'.set W0 (.row I 13 [fi a b cc d x.main k.count ov nv fv gv l ch b6])).get q=H.get q:=λq aH K=>by rw[o q K,y.2 q aH]
  have ai:((List.range i).map λf=>aO (cr x k f))++[aO (cr x k i)]=(List.range (i+1)).map λf=>aO (cr x k f):=by grind[List.range_succ]
  rw[ai]at m;refine on _ l aa aa T.set (by simp;omega) (aR.keep λq c aH g=>⟨aH,al⟩) (m.keep λq c (aH:E<=q) g=>⟨aH,al⟩) λab aG aL aM a9 aS=>fin ab aG aL (by simp at aM;omega) (λq aH K=>al) aS
