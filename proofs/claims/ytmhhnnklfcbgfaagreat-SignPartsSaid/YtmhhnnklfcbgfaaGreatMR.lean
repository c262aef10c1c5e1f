/-
  Texts of one proof, laid together: Rl Sa Sb Sc ShI Ta Tb Tc SgM Td Te Tf Tg Th Ti Tj ShJ Tk Tl Tm Tn To Tp Tq SgN Tr Ts Tt ShK Tu Tv Sd Se Sf Sj.
-/
import Derived.Test.YtmhhnnklfcbgfaaGreatMP
set_option linter.unusedVariables false
set_option linter.unusedSimpArgs false
set_option linter.defProp false
open Option renaming some→D,none→I
open Bool renaming true→C,false→Z
open Go.bz.ae renaming int→J,bool→A
open Go.IntKind renaming i64→X
namespace Go.Proofs.YtmhhnnklfcbgfaaGreat
open Go.bz
section
open Go.a2
set_option maxRecDepth 2000
def G3{α β:Type}{f:α->List β}{n:Nat}:∀{l:List α},(∀a∈l,(f a).length<=n)->(l.flatMap f).length<=n*l.length
 |[],_=>by simp
 |a::l,h=>by
  have af:=h a (by simp);have ah:=G3 (f:=f) (n:=n) (l:=l) λb c=>h b (by simp[c])
  simp only[List.flatMap_cons,List.length_append,List.length_cons];rw[Nat.mul_succ];omega
def Ge{x:bj}(au:eO x):∀{cs:List bH} {f:Nat},(∀(j:Nat) (c:bH),cs[j]? =D c->x.ay[f+j]? =D c)->(k8 x cs f).length<=7*fW cs
 |[],_,_=>by simp[k8,fW]
 |c::cs,f,h=>by
  have aq:kT x f c:=⟨au,by simpa using h 0 c rfl⟩;have af:(vc x f c).length<=7*c.ins.length:=G3 λi b=>HA (aq.ok.ins b) au
  have ah:=Ge au (cs:=cs) (f:=f+1) λj a d=>by
   have:=h (j+1) a (by simpa using d);rwa[show f+(j+1)=f+1+j by omega]at this
  simp only[k8,fW,List.length_append];omega
def Gg{x:bj}(au:right x=C):(cons x).length<=17500:=by
 have af:=Ge (gA au) (cs:=x.ay) (f:=0) λj c h=>by simpa using h
 have ah:=qw au;unfold cons;omega
def Mj:∀{l r:List Nat},aX l=aX r->l=r
 |[],[],_=>rfl
 |[],b::r,h=>by simp[aX]at h
 |a::l,[],h=>by simp[aX]at h
 |a::l,b::r,h=>by
  simp only[aX,List.map_cons,List.cons.injEq]at h;have af:a=b:=aa;rw[af,Mj (l:=l) (r:=r) h.2]
def aag(l:Nat){v w:ae}(a:v.one=C)(hw:w.one=C):gd P l 198 2 [(0,v),(1,w)]=D (.aD l 0 2 1 (D 2),.row Z 1 [[v],[w]]):=by
 have u:P.underlying 198=D (.slice 53):=aF;have d:cp P 53=D 1:=aF;have z3:e2 P 53=D .aB:=aF;have c:=dx a;have cw:=dx hw;have b:ae.aB.cells=[ae.aB]:=rfl;have on:ae.aB.one=true:=rfl;simp[gd,u,d,z3,ks,c,cw,b,a,hw,on,List.replicate]
section
variable {H:ad}{ok:Nat->Prop}{x:bj}
def OK{n:Nat}{a b c:ae}(d:ae.beq a a=C)(e:ae.beq b b=C)(aq:ae.beq c c=C):bF (D (.agg (bP n a b c))) (.agg (bP n a b c))=true:=by
 simp[bF,bP,ae.beq,er.beq,d,e,aq]
def F0(au:right x=C){V lv:ae}{zX zC:Nat}{o:Nat}(aT:(eh (ck x) x.sites.length (cons x) (o+1)).of=(eh (ck x) x.sites.length (cons x) o).of)(aU:∀j,j<o->(eh (ck x) x.sites.length (cons x) (j+1)).of≠(eh (ck x) x.sites.length (cons x) j).of)
  {cs:List ae} (aI:V= .agg cs) (bi:zX+1<zC) {N:Nat}:∀(q i:Nat) (H:ad) (Y:ae),i<=o->o<i+q->cM H (· <zX) x V->H.get zX=D (.row Z 5 [cs])->aO e0 H (· <zC) (cons x) lv->(∃r,H.get (zX+1)=D (.row Z 4 [r])/\r.length=4)->(∃n a b c,Y= .agg (bP n a b c)/\H.get zC=D (.row Z 4 [bP n a b c]))->oh H (λq=>zX<=q/\q≠zC) (eh (ck x) x.sites.length (cons x) i) Y->
  W (x9 (aQ P aK) N q (.ptr zX 0 0) (.ptr (zX+1) 0 0) lv (.ptr zC 0 0) H) λr H'=>oh H' (λL=>zX<=L) (eh (ck x) x.sites.length (cons x) (o+1)) r/\cT zX H H'
 |0,i,_,_,bl,aN,_,_,_,_,_,_=>aa
 |q+1,i,H,Y,bl,aN,aA,aS,aq,⟨bx,az,aV⟩,⟨n,a,b,c,a8,cg⟩,bj=>by
  have aH:=gA au;have bG:=aH.sites;subst a8;obtain⟨b8,b',f,ax,af,ah,an,aM⟩:=bj;simp only[ae.agg.injEq,bP,List.cons.injEq,ae.int.injEq,and_true,true_and]at ax;obtain⟨a9,rfl,rfl,rfl⟩:=ax;obtain rfl:n=(eh (ck x) x.sites.length (cons x) i).count:=by exact_mod_cast a9
  have bC:=ad.bE cg;have bB:=Gg au;have bw:=OK (n:=(eh (ck x) x.sites.length (cons x) i).count) af.rd ah.rd an.rd;have he:=sD (ck x) x.sites.length (cons x) i;have bn:=u_ (ck x) x.sites.length (cons x) i;have bm:eh (ck x) x.sites.length (cons x) (i+1)=a2.merge (gJ (ck x) x.sites.length (cons x++h7 (me (ck x) x.sites.length (cons x) i) x.sites.length)) x.sites.length:=rfl;obtain⟨_,ab,a0,t,bh,d0,ay,ak,al,am,ao⟩:=aA;have aA:cM H (· <zX) x V:=⟨_,ab,a0,t,bh,d0,ay,ak,al,am,ao⟩;have ba:cs=[a0,t,bh,d0,J X x.main]:=by rw[aI]at ab;cases ab;exact ay
  subst ba;have bv:bF (D (.agg [a0,t,bh,d0,J X x.main])) (.agg [a0,t,bh,d0,J X x.main])=true:=by simp[bF,ae.beq,er.beq,ak.rd,al.rd,am.rd,ao.rd]
  generalize aR:eh (ck x) x.sites.length (cons x) i=aW at*;simp-implicitDefEqProofs(disch:=try exact ai)only[x9,C_,aj,l9 cg];refine aZ (NH he aa bn ⟨a,b,c,rfl,af,ah,an,aM⟩) ?_;rintro B H1 ⟨a1,M⟩;refine⟨M.1,?_⟩;generalize bA:me (ck x) x.sites.length (cons x) i=R at*;have T:=av.push H1 (.row Z 1 [[lv],[B]]);have bb:=ad.a_ H1 (.row Z 1 [[lv],[B]]);have aP:(h7 R x.sites.length).length=x.sites.length:=by simp[h7]
  have two:aO (b1 e0) (H1.push (.row Z 1 [[lv],[B]])) bk [cons x,h7 R x.sites.length] (.aD H1.next 0 2 1 (D 2)):=by
   refine .inr (.inl ⟨H1.next,0,D 2,Z,_,rfl,trivial,bb,by simp,λj y K=> ?_⟩)
   match j,K with
   |0,K=>cases K;exact⟨[lv],rfl,lv,rfl,((aq.aE M).aE T).any⟩
   |1,K=>cases K;exact⟨[B],rfl,B,rfl,(a1.aD.aE T).any⟩
  simp-implicitDefEqProofs(disch:=try exact ai)only[aj,aag _ aq.one a1.aD.one];refine aZ (PZ two (by rw[aP];omega)) ?_;rintro cl w ⟨bp,a5⟩;refine⟨a5.1,?_⟩;have S:=(M.trans T).trans a5;have bd:=M.get aS;have be:=(M.trans T).get aS;have aF:=S.get aS;simp-implicitDefEqProofs(disch:=try exact ai)only[aj,cH aF];have wf:gE (ck x) x.sites.length (cons x++h7 R x.sites.length):=acT (Gh aH) (acS he _ _);have bo:cM H (· <zX) x (.agg [a0,t,bh,d0,J X x.main]):=⟨_,rfl,a0,t,bh,d0,rfl,ak,al,am,ao⟩;refine aZ (IT au (bo.keep (.aE S)) wf (by rw[List.length_append,aP];omega) bp.aD) ?_;rintro _ d ⟨⟨b8,b',f,rfl,s,u,v,a3⟩,a7⟩
  refine⟨a7.1,?_⟩;rw[<-bm]at s u v ⊢;generalize G:eh (ck x) x.sites.length (cons x) (i+1)=a6 at*;have bz:∀(q:ae->ad->O),fu d [J X 0,.aB,.aB,.aB] q=q (.ptr d.next 0 0) (d.push (.row Z 4 [bP 0 .aB .aB .aB])):=λq=>by rw[mq,mr];rfl
  have bu:=ad.a_ d (.row Z 4 [bP 0 .aB .aB .aB]);have n_:cD P (d.push (.row Z 4 [bP 0 .aB .aB .aB])) 33 (.ptr d.next 0 0) (.agg (bP a6.count b8 b' f))=D (d.push (.row Z 4 [bP a6.count b8 b' f])):=by
   rw[mm bu rfl s.one u.one v.one,ad.kH]
  have U:=av.push d (.row Z 4 [bP a6.count b8 b' f]);have Q:=ad.a_ d (.row Z 4 [bP a6.count b8 b' f]);have a4:=S.trans a7;have k:=a4.trans U;have ap:=k.get cg;simp only[bz,n_];rw[pA (by simp)];have bs:d.next<(d.push (.row Z 4 [bP a6.count b8 b' f])).next:=by simp
  have bt:zC<d.next:=by have:=a4.1;omega
  obtain⟨E,bg⟩:∃E,E=d.next:=⟨_,rfl⟩
  rw[<-bg]at Q bs bt ⊢;generalize d.push (.row Z 4 [bP a6.count b8 b' f])=l at*;have i1:=s.aE U;have hlen:(aX a6.of).length<=1000000000:=by
   have e:=u_ (ck x) x.sites.length (cons x) (i+1);rw[G]at e;rw[e];simp[aX];omega
  simp-implicitDefEqProofs(disch:=try exact ai)only[aj,aJ,aL,l9 cg,bw,cH aS,cH bd,cH be,cH aF,bv,hV Q,hV ap];refine eu (Qk i1 (af.aE k) hlen) ?_;have bD:zC<w.next:=by have:=S.1;omega
  by_cases e:i=o
  ·subst e;have ag:aX a6.of=aX aW.of:=by rw[<-G,<-aR,aT]
   have aC:=k.get az;have aw:=mm (n:=a6.count) aC aV s.one u.one v.one;have br:=ad.bE aC;have bc:(l.set (zX+1) (.row Z 4 [bP a6.count b8 b' f])).get (zX+1)=D (.row Z 4 [bP a6.count b8 b' f]):=ad.c8 br;have m:∀q,q≠zX+1->(l.set (zX+1) (.row Z 4 [bP a6.count b8 b' f])).get q=l.get q:=λq aN=>ad.cb (Ne.symm aN)
   simp-implicitDefEqProofs(disch:=try exact ai)only[aj,ag,decide_true,l9 Q,aw,l9 bc];have p:e1 d (λL=>w.next<=L) (l.set (zX+1) (.row Z 4 [bP a6.count b8 b' f])) (λL=>zX<=L):=λq b (aN:w.next<=q) g=>⟨show zX<=q by omega,by rw[m q aa];exact U.get g⟩
   rw[G];exact aG.2 ⟨⟨_,_,_,rfl,s.keep p,u.keep p,v.keep p,a3⟩,by have:=k.1;simpa using this,λq aN=>by rw[m q aa,k.2 q aa]⟩
  ·have ag:aX a6.of≠aX aW.of:=λh=>aU i aa (by
    rw[G,aR];exact Mj h)
   have aw:=mm (n:=a6.count) (a:=b8) (b:=b') (c:=f) ap rfl s.one u.one v.one;have bq:=ad.bE ap;have m:∀q,q≠zC->(l.set zC (.row Z 4 [bP a6.count b8 b' f])).get q=l.get q:=λq aN=>ad.cb (Ne.symm aN)
   simp-implicitDefEqProofs(disch:=try exact ai)only[aj,ag,decide_false,l9 Q,aw];have aY:∀{ar:Nat->Prop},(∀q,ar q->q≠zC)->e1 H ar (l.set zC (.row Z 4 [bP a6.count b8 b' f])) ar:=λbf q b aN g=>⟨aN,by rw[m q (bf q aN)];exact k.get g⟩
   have p:e1 d (λL=>w.next<=L) (l.set zC (.row Z 4 [bP a6.count b8 b' f])) (λq=>zX<=q/\q≠zC):=λq b (aN:w.next<=q) g=>⟨show zX<=q/\q≠zC by omega,by rw[m q aa];exact U.get g⟩
   refine(F0 au aT aU aI bi q (i+1) _ (.agg (bP a6.count b8 b' f)) aa aa (aA.keep (aY λq (aN:q<zX)=>aa)) (by rw[m zX aa];exact k.get aS) (aq.keep (aY λq (aN:q<zC)=>aa)) ⟨bx,by rw[m _ aa];exact k.get az,aV⟩ ⟨_,_,_,_,rfl,ad.c8 bq⟩ ?_).mono λr H' z=>⟨z.1,⟨by have:=z.2.1;have:=k.1;simp at*;omega,λq aN=>by rw[z.2.2 q aN,m q aa,k.2 q aa]⟩⟩
   rw[G];exact⟨_,_,_,rfl,s.keep p,u.keep p,v.keep p,a3⟩
def F1(au:right x=C){V:ae}(aA:cM H ok x V):W (aQ P aK 36 [V] H) λr H'=>oh H' (λL=>H.next<=L) (a2.hR x) r/\av H H':=by
 have y:=gA au;have aC:=y.sites;obtain⟨B,az,U,Y,ab⟩:=LZ (ck x) x.sites.length (cons x);have o:=aA;obtain⟨_,rfl,a,b,cc,d,rfl,af,ah,an,aM⟩:=aA;refine YN (B+1) ?_;obtain⟨zX,f⟩:∃zX,zX=H.next:=⟨_,rfl⟩
 have am:=av.push H (.row Z 5 [[a,b,cc,d,J X x.main]]);have Q:=ad.a_ H (.row Z 5 [[a,b,cc,d,J X x.main]]);have G:=av.push (H.push (.row Z 5 [[a,b,cc,d,J X x.main]])) (.row Z 4 [bP 0 .aB .aB .aB]);have w:=ad.a_ (H.push (.row Z 5 [[a,b,cc,d,J X x.main]])) (.row Z 4 [bP 0 .aB .aB .aB]);have m:=G.get Q;have K:(H.push (.row Z 5 [[a,b,cc,d,J X x.main]])).next=zX+1:=by rw[f];simp
 have ap:∀(k:ae->ad->O),fu (H.push (.row Z 5 [[a,b,cc,d,J X x.main]])) [J X 0,.aB,.aB,.aB] k=k (.ptr (zX+1) 0 0) ((H.push (.row Z 5 [[a,b,cc,d,J X x.main]])).push (.row Z 4 [bP 0 .aB .aB .aB])):=λk=>by rw[mq,mr,K];rfl
 rw[K]at w;rw[<-f]at m;simp only[C9,dV af ah an aM,nb,ap,<-f];have i:=am.trans G;generalize S:(H.push (.row Z 5 [[a,b,cc,d,J X x.main]])).push (.row Z 4 [bP 0 .aB .aB .aB])=M at*;have aF:M.next=zX+2:=by rw[<-S];simp[f]
 simp-implicitDefEqProofs(disch:=try exact ai)only[aj,cH m];refine aZ (PO au (o.aE i)) ?_;rintro lv l ⟨E,j⟩;refine⟨j.1,?_⟩;have al:=i.trans j;have R:=j.get m;simp-implicitDefEqProofs(disch:=try exact ai)only[aj,cH R];have ay:=Gg au;refine aZ (IT au (o.aE al) (Gh y) aa E.aD) ?_;rintro _ c ⟨⟨b8,b',e,rfl,s,t,u,ak⟩,n⟩;refine⟨n.1,?_⟩;have ag:eh (ck x) x.sites.length (cons x) 0=a2.merge (gJ (ck x) x.sites.length (cons x)) x.sites.length:=rfl;rw[<-ag]at s t u ⊢;generalize T:eh (ck x) x.sites.length (cons x) 0=a6 at*;have aq:∀(q:ae->ad->O),fu c [J X 0,.aB,.aB,.aB] q=q (.ptr c.next 0 0) (c.push (.row Z 4 [bP 0 .aB .aB .aB])):=λq=>by rw[mq,mr];rfl
 have ao:=ad.a_ c (.row Z 4 [bP 0 .aB .aB .aB]);have n_:cD P (c.push (.row Z 4 [bP 0 .aB .aB .aB])) 33 (.ptr c.next 0 0) (.agg (bP a6.count b8 b' e))=D (c.push (.row Z 4 [bP a6.count b8 b' e])):=by
  rw[mm ao rfl s.one t.one u.one,ad.kH]
 have v:=av.push c (.row Z 4 [bP a6.count b8 b' e]);have N:=ad.a_ c (.row Z 4 [bP a6.count b8 b' e]);have h:=(j.trans n).trans v;simp only[aq,n_];rw[pA (by simp)];have aw:zX+2<=l.next:=by have:=j.1;omega
 have ax:l.next<=c.next:=n.1
 refine(F0 au U Y rfl (zX:=zX) (zC:=c.next) aa (B+1) 0 _ (.agg (bP a6.count b8 b' e)) aa aa (f▸o.keep λq b aN g=>⟨ad.bE g,(i.trans h).get g⟩) (h.get m) ((E.aD.below.aE (n.trans v)).keep (.le λL ar=>aa)) ⟨_,h.get w,rfl⟩ ⟨_,_,_,_,rfl,N⟩ ?_).mono λr H' z=>⟨?_,⟨by have:=z.2.1;have:=(i.trans h).1;omega,λq aN=>by rw[z.2.2 q aa,(i.trans h).2 q aN]⟩⟩
 ·rw[T];have p:e1 c (λL=>l.next<=L) (c.push (.row Z 4 [bP a6.count b8 b' e])) (λq=>zX<=q/\q≠c.next):=λq b (aN:l.next<=q) g=>⟨show zX<=q/\q≠c.next by have:=ad.bE g;omega,v.get g⟩
  exact⟨_,_,_,rfl,s.keep p,t.keep p,u.keep p,ak⟩
 ·have:=z.1;unfold a2.hR;rw[ab];exact this
end
end
section
open Go.a2
set_option maxRecDepth 2000
section
variable {H:ad}{ok ok':Nat->Prop}
def Vg{o:List Int}{ov:ae}{B:Nat}{a:Int}(g:H.get B=D (.row Z 1 [[J X a]]))(aR:aO aT H ok o ov)(b:o.length<=1000000000):W (aQ P aK 100 [ov,.ptr B 0 0] H) λr H'=>r= A (decide (a∈o))/\H'=H:=by
 refine Xg 0 ?_;simp-implicitDefEqProofs(disch:=try exact ai)only[BH,aj,hr g];refine eu (zY aR b) ?_;exact aG.2 ⟨rfl,rfl⟩
def HW{os:List (List Int)}{v:ae}{B:Nat}{a:Int}(g:H.get B=D (.row Z 1 [[J X a]]))(aR:aO (b1 aT) H ok os v)(n:os.length<=1000000000)(f:∀o∈os,o.length<=1000000000){N:Nat}:∀(j k q:Nat),k+j=os.length->j<q->(∀o∈os.take k,a∉o)->
  W (sY (aQ P aK) N q v (.func (.func 100) [] [.ptr B 0 0]) (J X os.length) (J X k) H) λr H'=>∃i:Int,r= J X i/\(0<=i↔∃o∈os,a∈o)/\H'=H
 |_,_,0,_,hm,_=>aa
 |0,k,q+1,s,_,b=>by
  have c:¬(k:Int)<(os.length:Int):=aa;simp-implicitDefEqProofs(disch:=try exact ai)only[sY,xd,B1,aj,aC,c,decide_false];rw[List.take_of_length_le aa]at b;exact aG.2 ⟨-1,rfl,⟨λh=>aa,λ⟨o,af,ah⟩=>absurd ah (b o af)⟩,rfl⟩
 |j+1,k,q+1,s,hm,b=>by
  have c:(k:Int)<(os.length:Int):=aa;have d:k<os.length:=aa;have l:=List.getElem_mem d;obtain⟨p,w,i1,i2,i3⟩:=aR.list (j:=(k:Int)) (a:=os[k]) aa (by simp[d]);have on:=HW g aR n f (N:=N) j (k+1) q;rw[List.take_add_one,List.getElem?_eq_getElem d]at on;generalize os[k]=o at*;simp-implicitDefEqProofs(disch:=try exact ai)only[sY,xd,aj,aJ,aC,c,decide_true,i1,i2,oe,nu];refine eu (Vg g i3 (f o l)) ?_;by_cases e:a∈o
  ·simp-implicitDefEqProofs(disch:=try exact ai)only[aj,e,decide_true];exact aG.2 ⟨_,rfl,⟨λ_=>⟨o,l,e⟩,λ_=>aa⟩,rfl⟩
  ·simp-implicitDefEqProofs(disch:=try exact ai)only[aj,aC,e,decide_false,cq (show k<=1000000000 by omega)];refine on aa aa λfp m=> ?_
   simp only[Option.toList,List.mem_append,List.mem_singleton]at m;rcases m with h|rfl
   ·exact b fp h
   ·exact e
def PT{os:List (List Int)}{v:ae}{B:Nat}{a:Int}(g:H.get B=D (.row Z 1 [[J X a]]))(aR:aO (b1 aT) H ok os v)(c:os.length<=1000000000)(d:∀o∈os,o.length<=1000000000):W (aQ P aK 99 [v,.func (.func 100) [] [.ptr B 0 0]] H) λr H'=>∃b,r= A b/\(b=C↔∃o∈os,a∈o)/\H'=H:=by
 refine Zl 0 ?_;have key:W (aQ P aK 146 [v,.func (.func 100) [] [.ptr B 0 0]] H) λr H'=>∃i:Int,r= J X i/\(0<=i↔∃o∈os,a∈o)/\H'=H:=by
  refine XE (os.length+1) ?_;simp-implicitDefEqProofs(disch:=try exact ai)only[B0,br,aR.len e4];exact HW g aR c d os.length 0 _ aa aa λo h=>by simp at h
 simp-implicitDefEqProofs(disch:=try exact ai)only[DO,aj];refine aZ key ?_;rintro _ H1 ⟨i,rfl,e,rfl⟩;refine⟨bC _,?_⟩;simp-implicitDefEqProofs(disch:=try exact ai)only[aj,aC];exact aG.2 ⟨_,rfl,by rw[<-e];simp,rfl⟩
noncomputable def lz(l:List Int)(os:List (List Int)):List Int:=open Classical in l.filter λa=>decide (∀o∈os,a∉o)
def IW{l:List Int}{os:List (List Int)}{lv ov:ae}{B:Nat}(al:l.length<=1000000000)(u:os.length<=1000000000)(y:∀o∈os,o.length<=1000000000){N:Nat}:∀(j k q:Nat) (H:ad) (r:List Int) (v:ae),k+j=l.length->j<q->bq aT B bk H r v->B<=H.next->r.length<=k->aO aT H (· <B) l lv->aO (b1 aT) H (· <B) os ov->
  W (tW (aQ P aK) N q ov v lv (J X l.length) (J X k) H) λw H'=>bq aT B bk H' (r++lz (l.drop k) os) w/\cT B H H'
 |_,_,0,_,_,_,_,aN,_,_,_,_,_=>aa
 |0,k,q+1,H,r,v,O,_,au,d,R,af,ah=>by
  have f:¬(k:Int)<(l.length:Int):=aa;simp-implicitDefEqProofs(disch:=try exact ai)only[tW,yg,yh,aj,aC,f,decide_false];rw[List.drop_of_length_le aa];exact aG.2 ⟨by simpa [lz]using au,.refl _ _⟩
 |j+1,k,q+1,H,r,v,O,aN,au,d,R,af,ah=>by
  have f:(k:Int)<(l.length:Int):=aa;have E:k<l.length:=aa;obtain⟨p,i1,i2⟩:=af.int (j:=(k:Int)) (a:=l[k]) aa (by simp[E]);have on:=IW (lv:=lv) (ov:=ov) (B:=B) al u y (N:=N) j (k+1) q;have M:lz (l.drop k) os=(if(∀o∈os,l[k]∉o)then[l[k]]else[])++lz (l.drop (k+1)) os:=by
   rw[List.drop_eq_getElem_cons E];by_cases e:∀o∈os,l[k]∉o
   ·rw[if_pos e];simp only[lz,List.filter_cons,decide_eq_true e,if_true];rfl
   ·rw[if_neg e];simp only[lz,List.filter_cons,decide_eq_false e,Bool.false_eq_true,if_false];rfl
  rw[M];generalize l[k]=a at*;have c:=av.push H (.row Z 1 [[J X a]]);have s:=ad.a_ H (.row Z 1 [[J X a]]);have st:cD P (H.push (.row Z 1 [[J X 0]])) 3 (.ptr H.next 0 0) (J X a)=D (H.push (.row Z 1 [[J X a]])):=by
   rw[gf (n:=1) aF (ad.a_ H (.row Z 1 [[J X 0]])) rfl rfl rfl bU];show D ((H.push _).set H.next (.row Z 1 [eZ _ 0 _]))=_;rw[ad.kH];rfl
  simp-implicitDefEqProofs(disch:=try exact ai)only[tW,yg,aj,aJ,aC,f,decide_true,i1,i2,st];refine aZ (PT s (ah.aE c) u y) ?_;rintro _ H1 ⟨b,rfl,x,rfl⟩;refine⟨bC _,?_⟩;have t:B<=(H.push (.row Z 1 [[J X a]])).next:=by have:=c.1;omega
  generalize H.push (.row Z 1 [[J X a]])=G at*;cases b with
  |true=>
   have e:¬∀o∈os,a∉o:=λh=>by obtain⟨o,g,i⟩:=x.1 rfl;exact h o g i
   rw[if_neg e,List.nil_append];simp-implicitDefEqProofs(disch:=try exact ai)only[Di,aj,aC,Bool.not_true,cq (show k<=1000000000 by omega)];exact(on _ r v aa aa (au.aE c) t aa (af.aE c) (ah.aE c)).mono λw H' z=>⟨z.1,(eH c d).trans z.2⟩
  |false=>
   have e:∀o∈os,a∉o:=λo g i=>by have:=x.2 ⟨o,g,i⟩;cases this
   rw[if_pos e];have Q:=au.aE c;obtain⟨S,m,K,L,a3,a4,a5⟩:=Q.l6 (a:=a) t aa;have T:(G.push (.row Z 1 [[J X a]])).next<=m.next:=by rw[ad.dm];exact a4
   have pu:=(eH c d).trans a3;simp-implicitDefEqProofs(disch:=try exact ai)only[Di,aj,aJ,aC,Bool.not_false,hr s,ej,K,cq (show k<=1000000000 by omega)];refine(on m (r++[a]) S aa aa L (by have:=pu.1;omega) (by simp;omega) (af.gy pu) (ah.gy pu)).mono λw H' z=>⟨?_,pu.trans z.2⟩
   have:=z.1;rwa[List.append_assoc]at this
def IX{l:List Int}{os:List (List Int)}{lv ov:ae}(al:l.length<=1000000000)(a:os.length<=1000000000)(b:∀o∈os,o.length<=1000000000)(af:aO aT H ok l lv)(ah:aO (b1 aT) H ok' os ov):W (aQ P aK 46 [lv,ov] H) λr H'=>bq aT H.next bk H' (lz l os) r/\av H H':=by
 refine YV (l.length+1) ?_;simp-implicitDefEqProofs(disch:=try exact ai)only[Dh,br,af.len b6];exact(IW al a b l.length 0 _ H [] .aB aa aa (bq.nil aT _ _ _) (bC _) (by simp) af.below ah.below).mono λr H' z=>⟨by simpa using z.1,z.2⟩
end
end
section
open Go.a2
set_option maxRecDepth 2000
structure gg(n m:Nat)(k:a2.cB):Prop where
 ez:k.fields.length=k.count
 f8:∀f∈k.fields,f.length=8
 l3:k.count<=m
 VU:k.of.length=m
 nl:k.nodes.length=n
 lt:∀c∈k.of,c<k.count
def PK(n m:Nat)(l:List bB):gg n m (a2.merge (gJ n m l) m):=by
 refine⟨by simp[a2.merge,nK],λf az=> ?_,Ke _ _,by simp[a2.merge,nK],by simp[a2.merge,nK,gJ,hZ],λc aq=> ?_⟩
 ·simp only[a2.merge,nK,List.mem_map]at az;obtain⟨r,_,rfl⟩:=az;simp
 ·simp only[a2.merge,nK,List.mem_map,List.mem_range]at aq;obtain⟨s,a,rfl⟩:=aq;exact PL (ds.cl _).eqv a
def va(x:bj):gg (ck x) x.sites.length (a2.hR x):=by
 obtain⟨k,_,_,_,h⟩:=LZ (ck x) x.sites.length (cons x);unfold a2.hR;rw[h];exact PK _ _ _
def MB{c:Nat}:∀{fs:List (List Int)} {bs:List Bool},(∀f∈fs,f.length<=c)->kh fs bs<=c*fs.length
 |[],bs,_=>by simp[kh]
 |f::fs,[],_=>by simp[kh]
 |f::fs,b::bs,h=>by
  have af:=MB (c:=c) (fs:=fs) (bs:=bs) λg aP=>h g (by simp[aP])
  have ah:=h f (by simp);rw[List.length_cons,Nat.mul_succ];unfold kh;cases b<;>simp<;>omega
def ft(a b cc d:ae)(lA:Int)(n:Nat)(ov nv fv gv uv:ae):List ae:=[a,b,cc,d,J X lA,J X (n:Nat),ov,nv,fv,gv,uv]
section
variable {H:ad}{W0:Nat}{a b cc d ov nv fv gv uv:ae}{lA:Int}{n:Nat}
def hs(g:H.get W0=D (.row Z 11 [ft a b cc d lA n ov nv fv gv uv])):aI P H 24 (.ptr W0 0 2)=D cc/\aI P H 30 (.ptr W0 0 6)=D ov/\aI P H 30 (.ptr W0 0 7)=D nv/\aI P H 31 (.ptr W0 0 8)=D fv/\aI P H 30 (.ptr W0 0 9)=D gv/\aI P H 31 (.ptr W0 0 10)=D uv:=by
 refine⟨?_,?_,?_,?_,?_,?_⟩<;>(rw[e_ aF g rfl];rfl)
def Uo(g:H.get W0=D (.row Z 11 [ft a b cc d lA n ov nv fv gv uv])):aI P H 27 (.ptr W0 0 0)=D (.agg [a,b,cc,d,J X lA]):=gY (n:=5) (i:=0) (c:=0) aF aF g rfl bU
def y0{k:a2.cB}{nn m:Nat}{ok ok':Nat->Prop}(e:gg nn m k)(hm:m<=60)(g:H.get W0=D (.row Z 11 [ft a b cc d lA n ov nv fv gv uv]))(az:aO (b1 aT) H ok k.fields fv){roots:List Int}{rv:ae}(au:aO aT H ok' roots rv)(j:roots.length<=100000000):
  W (aQ P aK 47 [.ptr W0 0 0,rv] H) λr H'=>bq aT H.next bk H' (aX (dS k.fields roots)) r/\av H H':=by
 refine YW 0 ?_;have af:=e.ez;have ah:=e.l3;have an:=MB (c:=8) (fs:=k.fields) (bs:=List.replicate k.fields.length Z) λf az=>Nat.le_of_eq (e.f8 f az)
 simp-implicitDefEqProofs(disch:=try exact ai)only[Dj,Nat.reduceAdd,aj,aJ,aL,hs g];refine aZ (Sj az au aa aa) ?_;rintro r H1 ⟨i,h⟩;exact⟨h.1,aG.2 ⟨i,h⟩⟩
end
end
section
open Go.a2
set_option maxRecDepth 2000
section
variable {H:ad}{ok:Nat->Prop}
def aO.oC{l:List bH}{v:ae}(h:aO fC H ok l v){j:Int}{g:bH}(b:0<=j)(c:l[j.toNat]? =D g):∃L n gv gw,cm P 24 v (J X j)=D (.ptr L n 0)/\(∀H',av H H'->aI P H' 3 (.ptr L n 0)=D (J X g.params)/\aI P H' 23 (.ptr L n 1)=D gv/\aI P H' 47 (.ptr L n 6)=D gw)/\aO eV H ok g.vars gv/\aO fD H ok g.ins gw:=by
 obtain⟨L,n,ro,els,cs,d,i,e,f,gv,gw,rfl,bR,b0⟩:=aO.at_ (K:=fC) cI h b c;refine⟨L,n,gv,gw,d,λH' p=> ?_,bR,b0⟩;have a:=p.get e;refine⟨?_,?_,?_⟩<;>(rw[e_ aF a f];rfl)
def aO.sub{l:List Int}{v:ae}(h:aO aT H ok l v)(aq:pC v){a n:Nat}(aH:0<n)(d:a+n<=l.length):∃L i cap,hD P 30 v (D (.int .i64 (a:Nat))) (D (.int .i64 ((a+n:Nat):Int))) I=D (.aD L i n 1 cap)/\aO aT H ok ((l.drop a).take n) (.aD L i n 1 cap)/\∃ro els,H.get L=D (.row ro 1 els)/\i+n<=els.length/\∀q,cap=D q->n<=q:=by
 have u:P.underlying 30=D (.slice 3):=aF;have s:cp P 3=D 1:=aF;rcases h with⟨_,rfl⟩|⟨L,i,cap,ro,els,rfl,ah,an,aM,k⟩|⟨_,_,_,_,rfl⟩
 ·simp at d;omega
 ·have m:l.length<=cap.getD l.length:=by
   cases cap with
   |none=>exact bC _
   |some c=>exact aq _ _ _ _ _ rfl
  have hlen:((l.drop a).take n).length=n:=by simp;omega
  refine⟨L,i+a,cap.map (· -a),?_,.inr (.inl ⟨L,i+a,cap.map (· -a),ro,els,by rw[hlen];rfl,ah,an,by rw[hlen];omega,λj x b=> ?_⟩),ro,els,an,aa,λq aN=>by
   cases cap with
   |none=>cases aN
   |some c=>simp at aN m;omega⟩
  ·have t:(a:Int)+(n:Int)<=(cap.getD l.length:Nat):=aa;have e:((a+n:Nat):Int)<=((cap.getD l.length:Nat):Int):=aa;have f:eg (D (.int .i64 ((a+n:Nat):Int))) l.length (cap.getD l.length)=D (a+n):=by
    simp only[eg];rw[if_pos ⟨aa,e⟩,Int.toNat_natCast]
   have g:eg (D (.int .i64 ((a:Nat):Int))) 0 (a+n)=D a:=by
    simp only[eg];rw[if_pos ⟨aa,aa⟩,Int.toNat_natCast]
   have o:aT.esz=1:=rfl;simp only[hD,u,s,o,if_true,f,g];rw[Nat.add_sub_cancel_left]
  ·rw[List.getElem?_take]at b;split at b
   ·rw[List.getElem?_drop]at b;obtain⟨cs,p,r⟩:=k (a+j) x b;exact⟨cs,by rw[show i+a+j=i+(a+j) by omega];exact p,r⟩
   ·cases b
 ·simp at d;omega
variable {x:bj}
def h2(x:bj)(k:a2.cB)(f:Nat)(c:bH):List Int:=(List.range c.vars.length).map λv=>k.node (bK x.ay f+v)
def acE{k:a2.cB}{f:Nat}{c:bH}(au:eO x)(b:gg (ck x) x.sites.length k)(az:x.ay[f]? =D c):(k.nodes.drop (bK x.ay f)).take c.vars.length=h2 x k f c/\bK x.ay f+c.vars.length<=k.nodes.length:=by
 have af:bK x.ay f+c.vars.length<=k.nodes.length:=by
  rw[b.nl];have:=yZ az;have ah:bK x.ay (f+1)<=fb x.ay:=Ed (by have:=(List.getElem?_eq_some_iff.1 az).1;omega);unfold ck;omega
 refine⟨?_,af⟩;apply List.ext_getElem?;intro j;by_cases a:j<c.vars.length
 ·rw[List.getElem?_take,if_pos a,List.getElem?_drop];have an:bK x.ay f+j<k.nodes.length:=aa;simp[h2,a,cB.node,an]
 ·rw[List.getElem?_eq_none (by simp;omega),List.getElem?_eq_none (by simp[h2];omega)]
def MM(au:right x=C){k:a2.cB}(u:gg (ck x) x.sites.length k){W0:Nat}{a b cc d ov nv fv gv uv:ae}{n:Nat}(g:H.get W0=D (.row Z 11 [ft a b cc d x.main n ov nv fv gv uv]))(aA:cM H ok x (.agg [a,b,cc,d,J X x.main])){ok':Nat->Prop}(aH:aO aT H ok' k.nodes nv)(aq:pC nv){f:Nat}{c:bH}(az:x.ay[f]? =D c):
  W (aQ P aK 44 [.ptr W0 0 0,J X (f:Nat)] H) λr H'=>aO aT H' ok' (h2 x k f c) r/\av H H'/\((r= .aB/\c.vars.length=0)\/∃L i cap ro els,r= .aD L i c.vars.length 1 cap/\H'.get L=D (.row ro 1 els)/\i+c.vars.length<=els.length/\∀q,cap=D q->c.vars.length<=q):=by
 have w:=aA;have l:=gA au;obtain⟨p,s⟩:=acE l u az;obtain⟨_,aN,K,M,a8,d1,e,af,ah,an,aM⟩:=aA;cases aN;simp only[List.cons.injEq,and_true]at e;obtain⟨rfl,rfl,rfl,rfl⟩:=e;refine YT 0 ?_;obtain⟨L,i,N,O,z,B,bR,b0⟩:=an.oC (j:=(f:Int)) aa (by simpa using az);obtain⟨U,E,V⟩:=B H (.refl _);have T:=(jZ (l.code az)).vars;simp-implicitDefEqProofs(disch:=try exact ai)only[Df,br,aj,aJ,aC,aL,hs g,z,E,bR.len cX];by_cases o:c.vars.length=0
 ·have m:(((c.vars.length:Nat):Int)==0)=true:=by simp[o]
  simp-implicitDefEqProofs(disch:=try exact ai)only[aj,m];have t:h2 x k f c=[]:=by simp[h2,o]
  exact aG.2 ⟨by rw[t];exact .nil,.refl _,.inl ⟨rfl,o⟩⟩
 ·have m:(((c.vars.length:Nat):Int)==0)=false:=beq_eq_false_iff_ne.2 aa;simp-implicitDefEqProofs(disch:=try exact ai)only[aj,aJ,aL,m,Uo g];refine aZ (acD au w az (v:=0) aa) ?_;rintro _ H1 ⟨rfl,h⟩;refine⟨h.1,?_⟩;have S:=rb l f;have R:=(List.getElem?_eq_some_iff.1 az).1;have Q:=l.ay;have hw:IntKind.i64.wrap (((bK x.ay f:Nat):Int)+((c.vars.length:Nat):Int))=((bK x.ay f+c.vars.length:Nat):Int):=by rw[wrap_i64 aa aa];omega
  obtain⟨L',y,cap,s1,s2,ro,els,hc,G,tY⟩:=aH.sub aq (show 0<c.vars.length by omega) s;rw[p]at s2;simp-implicitDefEqProofs(disch:=try exact ai)only[Nat.reduceAdd,aj,aJ,aC,aL,hs (h.get g),hw,s1];exact aG.2 ⟨s2.aE h,h,.inr ⟨L',y,cap,ro,els,rfl,h.get hc,G,tY⟩⟩
def N7{l m:List Int}{L i:Nat}{w:ae}{ro:Bool}{els:List (List ae)}(h:aO aT H ok l (.aD L i l.length 1 (D l.length)))(aP:H.get L=D (.row ro 1 els))(s:i+l.length<=els.length){v:Nat->Prop}(hm:aO aT H v m w)(G:0<m.length)(E:l.length+m.length<=1000000000):
  ∃g,ee P H [30,30] (.aD L i l.length 1 (D l.length)) w=D (g,H.push (.row Z 1 ((l++m).map λn=>[.int .i64 n])))/\g= .aD H.next 0 (l++m).length 1 none:=by
 have u:P.underlying 30=D (.slice 3):=aF;have i64:mM P 30=false:=aF;have x:cp P 3=D 1:=aF;have y:kO P 3=D 8:=aF;have z3:e2 P 3=D (.int .i64 0):=aF;obtain⟨⟨d,d1,d2,d3⟩,_⟩:=hm.z7 b6;have p:d=m.map λn=>[.int .i64 n]:=by
  apply List.ext_getElem?;intro j;by_cases a:j<m.length
  ·obtain⟨cs,b,c⟩:=d3 j m[j] (by simp[a]);rw[b];have:cs=[.int .i64 m[j]]:=c;simp[a,this]
  ·rw[List.getElem?_eq_none aa,List.getElem?_eq_none (by simp;omega)]
 have q:(els.drop i).take l.length=l.map λn=>[.int .i64 n]:=by
  apply List.ext_getElem?;intro j;by_cases a:j<l.length
  ·rw[List.getElem?_take,if_pos a,List.getElem?_drop];rcases h with⟨e,_⟩|⟨L',K,z,M,B,e,_,f,_,r⟩|⟨_,_,_,e,al⟩
   ·cases e
   ·cases e;rw[aP]at f;cases f;obtain⟨cs,b,c⟩:=r j l[j] (by simp[a]);have:cs=[.int .i64 l[j]]:=c;rw[b];simp[a,this]
   ·rw[al]at a;simp at a
  ·rw[List.getElem?_eq_none (by simp;omega),List.getElem?_eq_none (by simp;omega)]
 have o:gN H L i l.length 1=D (l.map λn=>[.int .i64 n]):=by
  simp only[gN,aP];rw[if_pos (by simp[s]),q]
 refine⟨_,?_,rfl⟩;have a8:(ae.int .i64 0).cells.length=1/\0<1:=⟨rfl,bU⟩;have k:jT P H 30 1 w=D d:=d1;subst p;have c4:¬(m.map λn=>[ae.int .i64 n]).length=0:=by rw[List.length_map];omega
 have cJ:(l.length+(m.map λn=>[ae.int .i64 n]).length)*8<=140737488355328/\l.length+(m.map λn=>[ae.int .i64 n]).length<=9223372036854775807:=by rw[List.length_map];omega
 have t:(D l.length).any (· <l.length+(m.map λn=>[ae.int .i64 n]).length)=true:=by rw[List.length_map];simp;omega
 simp only[ee,u,i64,x,y,z3,k,if_pos a8,if_true,if_neg c4,if_pos cJ,o,if_pos t];simp
end
end
section
set_option maxRecDepth 100000
set_option maxHeartbeats 4000000
noncomputable section
def K8(G:aw):gM Tryz.f25 G:=⟨_,λN=>nx ao (x:=trivial)⟩
def Yt(N:Nat):=dZ Tryz.func25 λG=>(K8 G).2 N
def K9(G:aw):ev Tryz.f26 G:=⟨_,λN=>t2 ao⟩
def YA(N:Nat):=dc Tryz.func26 λG=>(K9 G).2 N
def K_(G:aw):ev Tryz.f27 G:=⟨_,λN=>t2 ao⟩
def YD(N:Nat):=dc Tryz.func27 λG=>(K_ G).2 N
def xW(G:aw)(N:Nat):et 5 Tryz.f28 G N (·.ag.ag.ag) (bg Tryz.f28) []:=⟨_,v1 ao⟩
def C6(G:aw)(N:Nat)(L1:b_):en 0 1 5 6 Tryz.f28 G N (·.ag.ag.ax.ag.ax.ax.ag.ag) (bT L1 0 1 5 6) [(0,(a8 (xW G N) 5))]:=⟨_,v4 ao⟩
def xV(G:aw)(N:Nat)(L1:b_):en 0 1 5 6 Tryz.f28 G N (·.ag.ag.ax.ag.ax.ax) (bT L1 0 1 5 6) [(0,(a8 (xW G N) 5))]:=⟨_,v4 (ak (ak ((C6 G N L1).2) ao) ao)⟩
def tL(G:aw)(N:Nat):Nat->b_
 |0=>fk
 |n+1=>xV G N (tL G N n)
def La(G:aw)(N:Nat):fJ Tryz.f28 G N:=⟨_,t2 (ak (ak (ak ((xW G N).2) (ak (bD (b3 (λm=>(xV G N (tL G N m)).2))) ao)) ao) ao)⟩
def YE(N:Nat):=dc Tryz.func28 λG=>(La G N).2
def n2(G:aw)(N:Nat):et 5 Tryz.f29 G N (·.ag.ag.ag.ag) (bg Tryz.f29) []:=⟨_,v1 ao⟩
def pf(G:aw)(N:Nat)(L2:c6)(L3:b_):en 0 5 7 8 Tryz.f29 G N (·.ag.ag.ag.ax.ag.ax.ax.ag.ax.ag.ag.ax.ax.ag.ag) (bT L3 0 5 7 8) [(4,(bJ L2 0 5 7)),(3,(bJ L2 0 5 7)),(2,(a8 (n2 G N) 5))]:=⟨_,v4 ao⟩
def x0(G:aw)(N:Nat)(L2:c6)(L3:b_)(L5:dj):gk 0 5 7 8 9 Tryz.f29 G N (·.ag.ag.ag.ax.ag.ax.ax.ag.ax.ag.ag.ax.ax.ag.ax.ax.ag.ax.ax.ag.ag) (cn L5 0 5 7 8 9) [(6,(bT (pf G N L2 L3) 0 5 7 8)),(5,(bT (pf G N L2 L3) 0 5 7 8)),(4,(bJ L2 0 5 7)),(3,(bJ L2 0 5 7)),(2,(a8 (n2 G N) 5))]:=⟨_,v5 ao⟩
def tM(G:aw)(N:Nat)(L2:c6)(L3:b_)(L5:dj):gk 0 5 7 8 9 Tryz.f29 G N (·.ag.ag.ag.ax.ag.ax.ax.ag.ax.ag.ag.ax.ax.ag.ax.ax.ag.ax.ax) (cn L5 0 5 7 8 9) [(6,(bT (pf G N L2 L3) 0 5 7 8)),(5,(bT (pf G N L2 L3) 0 5 7 8)),(4,(bJ L2 0 5 7)),(3,(bJ L2 0 5 7)),(2,(a8 (n2 G N) 5))]:=⟨_,v5 (ak (ak ((x0 G N L2 L3 L5).2) ao) ao)⟩
def qW(G:aw)(N:Nat)(L2:c6)(L3:b_):Nat->dj
 |0=>jc
 |n+1=>tM G N L2 L3 (qW G N L2 L3 n)
def xY(G:aw)(N:Nat)(L2:c6)(L3:b_):en 0 5 7 8 Tryz.f29 G N (·.ag.ag.ag.ax.ag.ax.ax.ag.ax.ag.ag.ax.ax) (bT L3 0 5 7 8) [(4,(bJ L2 0 5 7)),(3,(bJ L2 0 5 7)),(2,(a8 (n2 G N) 5))]:=⟨_,v4 (ak (ak ((pf G N L2 L3).2) (bD (ak (bD (b3 (λm=>(tM G N L2 L3 (qW G N L2 L3 m)).2))) ao))) ao)⟩
def tP(G:aw)(N:Nat)(L2:c6):Nat->b_
 |0=>fk
 |n+1=>xY G N L2 (tP G N L2 n)
def xX(G:aw)(N:Nat)(L2:c6):gj 0 5 7 Tryz.f29 G N (·.ag.ag.ag.ax.ag.ax.ax) (bJ L2 0 5 7) [(2,(a8 (n2 G N) 5))]:=⟨_,v3 (ak (bD (ak (ak (bD (b3 (λm=>(xY G N L2 (tP G N L2 m)).2))) ao) ao)) ao)⟩
def tO(G:aw)(N:Nat):Nat->c6
 |0=>iq
 |n+1=>xX G N (tO G N n)
def tN(G:aw)(N:Nat):g6 0 5 Tryz.f29 G N (·.ag.ag.ag) (bg Tryz.f29) []:=⟨_,v2 (ak ((n2 G N).2) (ak (bD (b3 (λm=>(xX G N (tO G N m)).2))) ao))⟩
def C7(G:aw)(N:Nat)(a:b_):en 0 1 5 6 Tryz.f29 G N (·.ag.ag.ax.ag.ax.ax.ag.ag) (bT a 0 1 5 6) [(0,(bo (tN G N) 0 5))]:=⟨_,v4 ao⟩
def xZ(G:aw)(N:Nat)(a:b_):en 0 1 5 6 Tryz.f29 G N (·.ag.ag.ax.ag.ax.ax) (bT a 0 1 5 6) [(0,(bo (tN G N) 0 5))]:=⟨_,v4 (ak (ak ((C7 G N a).2) ao) ao)⟩
def tQ(G:aw)(N:Nat):Nat->b_
 |0=>fk
 |n+1=>xZ G N (tQ G N n)
def Lb(G:aw)(N:Nat):fJ Tryz.f29 G N:=⟨_,t2 (ak (ak (ak ((tN G N).2) (ak (bD (b3 (λm=>(xZ G N (tQ G N m)).2))) ao)) ao) ao)⟩
def YJ(N:Nat):=dc Tryz.func29 λG=>(Lb G N).2
def Lc(G:aw):iB Tryz.f30 G:=⟨_,λN=>t3 ao⟩
def YK(N:Nat):=g0 Tryz.func30 λG=>(Lc G).2 N
def ym(G:aw)(N:Nat):et 5 Tryz.f52 G N (·.ag.ag.ag) (bg Tryz.f52) []:=⟨_,v1 ao⟩
def yl(G:aw)(N:Nat)(L1:b_):en 1 2 5 6 Tryz.f52 G N (·.ag.ag.ax.ag.ax.ax) (bT L1 1 2 5 6) [(0,(a8 (ym G N) 5))]:=⟨_,v4 ao⟩
def tZ(G:aw)(N:Nat):Nat->b_
 |0=>fk
 |n+1=>yl G N (tZ G N n)
def Li(G:aw)(N:Nat):fJ Tryz.f52 G N:=⟨_,t2 (ak (ak (ak ((ym G N).2) (ak (bD (b3 (λm=>(yl G N (tZ G N m)).2))) ao)) ao) ao)⟩
def Y2(N:Nat):=dc Tryz.func52 λG=>(Li G N).2
def Dk(G:aw)(N:Nat):g5 Tryz.f53 G N (·.ag.ag) (bg Tryz.f53) []:=⟨_,v0 ao⟩
def yn(G:aw)(N:Nat)(L1:c6):gj 0 1 5 Tryz.f53 G N (·.ag.ax.ag.ax.ax) (bJ L1 0 1 5) [(0,(bh (Dk G N)))]:=⟨_,v3 ao⟩
def t_(G:aw)(N:Nat):Nat->c6
 |0=>iq
 |n+1=>yn G N (t_ G N n)
def Lj(G:aw)(N:Nat):fJ Tryz.f53 G N:=⟨_,t2 (ak (ak ((Dk G N).2) (ak (bD (b3 (λm=>(yn G N (t_ G N m)).2))) ao)) ao)⟩
def Y3(N:Nat):=dc Tryz.func53 λG=>(Lj G N).2
def Dl(G:aw):ev Tryz.f54 G:=⟨_,λN=>t2 ao⟩
def Y4(N:Nat):=dc Tryz.func54 λG=>(Dl G).2 N
def yo(G:aw)(N:Nat):et 3 Tryz.f55 G N (·.ag.ag.ag) (bg Tryz.f55) []:=⟨_,v1 ao⟩
def Dm(G:aw)(N:Nat)(L1:c6):gj 0 3 4 Tryz.f55 G N (·.ag.ag.ax.ag.ax.ax.ag.ag) (bJ L1 0 3 4) [(0,(a8 (yo G N) 3))]:=⟨_,v3 ao⟩
def ua(G:aw)(N:Nat)(L1:c6):gj 0 3 4 Tryz.f55 G N (·.ag.ag.ax.ag.ax.ax) (bJ L1 0 3 4) [(0,(a8 (yo G N) 3))]:=⟨_,v3 (ak (ak ((Dm G N L1).2) ao) ao)⟩
def q1(G:aw)(N:Nat):Nat->c6
 |0=>iq
 |n+1=>ua G N (q1 G N n)
def Lk(G:aw)(N:Nat):fU Tryz.f55 G N:=⟨_,t1 (ak (ak (ak ((yo G N).2) (ak (bD (b3 (λm=>(ua G N (q1 G N m)).2))) ao)) ao) ao)⟩
def Y5(N:Nat):=dZ Tryz.func55 λG=>(Lk G N).2
def Ll(G:aw):iB Tryz.f56 G:=⟨_,λN=>t3 ao⟩
def Y6(N:Nat):=g0 Tryz.func56 λG=>(Ll G).2 N
end
end
section
open Go.a2
set_option maxRecDepth 2000
section
variable {x:bj}{H:ad}{ok:Nat->Prop}
def Ky(au:eO x){a b cc d:ae}{zX f:Nat}(az:f<=x.ay.length)(aA:aO fC H ok x.ay cc)(aS:H.get zX=D (.row Z 5 [[a,b,cc,d,J X x.main]])){N:Nat}:∀(j k m:Nat),k+j=f->j<m->
  W (tZ (aQ P aK) N m (J X (f:Nat)) (.ptr zX 0 0) (J X (bK x.ay k:Nat)) (J X (k:Nat)) H) λr H'=>r= J X (bK x.ay f:Nat)/\H'=H
 |_,_,0,_,hm=>aa
 |0,k,m+1,i,_=>by
  have e:¬(k:Int)<(f:Int):=aa;simp-implicitDefEqProofs(disch:=try exact ai)only[ym,yl,tZ,aj,aC,e,decide_false];obtain rfl:k=f:=aa;exact aG.2 ⟨rfl,rfl⟩
 |j+1,k,m+1,i,t=>by
  have e:(k:Int)<(f:Int):=aa;have h:k<x.ay.length:=aa;have s:=au.ay;obtain⟨L,n,gv,gw,o,p,bR,b0⟩:=aA.oC (j:=(k:Int)) (g:=x.ay[k]) aa (by simp[h]);have l:bK x.ay (k+1)=bK x.ay k+x.ay[k].vars.length:=yZ (by simp[h]);have v:=wD au (List.getElem_mem h);have u:=rb au k;have on:=Ky au az aA aS (N:=N) j (k+1) m aa aa;rw[l]at on;generalize x.ay[k]=c at*;have q:IntKind.i64.wrap ((bK x.ay k:Int)+(c.vars.length:Int))=((bK x.ay k+c.vars.length:Nat):Int):=by rw[wrap_i64 aa aa];omega
  simp-implicitDefEqProofs(disch:=try exact ai)only[ym,yl,tZ,br,aj,aJ,aC,aL,e,decide_true,dA aS,o,p _ (av.refl _),bR.len cX,q,cq (show k<=1000000000 by omega)];exact on
def Kz(au:eO x){V:ae}(aA:cM H ok x V){f:Nat}(az:f<=x.ay.length):W (aQ P aK 52 [V,J X (f:Nat)] H) λr H'=>r= J X (bK x.ay f:Nat)/\av H H':=by
 obtain⟨_,rfl,a,b,cc,d,rfl,af,ah,an,aM⟩:=aA;refine Y2 (f+1) ?_;have c:=av.push H (.row Z 5 [[a,b,cc,d,J X x.main]]);have g:=ad.a_ H (.row Z 5 [[a,b,cc,d,J X x.main]]);simp-implicitDefEqProofs(disch:=try exact ai)only[Li,aj,dV af ah an aM];refine(Ky au az (an.aE c) g f 0 (f+1) aa aa).mono ?_;rintro r H' ⟨e,rfl⟩;exact⟨e,c⟩
def Zn(au:eO x){V:ae}(aA:cM H ok x V){f v:Nat}(az:f<=x.ay.length)(j:v<=1000000):W (aQ P aK 56 [V,J X (f:Nat),J X (v:Nat)] H) λr H'=>r= J X (bK x.ay f+v:Nat)/\av H H':=by
 have g:=aA;have k:=rb au f;have i:=au.ay;obtain⟨_,rfl,a,b,cc,d,rfl,af,ah,an,aM⟩:=aA;refine Y6 0 ?_;have c:=av.push H (.row Z 5 [[a,b,cc,d,J X x.main]]);have e:=ad.a_ H (.row Z 5 [[a,b,cc,d,J X x.main]]);simp-implicitDefEqProofs(disch:=try exact ai)only[Ll,aj,dV af ah an aM,cH e];refine aZ (Kz au (g.aE c) az) ?_;rintro _ K ⟨rfl,p⟩;refine⟨p.1,?_⟩;have h:IntKind.i64.wrap ((bK x.ay f:Int)+(v:Int))=((bK x.ay f+v:Nat):Int):=by rw[wrap_i64 aa aa];omega
 simp-implicitDefEqProofs(disch:=try exact ai)only[aj,aC,h];exact aG.2 ⟨rfl,c.trans p⟩
def WI(au:right x=C){V:ae}(aA:cM H ok x V):W (aQ P aK 25 [V] H) λr H'=>r= J X (ck x:Nat)/\av H H':=by
 have k:=aA;have e:=gA au;have j:=l0 e;have q:=e.ay;have s:=e.globals;obtain⟨_,rfl,a,b,cc,d,rfl,af,ah,an,aM⟩:=aA;refine Yt 0 ?_;have i:=av.push H (.row Z 5 [[a,b,cc,d,J X x.main]]);have c:=ad.a_ H (.row Z 5 [[a,b,cc,d,J X x.main]]);have t:bF (D (.agg [a,b,cc,d,J X x.main])) (.agg [a,b,cc,d,J X x.main])=true:=by simp[bF,ae.beq,er.beq,af.rd,ah.rd,an.rd,aM.rd]
 simp-implicitDefEqProofs(disch:=try exact ai)only[K8,aj,dV af ah an aM,cH c];refine aZ (Bv (k.aE i) (mV e) (mW au)) ?_;rintro _ K ⟨rfl,p⟩;refine⟨p.1,?_⟩;rw[au];simp-implicitDefEqProofs(disch:=try exact ai)only[aj,aJ,aL,Bool.not_true,cH (p.get c),dA (p.get c),an.len cI];refine aZ (Kz e ((k.aE i).aE p) (bC _)) ?_;rintro _ o ⟨rfl,g⟩;refine⟨g.1,?_⟩;have l:=p.trans g;have m:IntKind.i64.wrap ((bK x.ay x.ay.length:Int)+(x.ay.length:Int))=((fb x.ay+x.ay.length:Nat):Int):=by rw[wrap_i64 (by unfold fb at j;omega) (by unfold fb at j;omega),fb];omega
 have n:IntKind.i64.wrap (((fb x.ay+x.ay.length:Nat):Int)+(x.globals.length:Int))=((ck x:Nat):Int):=by rw[wrap_i64 aa aa,ck];omega
 simp-implicitDefEqProofs(disch:=try exact ai)only[aj,aJ,aC,aL,dA (l.get c),an.len cI,ah.len cX,m,n];refine cO (cP aF ?_) (aG.2 ⟨rfl,i.trans l⟩);refine py ?_ ?_
 ·simp only[ct,bz.K.heap,List.forall_mem_cons]
  repeat' first|exact av.refl _|exact g|(intro _ h;cases h;done)|refine ar ?_ ?_
 ·simp only[List.forall_mem_cons]
  repeat' first|(intro v f;cases f;done)|(intro v f;exact .inl rfl)|(intro v f;cases f;refine .inr λH' p=> ?_;simp only[dA (p.get (av.get ‹_› c)),eI an,eI ah];done)|(intro _ h;cases h;done)|refine ar ?_ ?_
end
end
section
open Go.a2
set_option maxRecDepth 2000
section
variable {H:ad}{ok:Nat->Prop}{x:bj}{f:Nat}{c:bH}{i:In}{gv gw wi:ae}
end
end
section
open Go.a2
set_option maxRecDepth 2000
section
variable {H:ad}{ok:Nat->Prop}{x:bj}
end
end
end Go.Proofs.YtmhhnnklfcbgfaaGreat
namespace Go.a2
open Go.bz
open Classical
def gO(l:List Bool)(s:Nat):Bool:=l.getD s Z
def zN{l:List Bool}{s:Nat}:gO l s=C↔l[s]? =D true:=by
 unfold gO;rw[List.getD_eq_getElem?_getD];cases l[s]? with
 |none=>simp
 |some b=>simp
def zL{l:List Bool}{s:Nat}(h:s<l.length):l[s]? =D (gO l s):=by
 unfold gO;rw[List.getD_eq_getElem?_getD,List.getElem?_eq_getElem h];rfl
def zM{l:List Bool}{s t:Nat}(h:s<l.length):gO (l.set s C) t=C↔t=s\/gO l t=true:=by
 rw[zN,zN,List.getElem?_set];by_cases e:s=t
 ·subst e;simp[h]
 ·simp[e,Ne.symm e]
def OW(m s:Nat):gO (List.replicate m Z) s=false:=by
 unfold gO;rw[List.getD_eq_getElem?_getD,List.getElem?_replicate];split<;>rfl
def kF:List Bool->Nat
 |[]=>0
 |b::bs=>(if b then 1 else 0)+kF bs
def A7:∀(l:List Bool),kF l<=l.length
 |[]=>bC _
 |b::bs=>by have:=A7 bs;simp only[kF,List.length_cons];split<;>omega
def I6:∀{l:List Bool} {s:Nat},l[s]? =D Z->kF (l.set s C)=kF l+1
 |[],_,h=>by simp at h
 |b::bs,0,h=>by
  simp only[List.getElem?_cons_zero,bb]at h;subst h;simp[kF];omega
 |b::bs,s+1,h=>by
  have:=I6 (l:=bs) (s:=s) (by simpa using h);simp only[List.set_cons_succ,kF];omega
end Go.a2
namespace Go.Proofs.YtmhhnnklfcbgfaaGreat
open Go.bz
section
open Go.a2
set_option maxRecDepth 2000
section
variable {n m M:Nat}{ID:List Nat}{G9:List (List Nat)}{nv fv:ae}{B:Nat->List Bool}{t:Bool}{H:ad}{l:List bB}
end
end
section
open Go.a2
set_option maxRecDepth 2000
section
variable {n m M:Nat}{ID:List Nat}{G9:List (List Nat)}{nv fv:ae}{l:List bB}
end
end
section
open Go.a2
set_option maxRecDepth 2000
section
variable {H:ad}
def Fx(a b:Int):W (aQ P aK 54 [J X a,J X b] H) λr H'=>r= A (decide (0<=a/\a<b))/\H'=H:=by
 refine Y4 0 ?_;by_cases c:0<=a
 ·simp-implicitDefEqProofs(disch:=try exact ai)only[Dl,aj,aJ,aC,c,decide_true];exact aG.2 ⟨rfl,rfl⟩
 ·simp-implicitDefEqProofs(disch:=try exact ai)only[Dl,aj,aC,c,decide_false,false_and];exact aG.2 ⟨rfl,rfl⟩
def By{met:List Bool}{L B:Nat}{c:Option Nat}(i:met.length<=100000){N:Nat}:∀(j k m:Nat) (H:ad) (l:List Int) (v:ae),k+j=met.length->j<m->H.get L=D (.row Z 1 (dw met))->bq aT B bk H l v->L<B->B<=H.next->l.length<=k->
  W (q1 (aQ P aK) N m (.aD L 0 met.length 1 c) v (.int .i64 (k:Nat)) H) λr H'=>bq aT B bk H' (l++jQ (met.drop k) k) r/\cT B H H'
 |_,_,0,_,_,_,_,hm,_,_,_,_,_=>aa
 |0,k,m+1,H,l,v,z,_,aP,al,_,_,_=>by
  have b:¬(k:Int)<(met.length:Int):=aa;simp-implicitDefEqProofs(disch:=try exact ai)only[q1,ua,yo,br,aj,aC,hI (by kernel_rfl:P.underlying 104=D (.slice 4)),b,decide_false];refine aG.2 ⟨?_,.refl _ _⟩;rw[List.drop_of_length_le aa,jQ,List.append_nil];exact al
 |j+1,k,m+1,H,l,v,z,hm,aP,al,e,h,O=>by
  have b:(k:Int)<(met.length:Int):=aa;have n:k<met.length:=aa;obtain⟨p,s,d⟩:=(DT aP c).bool (j:=(k:Int)) (a:=met[k]) aa (by simp[n]);have Q:=hI (H:=H) (by kernel_rfl:P.underlying 104=D (.slice 4));have q:=hI (H:= .empty) (by kernel_rfl:P.underlying 104=D (.slice 4));rw[List.drop_eq_getElem_cons n,jQ];have t:=cq (show k<=1000000000 by omega);cases o:met[k]with
  |false=>
   rw[o]at d;simp-implicitDefEqProofs(disch:=try exact ai)only[q1,ua,Dm,br,aj,aC,q,b,decide_true,s,d,t];exact By i j (k+1) m H l v aa aa aP al e h aa
  |true=>
   rw[o]at d;obtain⟨E,H',u,w,f,K,M⟩:=al.l6 (a:=(k:Int)) h aa;have hle:(H.push (.row Z 1 [[.int .i64 (k:Int)]])).next<=H'.next:=by simp;omega
   simp-implicitDefEqProofs(disch:=try exact ai)only[q1,ua,Dm,br,aj,aJ,aC,q,b,decide_true,s,d,ej,u,t];have y:H'.get L=D (.row Z 1 (dw met)):=by rw[f.2 L e];exact aP
   refine(By i j (k+1) m H' (l++[(k:Int)]) E aa aa y w e aa (by simp;omega)).mono ?_;rintro r G ⟨g,x⟩;refine⟨?_,f.trans x⟩;rw[List.append_assoc]at g;exact g
def Xc{met:List Bool}{L m:Nat}{c:Option Nat}(hm:met.length=m)(b:m<=100000)(g:H.get L=D (.row Z 1 (dw met))):W (aQ P aK 55 [.aD L 0 m 1 c] H) λr H'=>bq aT H.next bk H' (jQ met 0) r/\av H H':=by
 subst hm;refine Y5 (met.length+1) ?_;rw[Lk];refine(By b met.length 0 (met.length+1) H [] .aB aa aa g (bq.nil _ _ _ _) (ad.bE g) Nat.le.refl (by simp)).mono ?_;rintro r H' ⟨a,d⟩;rw[List.drop_zero,List.nil_append]at a;exact⟨a,d.aE⟩
end
end
section
open Go.a2
set_option maxRecDepth 2000
section
variable {H:ad}{ok:Nat->Prop}{n m:Nat}{l:List bB}
end
end
section
open Go.a2
set_option maxRecDepth 2000
section
variable {n m:Nat}{l:List bB}
end
end
section
open Go.a2
set_option maxRecDepth 2000
section
variable {n m:Nat}{l:List bB}
def bq.N5{α:Type}{K:ek α}{t e B:Nat}(y:eW t e 1){H H1:ad}{ls:List (List α)}{v w:ae}{l:List α}(h:bq (b1 K) B (B<= ·) H ls v)(i:B<=H.next)(p:av H H1)(hw:aO K H1 (H.next<= ·) l w)(al:ls.length<=999999999):
  ∃b H',ee P (H1.push (.row Z 1 [[w]])) [t,t] v (.aD H1.next 0 1 1 (D 1))=D (b,H')/\bq (b1 K) B (B<= ·) H' (ls++[l]) b/\cT B H H'/\H1.next+1<=H'.next:=by
 obtain⟨b,H',c,d,f,g,_⟩:=bq.rF (K:=b1 K) y h i p (a:=l) (cs:=[w]) ⟨w,rfl,hw⟩ (ok':=(B<= ·)) (λk j=>by rcases j with h|h<;>omega) al;exact⟨b,H',c,d,f,g⟩
end
end
section
open Go.a2
set_option maxRecDepth 2000
section
variable {n m:Nat}{l:List bB}{M:Nat}{ID:List Nat}{G9:List (List Nat)}{nv fv:ae}{B:Nat->List Bool}{H0:ad}
end
section
variable {n m:Nat}{l:List bB}{H:ad}{ok:Nat->Prop}
end
end
section
set_option maxRecDepth 100000
set_option maxHeartbeats 4000000
noncomputable section
def KK(G:aw)(N:Nat):g5 Tryz.f13 G N (·.ag.ag.ag) (bg Tryz.f13) []:=⟨_,v0 ao⟩
def KJ(G:aw)(N:Nat)(L1:c6):gj 0 1 5 Tryz.f13 G N (·.ag.ag.ax.ag.ax.ax) (bJ L1 0 1 5) [(0,(bh (KK G N)))]:=⟨_,v3 ao⟩
def KM(G:aw)(N:Nat):Nat->c6
 |0=>iq
 |n+1=>KJ G N (KM G N n)
def KI(G:aw)(N:Nat):fJ Tryz.f13 G N:=⟨_,t2 (ak (ak (ak ((KK G N).2) (ak (bD (b3 (λm=>(KJ G N (KM G N m)).2))) ao)) ao) ao)⟩
def K6(G:aw)(N:Nat):g5 Tryz.f17 G N (·.ag.ag.ag) (bg Tryz.f17) []:=⟨_,v0 ao⟩
def K5(G:aw)(N:Nat)(L1:c6):gj 0 1 5 Tryz.f17 G N (·.ag.ag.ax.ag.ax.ax) (bJ L1 0 1 5) [(0,(bh (K6 G N)))]:=⟨_,v3 ao⟩
def K7(G:aw)(N:Nat):Nat->c6
 |0=>iq
 |n+1=>K5 G N (K7 G N n)
def K4(G:aw)(N:Nat):fJ Tryz.f17 G N:=⟨_,t2 (ak (ak (ak ((K6 G N).2) (ak (bD (b3 (λm=>(K5 G N (K7 G N m)).2))) ao)) ao) ao)⟩
def C8(G:aw)(N:Nat):g5 Tryz.f31 G N (·.ag.ag) (bg Tryz.f31) []:=⟨_,v0 ao⟩
def x3(G:aw)(N:Nat)(L1:c6):gj 0 1 5 Tryz.f31 G N (·.ag.ax.ag.ax.ax) (bJ L1 0 1 5) [(0,(bh (C8 G N)))]:=⟨_,v3 ao⟩
def tR(G:aw)(N:Nat):Nat->c6
 |0=>iq
 |n+1=>x3 G N (tR G N n)
def Ld(G:aw)(N:Nat):fJ Tryz.f31 G N:=⟨_,t2 (ak (ak ((C8 G N).2) (ak (bD (b3 (λm=>(x3 G N (tR G N m)).2))) ao)) ao)⟩
def YL(N:Nat):=dc Tryz.func31 λG=>(Ld G N).2
end
end
section
open Go.a2
set_option maxRecDepth 2000
def abS{l:List Nat}{i n:Nat}(h:l[i]? =D n):(aX l)[i]? =D (n:Int):=by simp[aX,h]
def hx(l:List Nat):(aX l).length=l.length:=by simp[aX]
section
variable {bx zD:Nat}{lv:ae}{L:List Nat}{H:ad}
end
end
section
open Go.a2
set_option maxRecDepth 2000
section
variable {H:ad}{ok:Nat->Prop}
section
variable {m:Nat}{p:dq}{nv fv:ae}{zX:Nat}
end
end
end
section
open Go.a2
set_option maxRecDepth 2000
section
variable {bx zD m:Nat}{lv:ae}{p:dq}
end
end
section
open Go.a2
set_option maxRecDepth 2000
section
variable {bx zD zX m:Nat}{lv:ae}{p:dq}{nv fv:ae}{ok:Nat->Prop}
end
end
section
open Go.a2
set_option maxRecDepth 2000
section
variable {bx zD zX m:Nat}{lv:ae}{p:dq}{nv fv:ae}{ok:Nat->Prop}{L:List Nat}
end
end
section
open Go.a2
set_option maxRecDepth 2000
section
variable {bx zD zX m:Nat}{lv:ae}{p:dq}{nv fv:ae}{ok:Nat->Prop}{L:List Nat}
end
end
section
open Go.a2
set_option maxRecDepth 2000
section
variable {bx zD zX m:Nat}{lv:ae}{p:dq}{nv fv:ae}{ok:Nat->Prop}{L:List Nat}
end
end
end Go.Proofs.YtmhhnnklfcbgfaaGreat
namespace Go.a2
open Go.bz
open Classical
structure mz(fs:List (List Int))(roots:List Int)(met:List Bool):Prop where
 len:met.length=fs.length
 snd:∀c:Nat,gO met c=true->eX fs roots c
def ri(fs:List (List Int))(met:List Bool)(c:Nat):Prop:=gO met c=C->∀f,fs[c]? =D f->∀d:Nat,(d:Int)∈f->d<fs.length->gO met d=C
def mz.set{fs:List (List Int)}{roots:List Int}{met:List Bool}(h:mz fs roots met){d:Nat}(a:d<fs.length)(au:eX fs roots d):mz fs roots (met.set d C):=by
 refine⟨by rw[List.length_set];exact h.len,λc aq=> ?_⟩;rcases(zM (by rw[h.len];exact a)).1 aq with rfl|af
 ·exact au
 ·exact h.snd c af
def mz.list{fs:List (List Int)}{roots:List Int}{met:List Bool}(h:mz fs roots met)(au:∀n:Nat,(n:Int)∈roots->n<fs.length->gO met n=C)(aq:∀c,c<fs.length->ri fs met c):
  jQ met 0=(dS fs roots).map λ(n:Nat)=>(n:Int):=by
 have d:∀c:Nat,gO met c=C↔eX fs roots c:=by
  intro c;refine⟨h.snd c,λe=> ?_⟩
  induction e with
  |root af ah=>exact au _ af ah
  |step _ az b al i=>exact aq _ (List.getElem?_eq_some_iff.1 az).1 i _ az _ b al
 have:=Ea (m:=fs.length) (p:=eX fs roots) (bs:=met) (k:=0) (by have:=h.len;omega) λi _ _=>by rw[Nat.sub_zero,<-zN];exact d i
 rw[this];unfold dS
 congr 1
 rw[List.filter_eq_self];intro a _;simp
structure kW(t:Bool)(l:List Bool)(b:Bool)(a:List Bool):Prop where
 len:a.length=l.length
 le:kF l<=kF a
 on:b=true->t=true\/kF l<kF a
 off:b=false->t=false/\a=l
 up:∀c,gO l c=true->gO a c=true
def kW.refl(t:Bool)(l:List Bool):kW t l t l:=⟨rfl,bC _,.inl,λh=>⟨h,rfl⟩,λ_ h=>h⟩
def kW.trans{t m n:Bool}{l i j:List Bool}(h:kW t l m i)(k:kW m i n j):kW t l n j:=
 ⟨k.len.trans h.len,Nat.le_trans h.le k.le,λe=>by
  rcases k.on e with f|f
  ·rcases h.on f with g|g
   ·exact .inl g
   ·exact .inr (by have:=k.le;omega)
  ·exact .inr (by have:=h.le;omega),λe=>by
  obtain⟨a,b⟩:=k.off e;obtain⟨c,d⟩:=h.off a;exact⟨c,b.trans d⟩,λc q=>k.up c (h.up c q)⟩
def kW.set{t:Bool}{l:List Bool}{s:Nat}(h:l[s]? =D Z):kW t l C (l.set s C):=by
 have af:=I6 h;have ah:=(List.getElem?_eq_some_iff.1 h).1;exact⟨List.length_set,by omega,λ_=> .inr (by omega),λe=>(by cases e),λc q=>(zM ah).2 (.inr q)⟩
def mz.start(fs:List (List Int))(roots:List Int):mz fs roots (List.replicate fs.length Z):=
 ⟨by simp,λc h=>by rw[OW]at h;cases h⟩
def mB(l:List Int):Prop:=l.Pairwise (· < ·)
def Kl:∀{l r:List Int},mB l->mB r->(∀a,a∈l↔a∈r)->l=r
 |[],[],_,_,_=>rfl
 |[],b::r,_,_,h=>by have:=(h b).2 (by simp);simp at this
 |a::l,[],_,_,h=>by have:=(h a).1 (by simp);simp at this
 |a::l,b::r,al,au,h=>by
  unfold mB at al au;rw[List.pairwise_cons]at al au;have e:a=b:=by
   have af:=(h a).1 (by simp);have ah:=(h b).2 (by simp);rw[List.mem_cons]at af ah;rcases af with af|af
   ·exact af
   ·rcases ah with ah|ah
    ·exact ah.symm
    ·have:=au.1 a af;have:=al.1 b ah;omega
  subst e;rw[Kl (l:=l) (r:=r) al.2 au.2 λc=> ?_];have:=h c;simp only[List.mem_cons]at this;constructor
  ·intro aq;rcases this.1 (.inr aq)with rfl|d
   ·exact absurd (al.1 c aq) (by omega)
   ·exact d
  ·intro aq;rcases this.2 (.inr aq)with rfl|d
   ·exact absurd (au.1 c aq) (by omega)
   ·exact d
def Xb{l:List Nat}(h:l.Pairwise (· < ·)):mB (l.map λ(n:Nat)=>(n:Int)):=by
 unfold mB;rw[List.pairwise_map];exact h.imp λh=>by omega
def Km(m:Nat)(p:Nat->Prop):mB ((cY m p).map λ(n:Nat)=>(n:Int)):=Xb (sr m p)
def Bx{m:Nat}{p:Nat->Prop}{l:List Int}(h:mB l)(hm:∀a∈l,∃n:Nat,a=n/\n<m/\p n)(c:∀n:Nat,n<m->p n->(n:Int)∈l):l=(cY m p).map λ(n:Nat)=>(n:Int):=by
 refine Kl h (Km m p) λa=> ?_
 simp only[List.mem_map,fB];constructor
 ·intro b;obtain⟨n,rfl,af,ah⟩:=hm a b;exact⟨n,⟨af,ah⟩,rfl⟩
 ·rintro⟨n,⟨af,ah⟩,rfl⟩;exact c n af ah
def Xa{m:Nat}{l:List Int}(h:mB l)(hm:∀a∈l,0<=a/\a<m):l.length<=m:=by
 have:=Bx (m:=m) (p:=λn=>(n:Int)∈l) h (λa b=>⟨a.toNat,by have:=hm a b;omega,by have:=hm a b;omega,by rw[Int.toNat_of_nonneg (hm a b).1];exact b⟩) λn _ aH=>aH
 rw[this,List.length_map];unfold cY;exact Nat.le_trans (List.length_filter_le _ _) (by simp)
def kE(a b:List Int):List Int:=a.filter λc=>decide (c∉b)
end Go.a2
namespace Go.Proofs.YtmhhnnklfcbgfaaGreat
open Go.bz
section
open Go.a2
set_option maxRecDepth 2000
section
variable {H:ad}{ok ok':Nat->Prop}
def Kk{l:List Int}{v:ae}{a:Int}(h:aO aT H ok l v)(d:l.length<=1000000000){N:Nat}:∀(j k m:Nat),k+j=l.length->j<m->a∉l.take k->W (tR (aQ P aK) N m v (J X a) (J X (k:Nat)) H) λq H'=>q= A (decide (a∈l))/\H'=H
 |_,_,0,_,hm,_=>aa
 |0,k,m+1,f,_,aH=>by
  have b:¬(k:Int)<(l.length:Int):=aa;simp-implicitDefEqProofs(disch:=try exact ai)only[tR,x3,C8,br,aj,aC,h.len b6,b,decide_false];refine aG.2 ⟨?_,rfl⟩;rw[List.take_of_length_le aa]at aH;rw[decide_eq_false aH]
 |j+1,k,m+1,f,hm,aH=>by
  have b:(k:Int)<(l.length:Int):=aa;have c:k<l.length:=aa;obtain⟨p,g,i⟩:=h.int (j:=(k:Int)) (a:=l[k]) aa (by simp[c]);simp-implicitDefEqProofs(disch:=try exact ai)only[tR,x3,br,aj,aC,h.len b6,b,decide_true,g,i];by_cases he:l[k]=a
  ·rw[show(l[k]==a)=C by simpa using he];simp-implicitDefEqProofs(disch:=try exact ai)only[aj];refine aG.2 ⟨?_,rfl⟩;rw[decide_eq_true];rw[<-he];exact List.getElem_mem c
  ·rw[show(l[k]==a)=Z by simpa using he];simp-implicitDefEqProofs(disch:=try exact ai)only[aj,aC,cq (show k<=1000000000 by omega)];refine Kk h d j (k+1) m aa aa ?_;rw[List.take_succ_eq_append_getElem c,List.mem_append];simp only[List.mem_singleton];exactλaq=>aq.elim aH λe=>he e.symm
def sC{l:List Int}{v:ae}{a:Int}(h:aO aT H ok l v)(b:l.length<=1000000000):W (aQ P aK 31 [v,J X a] H) λq H'=>q= A (decide (a∈l))/\H'=H:=by
 refine YL (l.length+1) ?_;rw[Ld];exact Kk h b l.length 0 (l.length+1) aa aa (by simp)
def J4{l r:List Int}{v w:ae}(h:aO aT H ok l v)(ah:aO aT H ok' r w)(i:l.length<=1000000000)(g:r.length<=1000000000){N:Nat}:∀(j k m:Nat),k+j=l.length->j<m->(∀a∈l.take k,a∈r)->W (t_ (aQ P aK) N m v w (J X (k:Nat)) H) λq H'=>∃b,q= A b/\(b=C↔∀a∈l,a∈r)/\H'=H
 |_,_,0,_,hm,_=>aa
 |0,k,m+1,n,_,aH=>by
  have d:¬(k:Int)<(l.length:Int):=aa;simp-implicitDefEqProofs(disch:=try exact ai)only[t_,yn,Dk,br,aj,aC,h.len b6,d,decide_false];rw[List.take_of_length_le aa]at aH;exact aG.2 ⟨C,rfl,⟨λ_=>aH,λ_=>rfl⟩,rfl⟩
 |j+1,k,m+1,n,hm,aH=>by
  have d:(k:Int)<(l.length:Int):=aa;have f:k<l.length:=aa;obtain⟨p,o,s⟩:=h.int (j:=(k:Int)) (a:=l[k]) aa (by simp[f]);simp-implicitDefEqProofs(disch:=try exact ai)only[t_,yn,br,aj,aC,h.len b6,d,decide_true,o,s];refine eu (sC ah g) ?_;by_cases he:l[k]∈r
  ·simp-implicitDefEqProofs(disch:=try exact ai)only[aj,aC,he,decide_true,Bool.not_true,cq (show k<=1000000000 by omega)];refine J4 h ah i g j (k+1) m aa aa ?_;intro a c;rw[List.take_succ_eq_append_getElem f,List.mem_append]at c;simp only[List.mem_singleton]at c;exact c.elim (aH a) λe=>e▸he
  ·simp-implicitDefEqProofs(disch:=try exact ai)only[aj,he,decide_false,Bool.not_false];exact aG.2 ⟨Z,rfl,⟨λe=>(by cases e),λaq=>absurd (aq _ (List.getElem_mem f)) he⟩,rfl⟩
def J5{l r:List Int}{v w:ae}(h:aO aT H ok l v)(ah:aO aT H ok' r w)(d:l.length<=1000000000)(e:r.length<=1000000000):W (aQ P aK 53 [v,w] H) λq H'=>∃b,q= A b/\(b=C↔∀a∈l,a∈r)/\H'=H:=by
 refine Y3 (l.length+1) ?_;rw[Lj];exact J4 h ah d e l.length 0 (l.length+1) aa aa (λa c=>by simp at c)
def WD{l r:List Int}{v w:ae}(h:aO aT H ok l v)(ah:aO aT H ok' r w)(c:l.length<=1000000000)(d:r.length<=1000000000):W (aQ P aK 27 [v,w] H) λq H'=>∃b,q= A b/\(b=C↔∀a∈l,a∈r)/\H'=H:=by
 refine YD 0 ?_;simp-implicitDefEqProofs(disch:=try exact ai)only[K_];refine aZ (J5 h ah c d) ?_;rintro _ H' ⟨b,rfl,e,rfl⟩;exact⟨Nat.le.refl,aG.2 ⟨b,rfl,e,rfl⟩⟩
def Ko{l g:List Int}{v w:ae}{B:Nat}(y:l.length<=1000000)(f:g.length<=1000000000){N:Nat}:∀(j k m:Nat) (H:ad) (r:List Int) (rv:ae),k+j=l.length->j<m->aO aT H (· <B) l v->aO aT H (· <B) g w->B<=H.next->bq aT B bk H r rv->r.length<=k->
  W (tL (aQ P aK) N m v w rv (J X (k:Nat)) H) λq H'=>bq aT B bk H' (r++kE (l.drop k) g) q/\cT B H H'
 |_,_,0,_,_,_,_,hm,_,_,_,_,_=>aa
 |0,k,m+1,H,r,rv,z,_,h,ah,c,au,_=>by
  have d:¬(k:Int)<(l.length:Int):=aa;simp-implicitDefEqProofs(disch:=try exact ai)only[tL,xV,xW,br,aj,aC,h.len b6,d,decide_false];rw[List.drop_of_length_le aa];exact aG.2 ⟨by simpa [kE]using au,.refl _ _⟩
 |j+1,k,m+1,H,r,rv,z,hm,h,ah,c,au,M=>by
  have d:(k:Int)<(l.length:Int):=aa;have i:k<l.length:=aa;obtain⟨p,n,o⟩:=h.int (j:=(k:Int)) (a:=l[k]) aa (by simp[i]);have on:=Ko (l:=l) (g:=g) (v:=v) (w:=w) (B:=B) y f (N:=N) j (k+1) m;have s:=cq (show k<=1000000000 by omega);rw[List.drop_eq_getElem_cons i];simp-implicitDefEqProofs(disch:=try exact ai)only[tL,xV,br,aj,aC,h.len b6,d,decide_true,n,o];refine eu (sC ah f) ?_;by_cases he:l[k]∈g
  ·have e:kE (l[k]::l.drop (k+1)) g=kE (l.drop (k+1)) g:=by unfold kE;rw[List.filter_cons];simp[he]
   simp-implicitDefEqProofs(disch:=try exact ai)only[C6,aj,aC,he,decide_true,Bool.not_true,s];rw[e];exact on H r rv aa aa h ah c au aa
  ·have e:kE (l[k]::l.drop (k+1)) g=l[k]::kE (l.drop (k+1)) g:=by unfold kE;rw[List.filter_cons];simp[he]
   obtain⟨E,H',t,u,b,x,_⟩:=au.l6 (a:=l[k]) c aa;have hle:H.next+1<=H'.next:=x
   simp-implicitDefEqProofs(disch:=try exact ai)only[C6,aj,aC,he,decide_false,Bool.not_false,n,o,ej,t,s];rw[e];refine(on H' _ E aa aa (h.gy b) (ah.gy b) aa u (by simp;omega)).mono ?_;rintro q L ⟨G,K⟩;exact⟨by simpa using G,b.trans K⟩
def Xd{l g:List Int}{v w:ae}(h:aO aT H ok l v)(ah:aO aT H ok' g w)(b:l.length<=1000000)(c:g.length<=1000000000):W (aQ P aK 28 [v,w] H) λq H'=>bq aT H.next bk H' (kE l g) q/\av H H':=by
 refine YE (l.length+1) ?_;rw[La];refine(Ko b c l.length 0 (l.length+1) H [] .aB aa aa h.below ah.below Nat.le.refl (bq.nil _ _ _ _) (by simp)).mono ?_;rintro q H' ⟨a,d⟩;rw[List.drop_zero,List.nil_append]at a;exact⟨a,d.aE⟩
end
end
section
open Go.a2
set_option maxRecDepth 2000
section
variable {H:ad}{ok:Nat->Prop}
end
end
section
open Go.a2
set_option maxRecDepth 2000
section
variable {H:ad}{ok ok':Nat->Prop}
def r4{L n i:Nat}{c:Option Nat}(h:i<n):cm P 104 (.aD L 0 n 1 c) (J X (i:Nat))=D (.ptr L i 0):=by
 rw[nF oX aa aa];simp
def Ix{L i:Nat}{met:List Bool}(g:H.get L=D (.row Z 1 (dw met)))(h:i<met.length):aI P H 4 (.ptr L i 0)=D (A (gO met i)):=by
 rw[e_ D9 g (uW (zL h))];rfl
def L6{L i:Nat}{met:List Bool}(g:H.get L=D (.row Z 1 (dw met)))(h:i<met.length):cD P H 4 (.ptr L i 0) (A C)=D (H.set L (.row Z 1 (dw (met.set i C)))):=yK g (zL h)
section
variable {fs:List (List Int)}{roots:List Int}{fv rv:ae}{L:Nat}
structure kj(fs:List (List Int))(roots:List Int)(fv rv:ae)(L:Nat)(met:List Bool)(H:ad):Prop where
 az:aO (b1 aT) H (· <L) fs fv
 au:aO aT H (· <L) roots rv
 g:H.get L=some (.row false 1 (dw met))
 m:mz fs roots met
def kj.set{met:List Bool}(s:kj fs roots fv rv L met H){d:Nat}(c:d<fs.length)(au:eX fs roots d):kj fs roots fv rv L (met.set d C) (H.set L (.row Z 1 (dw (met.set d C)))):=by
 have a:e1 H (· <L) (H.set L (.row Z 1 (dw (met.set d C)))) (· <L):=λk b (e:k<L) g=>⟨e,by rw[ad.cb aa];exact g⟩
 exact⟨s.az.keep a,s.au.keep a,ad.c8 (ad.bE s.g),s.m.set c au⟩
def kV(L:Nat)(H H':ad):Prop:=H'.next=H.next/\∀k,k≠L->H'.get k=H.get k
def kV.refl(L:Nat)(H:ad):kV L H H:=⟨rfl,λ_ _=>rfl⟩
def kV.trans{H1 a b:ad}(h:kV L H1 a)(k:kV L a b):kV L H1 b:=⟨k.1.trans h.1,λz c=>(k.2 z c).trans (h.2 z c)⟩
def Jr(H:ad)(b:bn):kV L H (H.set L b):=⟨rfl,λ_ a=>ad.cb (Ne.symm a)⟩
def He(z:roots.length<=1000000000){Q:ae->ad->Prop}{N:Nat}:∀(j k q:Nat) (H:ad) (met:List Bool),k+j=roots.length->j<q->kj fs roots fv rv L met H->(∀(i n:Nat),i<k->roots[i]? =D (n:Int)->n<fs.length->gO met n=C)->
  (∀(H':ad) (met:List Bool),kj fs roots fv rv L met H'->(∀n:Nat,(n:Int)∈roots->n<fs.length->gO met n=C)->kV L H H'->W (tN (aQ P aK) N fv (.aD L 0 fs.length 1 (D fs.length)) H') Q)->
  W (tQ (aQ P aK) N q fv rv (.aD L 0 fs.length 1 (D fs.length)) (.int .i64 (k:Nat)) H) Q
 |_,_,0,_,_,_,aN,_,_,_=>aa
 |0,k,q+1,H,met,E,_,s,f,fin=>by
  have o:¬(k:Int)<(roots.length:Int):=aa;simp-implicitDefEqProofs(disch:=try exact ai)only[tQ,xZ,br,aj,aC,s.au.len b6,o,decide_false];refine fin H met s (λn aH al=> ?_) (.refl _ _);obtain⟨i,B,e⟩:=List.mem_iff_getElem.1 aH;exact f i n aa (by rw[List.getElem?_eq_getElem B,e]) al
 |j+1,k,q+1,H,met,E,aN,s,f,fin=>by
  have o:(k:Int)<(roots.length:Int):=aa;have r:k<roots.length:=aa;obtain⟨p,w,t⟩:=s.au.int (j:=(k:Int)) (a:=roots[k]) aa (by simp[r]);have l:roots[k]? =D roots[k]:=by simp[r]
  have on:=He z (Q:=Q) (N:=N) j (k+1) q;have x:=cq (show k<=1000000000 by omega);have T:=hI (H:=H) (by kernel_rfl:P.underlying 104=D (.slice 4)) L 0 fs.length 1 (D fs.length);have K:=hI (H:= .empty) (by kernel_rfl:P.underlying 104=D (.slice 4)) L 0 fs.length 1 (D fs.length);simp-implicitDefEqProofs(disch:=try exact ai)only[tQ,xZ,br,aj,aC,s.au.len b6,o,decide_true,w,t,K];refine eu (Fx _ _) ?_;by_cases b:0<=roots[k]/\roots[k]<(fs.length:Int)
  ·obtain⟨d,u⟩:∃d:Nat,roots[k]=d:=⟨roots[k].toNat,aa⟩;rw[u]at t l b ⊢;have c:d<fs.length:=aa;have v:d<met.length:=by rw[s.m.len];exact c
   have G:eX fs roots d:= .root (u▸List.getElem_mem r) c;simp-implicitDefEqProofs(disch:=try exact ai)only[C7,aj,aJ,aC,b,decide_true,w,t,r4 c,L6 s.g v,x];refine on _ _ aa aa (s.set c G) (λi n af ah an=>(zM v).2 ?_) λy M O R S=>fin y M O R ((Jr _ _).trans S)
   rcases Nat.lt_or_eq_of_le (Nat.le_of_lt_succ af)with h|rfl
   ·exact .inr (f i n h ah an)
   ·rw[l]at ah;exact .inl (by have:=Option.some.inj ah;omega)
  ·simp-implicitDefEqProofs(disch:=try exact ai)only[C7,aj,aC,b,decide_false,x];refine on H met aa aa s (λi n af ah an=> ?_) fin;rcases Nat.lt_or_eq_of_le (Nat.le_of_lt_succ af)with h|rfl
   ·exact f i n h ah an
   ·rw[l]at ah;have:=Option.some.inj ah;exact absurd aa b
def Hc{c:Nat}(aq:c<fs.length)(V:∀f∈fs,f.length<=1000000000){L2:ae->ae->ae->ad->O}{L3:ae->ae->ae->ae->ad->O}{Q:ae->ad->Prop}{N:Nat}:∀(j k q:Nat) (H:ad) (met:List Bool) (t:Bool),k+j=fs[c].length->j<q->kj fs roots fv rv L met H->(t=Z->gO met c=C->∀(i d:Nat),i<k->fs[c][i]? =D (d:Int)->d<fs.length->gO met d=C)->
  (∀(H':ad) (M:List Bool) (S:Bool),kj fs roots fv rv L M H'->kW t met S M->(S=Z->ri fs M c)->kV L H H'->W (pf (aQ P aK) N L2 L3 fv (.aD L 0 fs.length 1 (D fs.length)) (.bool S) (.int .i64 (c:Nat)) H') Q)->
  W (qW (aQ P aK) N L2 L3 q fv (.aD L 0 fs.length 1 (D fs.length)) (.bool t) (.int .i64 (c:Nat)) (.int .i64 (k:Nat)) H) Q
 |_,_,0,_,_,_,_,aN,_,_,_=>aa
 |j,k,q+1,H,met,t,G,aN,s,E,fin=>by
  obtain⟨p,w,n,o,x⟩:=s.az.list (j:=(c:Int)) (a:=fs[c]) aa (by simp[aq]);have aE:=V _ (List.getElem_mem aq);have am:c<met.length:=by rw[s.m.len];exact aq
  have T:=cq (show k<=1000000000 by omega);have aF:=hI (H:=H) (by kernel_rfl:P.underlying 104=D (.slice 4)) L 0 fs.length 1 (D fs.length);have au:=hI (H:= .empty) (by kernel_rfl:P.underlying 104=D (.slice 4)) L 0 fs.length 1 (D fs.length);have U:fs[c]? =D fs[c]:=by simp[aq]
  match j,G,aN with
  |0,G,_=>
   have u:¬(k:Int)<(fs[c].length:Int):=aa;simp-implicitDefEqProofs(disch:=try exact ai)only[qW,tM,br,aj,aC,n,o,x.len b6,u,decide_false];refine fin H met t s (.refl _ _) (λe hm f az d b al=> ?_) (.refl _ _);obtain rfl:fs[c]=f:=Option.some.inj (U.symm.trans az);obtain⟨i,ap,ag⟩:=List.mem_iff_getElem.1 b;exact E e hm i d aa (by rw[List.getElem?_eq_getElem ap,ag]) al
  |j+1,G,aN=>
   have u:(k:Int)<(fs[c].length:Int):=aa;have K:k<fs[c].length:=aa;have z:fs[c][k]? =D fs[c][k]:=by simp[K]
   obtain⟨aG,R,y⟩:=x.int (j:=(k:Int)) (a:=fs[c][k]) aa (by simp[K]);have on:=Hc aq V (L2:=L2) (L3:=L3) (Q:=Q) (N:=N) j (k+1) q;have lm:=Ix s.g am;cases hm:gO met c with
   |false=>
    rw[hm]at lm;simp-implicitDefEqProofs(disch:=try exact ai)only[qW,tM,br,aj,aC,n,o,x.len b6,u,decide_true,r4 aq,lm];exact fin H met t s (.refl _ _) (λ_ h=>by rw[hm]at h;cases h) (.refl _ _)
   |true=>
    rw[hm]at lm;simp-implicitDefEqProofs(disch:=try exact ai)only[qW,tM,br,aj,aC,n,o,x.len b6,u,decide_true,r4 aq,lm,R,y,au];refine eu (Fx _ _) ?_;by_cases b:0<=fs[c][k]/\fs[c][k]<(fs.length:Int)
    ·obtain⟨d,ao⟩:∃d:Nat,fs[c][k]=d:=⟨fs[c][k].toNat,aa⟩;have Y:=List.getElem_mem K;rw[ao]at y z b Y ⊢;have l:d<fs.length:=aa;have B:d<met.length:=by rw[s.m.len];exact l
     have ar:eX fs roots d:= .step (s.m.snd c hm) U Y l;have eM:=Ix s.g B;cases v:gO met d with
     |true=>
      rw[v]at eM;simp-implicitDefEqProofs(disch:=try exact ai)only[x0,aj,aJ,aC,b,decide_true,n,o,R,y,r4 l,eM,Bool.not_true,T];refine on H met t aa aa s (λe _ i r af ah an=> ?_) fin;rcases Nat.lt_or_eq_of_le (Nat.le_of_lt_succ af)with h|rfl
      ·exact E e hm i r h ah an
      ·rw[z]at ah;obtain rfl:d=r:=by have:=Option.some.inj ah;omega
       exact v
     |false=>
      rw[v]at eM;have ak:met[d]? =D false:=by rw[zL B,v]
      simp-implicitDefEqProofs(disch:=try exact ai)only[x0,aj,aJ,aC,b,decide_true,n,o,R,y,r4 l,eM,Bool.not_false,L6 s.g B,T];refine on _ _ C aa aa (s.set l ar) (λe=>by cases e) λab av t2 aw ax ay aA=>fin ab av t2 aw ((kW.set ak).trans ax) ay ((Jr _ _).trans aA)
    ·simp-implicitDefEqProofs(disch:=try exact ai)only[x0,aj,aC,b,decide_false,T];refine on H met t aa aa s (λe _ i r af ah an=> ?_) fin;rcases Nat.lt_or_eq_of_le (Nat.le_of_lt_succ af)with h|rfl
     ·exact E e hm i r h ah an
     ·rw[z]at ah;have:=Option.some.inj ah;exact absurd aa b
def Hf(aH:fs.length<=100000)(o:∀f∈fs,f.length<=1000000000){L2:ae->ae->ae->ad->O}{Q:ae->ad->Prop}{N:Nat}(n:∀f∈fs,f.length<N):∀(j k q:Nat) (H:ad) (met:List Bool) (t:Bool),k+j=fs.length->j<q->kj fs roots fv rv L met H->(t=Z->∀c,c<k->ri fs met c)->
  (∀(H':ad) (l:List Bool) (m:Bool),kj fs roots fv rv L l H'->kW t met m l->(m=Z->∀c,c<fs.length->ri fs l c)->kV L H H'->W (L2 fv (.aD L 0 fs.length 1 (D fs.length)) (.bool m) H') Q)->
  W (tP (aQ P aK) N L2 q fv (.aD L 0 fs.length 1 (D fs.length)) (.bool t) (.int .i64 (k:Nat)) H) Q
 |_,_,0,_,_,_,_,aN,_,_,_=>aa
 |0,k,q+1,H,met,t,v,_,s,a,fin=>by
  have b:¬(k:Int)<(fs.length:Int):=aa;have w:=hI (H:=H) (by kernel_rfl:P.underlying 104=D (.slice 4)) L 0 fs.length 1 (D fs.length);have g:=hI (H:= .empty) (by kernel_rfl:P.underlying 104=D (.slice 4)) L 0 fs.length 1 (D fs.length);simp-implicitDefEqProofs(disch:=try exact ai)only[tP,xY,br,aj,aC,g,b,decide_false];exact fin H met t s (.refl _ _) (λe c aq=>a e c aa) (.refl _ _)
 |j+1,k,q+1,H,met,t,v,aN,s,a,fin=>by
  have b:(k:Int)<(fs.length:Int):=aa;have p:k<fs.length:=aa;have w:=hI (H:=H) (by kernel_rfl:P.underlying 104=D (.slice 4)) L 0 fs.length 1 (D fs.length);have g:=hI (H:= .empty) (by kernel_rfl:P.underlying 104=D (.slice 4)) L 0 fs.length 1 (D fs.length);have on:=Hf aH o (L2:=L2) (Q:=Q) n j (k+1) q;simp-implicitDefEqProofs(disch:=try exact ai)only[tP,xY,br,aj,aC,g,b,decide_true];refine Hc p o fs[k].length 0 N H met t aa (n _ (List.getElem_mem p)) s (λ_ _ i d h=>aa) ?_;intro H1 x t1 E r G K;simp-implicitDefEqProofs(disch:=try exact ai)only[pf,aj,aC,cq (show k<=1000000000 by omega)];refine on H1 x t1 aa aa E (λe c aq=> ?_) λu y t2 M R z3 z4=>fin u y t2 M (r.trans R) z3 (K.trans z4)
  rcases Nat.lt_or_eq_of_le (Nat.le_of_lt_succ aq)with h|rfl
  ·obtain⟨z,B⟩:=r.off e;rw[B];exact a z c h
  ·exact G e
def Hd(aH:fs.length<=100000)(d:∀f∈fs,f.length<=1000000000){Q:ae->ad->Prop}{N:Nat}(b:∀f∈fs,f.length<N)(j:fs.length<N):∀(q:Nat) (H:ad) (met:List Bool) (t:Bool),(fs.length-kF met)+(if t then 1 else 0)<q->kj fs roots fv rv L met H->(∀n:Nat,(n:Int)∈roots->n<fs.length->gO met n=C)->(t=Z->∀c,c<fs.length->ri fs met c)->
  (∀(H':ad) (g:List Bool),kj fs roots fv rv L g H'->jQ g 0=aX (dS fs roots)->kV L H H'->W (n2 (aQ P aK) N (.aD L 0 fs.length 1 (D fs.length)) H') Q)->
  W (tO (aQ P aK) N q fv (.aD L 0 fs.length 1 (D fs.length)) (A t) H) Q
 |0,_,_,_,aN,_,_,_,_=>aa
 |q+1,H,met,t,aN,s,au,k,fin=>by
  have on:=Hd aH d (Q:=Q) b j q;cases t with
  |false=>
   simp-implicitDefEqProofs(disch:=try exact ai)only[tO,xX,aj];exact fin H met s (s.m.list au (k rfl)) (.refl _ _)
  |true=>
   simp-implicitDefEqProofs(disch:=try exact ai)only[tO,xX,aj];refine Hf aH d b fs.length 0 N H met Z aa aa s (λ_ c aq=>aa) ?_;intro H1 e t1 h a o p;have af:=A7 e;have ah:=A7 met;have an:=a.le;rw[h.m.len]at af;rw[s.m.len]at ah;simp only[if_true]at aN;refine on H1 e t1 ?_ h (λn aH al=>a.up n (au n aH al)) o λi l r u z3=>fin i l r u (p.trans z3)
   cases t1 with
   |false=>simp only[Bool.false_eq_true,if_false];omega
   |true=>
    have:=a.on rfl;simp only[Bool.false_eq_true,false_or]at this;simp only[if_true];omega
end
def Kh{fs:List (List Int)}{roots:List Int}{fv rv:ae}(az:aO (b1 aT) H ok fs fv)(au:aO aT H ok' roots rv)(aH:fs.length<=100000)(j:∀f∈fs,f.length<=1000000)(E:roots.length<=1000000):W (aQ P aK 29 [fv,rv] H) λr H'=>bq aT H.next bk H' (aX (dS fs roots)) r/\av H H':=by
 refine YJ 1000002 ?_;have mk:=A4 H.next fs.length aa
 have a:=av.push H (.row Z 1 (dw (List.replicate fs.length Z)));have q:=ad.a_ H (.row Z 1 (dw (List.replicate fs.length Z)));have M:(H.push (.row Z 1 (dw (List.replicate fs.length Z)))).next=H.next+1:=rfl
 simp-implicitDefEqProofs(disch:=try exact ai)only[Lb,br,aj,az.len e4,mk];have w:kj fs roots fv rv H.next (List.replicate fs.length Z) (H.push (.row Z 1 (dw (List.replicate fs.length Z)))):=⟨az.below.aE a,au.below.aE a,q,mz.start fs roots⟩
 generalize H.push (.row Z 1 (dw (List.replicate fs.length Z)))=H1 at*;refine He aa roots.length 0 _ H1 _ aa aa w (λi n B=>aa) ?_;intro o s s2 v t;rw[tN];refine Hd aH (λf h=>by have:=j f h;omega) (λf h=>by have:=j f h;omega) aa _ o s C (by simp only[if_true];omega) s2 v (λe=>by cases e) ?_;intro x K hc p u;have k:=t.trans u;simp-implicitDefEqProofs(disch:=try exact ai)only[n2];refine aZ (Xc (m:=fs.length) hc.m.len aH hc.g) ?_;rintro r y ⟨b,d⟩;refine⟨d.1,aG.2 ?_⟩;rw[p]at b;have z:=k.1;have G:=d.1;refine⟨⟨b.e9,λL n c e=>by have:=b.low L n c e;omega⟩,aa,λl al=> ?_⟩;rw[d.2 l aa,k.2 l aa,a.2 l al]
end
end
section
set_option maxRecDepth 100000
set_option maxHeartbeats 4000000
noncomputable section
end
end
section
open Go.a2
set_option maxRecDepth 2000
section
variable {x:bj}{H:ad}{ok:Nat->Prop}{R:Nat->Nat->Prop}{m:Nat}
end
end
section
open Go.a2
set_option maxRecDepth 2000
section
variable {x:bj}{H:ad}{ok:Nat->Prop}
end
end
section
open Go.a2
set_option maxRecDepth 2000
section
variable {x:bj}{k:a2.cB}
def Ba{m:Nat}(a:gg (ck x) m k){v:Nat}(b:v<ck x):k.nodes[v]? =D (k.node v):=by
 have:v<k.nodes.length:=by rw[a.nl];exact b
 unfold cB.node;rw[List.getElem?_eq_getElem this];rfl
def IG(au:right x=C)(s:gg (ck x) x.sites.length k){W0 zX B:Nat}{a b cc d ov nv fv gv uv:ae}{n:Nat}(r:zX<B)(o:W0<B){Q:ae->ad->Prop}{N:Nat}:∀(j i q:Nat) (H:ad) (v:ae),i+j=x.globals.length->j<q->bq aT B bk H ((List.range i).map λg=>k.node (fl x g)) v->B<=H.next->H.get W0=D (.row Z 11 [ft a b cc d x.main n ov nv fv gv uv])->H.get zX=D (.row Z 5 [[a,b,cc,d,J X x.main]])->cM H (· <B) x (.agg [a,b,cc,d,J X x.main])->aO aT H (· <B) k.nodes nv->
  (∀(e:ae) (H':ad),bq aT B bk H' ((List.range x.globals.length).map λg=>k.node (fl x g)) e->cT B H H'->W (yb (aQ P aK) N (.ptr zX 0 0) (.ptr W0 0 0) e H') Q)->
  W (tT (aQ P aK) N q (.ptr zX 0 0) (.ptr W0 0 0) v (J X x.globals.length) (J X i) H) Q
 |_,_,0,_,_,_,aN,_,_,_,_,_,_,_=>aa
 |0,i,q+1,H,v,z,_,al,m,du,aS,aA,aH,fin=>by
  have f:¬(i:Int)<(x.globals.length:Int):=aa;simp-implicitDefEqProofs(disch:=try exact ai)only[tT,ya,aj,aC,f,decide_false];obtain rfl:i=x.globals.length:=aa;exact fin v H al (.refl _ _)
 |j+1,i,q+1,H,v,z,aN,al,m,du,aS,aA,aH,fin=>by
  have f:(i:Int)<(x.globals.length:Int):=aa;have E:i<x.globals.length:=aa;have R:=(gA au).globals;have on:=IG au s (a:=a) (b:=b) (cc:=cc) (d:=d) (ov:=ov) (fv:=fv) (gv:=gv) (uv:=uv) (n:=n) (nv:=nv) r o (Q:=Q) (N:=N) j (i+1) q;have y:fl x i<ck x:=by unfold fl ck;omega
  simp-implicitDefEqProofs(disch:=try exact ai)only[tT,ya,aj,aC,f,decide_true,cH aS];refine aZ (SL au aA E) ?_;rintro _ H1 ⟨rfl,c⟩;refine⟨c.1,?_⟩;obtain⟨p,i1,i2⟩:=(aH.aE c).int (j:=((fl x i:Nat):Int)) (a:=k.node (fl x i)) aa (by simpa using Ba s y);have G:=al.aE c;have u:B<=H1.next:=by have:=c.1;omega
  obtain⟨e,h,t,l,a3,a4,a5⟩:=G.l6 (a:=k.node (fl x i)) u (by simp;omega);have O:(H1.push (.row Z 1 [[J X (k.node (fl x i))]])).next<=h.next:=by rw[ad.dm];exact a4
  have rd:ae.beq nv nv=true:=aH.rd;have K:bF (D nv) nv=true:=by simp[bF,rd]
  have pu:=(eH c m).trans a3;have w:((List.range i).map λg=>k.node (fl x g))++[k.node (fl x i)]=(List.range (i+1)).map λg=>k.node (fl x g):=by rw[List.range_succ,List.map_append];rfl
  rw[w]at l;simp-implicitDefEqProofs(disch:=try exact ai)only[Nat.reduceAdd,aj,aJ,aC,aL,hs du,hs (c.get du),i1,i2,ej,t,K,cq (show i<=1000000000 by omega)];exact on h e aa aa l (by have:=pu.1;omega) ((pu.2 W0 o).trans du) ((pu.2 zX r).trans aS) (aA.keep λq b aN g=>⟨aN,by rw[pu.2 q aN];exact g⟩) (aH.gy pu) λe H' L M=>fin e H' L (pu.trans M)
end
end
section
open Go.a2
set_option maxRecDepth 2000
def Si{fs:List (List Int)}{r r':List Int}(h:∀c,c∈r↔c∈r'):dS fs r=dS fs r':=by
 unfold dS;refine wj λc _=>⟨λp=>p.mono λd a hm=> .root ((h _).1 hm) a,λp=>p.mono λd a hm=> .root ((h _).2 hm) a⟩
def Va{l:List Nat}{a:Nat}:((a:Nat):Int)∈aX l↔a∈l:=by
 unfold aX;rw[List.mem_map];constructor
 ·rintro⟨b,af,ah⟩;have:b=a:=aa;rw[<-this];exact af
 ·intro h;exact⟨a,h,rfl⟩
def Vi(l g:List Nat):lz (aX l) [aX g]=aX (mb l g):=by
 unfold lz mb aX;rw[List.filter_map]
 congr 1
 refine List.filter_congr λa _=> ?_
 have h:(∀o∈[List.map (λ(n:Nat)=>(n:Int)) g],((a:Nat):Int)∉o)↔a∉g:=by
  simp only[List.mem_singleton,forall_eq];exact not_congr (Va (l:=g) (a:=a))
 show decide (∀o∈[List.map (λ(n:Nat)=>(n:Int)) g],((a:Nat):Int)∉o)=decide (a∉g);by_cases e:a∉g
 ·rw[decide_eq_true e,decide_eq_true (h.2 e)]
 ·rw[decide_eq_false e,decide_eq_false λq=>e (h.1 q)]
section
variable {x:bj}{k:a2.cB}
def acF{f:Nat}{c:bH}{p:Nat}(a:p<=c.vars.length):(h2 x k f c).take p=(List.range p).map λv=>k.node (bK x.ay f+v):=by
 unfold h2;rw[<-List.map_take,List.take_range,Nat.min_eq_left a]
def Wf{f:Nat}{c:bH}(a:c.params.toNat<=c.vars.length):lz (aX (dS k.fields ((h2 x k f c).take c.params.toNat++[k.node (fQ x f)]))) [aX (gu x k)]=aX (jo x k f c):=by
 rw[Vi,acF a];unfold jo;rw[Si (r':=k.node (fQ x f)::(List.range c.params.toNat).map λv=>k.node (bK x.ay f+v)) λd=>by simp only[List.mem_append,List.mem_cons,List.not_mem_nil,or_false];exact or_comm]
end
end
section
open Go.a2
set_option maxRecDepth 2000
section
variable {H:ad}{ok:Nat->Prop}
def aad(H:ad)(l:List Int)(b:0<l.length):aO aT (H.push (.row Z 1 (l.map λn=>[J X n]))) bk l (.aD H.next 0 l.length 1 I):=
 .inr (.inl ⟨H.next,0,I,Z,_,rfl,trivial,ad.a_ _ _,by simp,λj x a=>⟨[J X x],by simp[a],rfl⟩⟩)
def Ws{l:List Int}{r:ae}(h:aO aT H ok l r)(az:(r= .aB/\l.length=0)\/∃L i cap ro els,r= .aD L i l.length 1 cap/\H.get L=D (.row ro 1 els)/\i+l.length<=els.length/\∀q,cap=D q->l.length<=q){p:Nat}(V:p<=l.length)(S:l.length<=1000000)(z:Int):
  ∃w f d,hD P 30 r I (D (.int .i64 (p:Nat))) (D (.int .i64 (p:Nat)))=D w/\ee P (H.push (.row Z 1 [[.int .i64 z]])) [30,30] w (.aD H.next 0 1 1 (D 1))=D (f,d)/\av H d/\(H.push (.row Z 1 [[.int .i64 z]])).next<=d.next/\aO aT d bk (l.take p++[z]) f:=by
 have u:P.underlying 30=D (.slice 3):=aF;have O:cp P 3=D 1:=aF;have pp:=av.push H (.row Z 1 [[.int .i64 z]]);have G:=ad.a_ H (.row Z 1 [[.int .i64 z]]);have one:aO aT (H.push (.row Z 1 [[.int .i64 z]])) bk [z] (.aD H.next 0 1 1 (D 1)):= .inr (.inl ⟨H.next,0,D 1,Z,_,rfl,trivial,G,by simp,λj x b=>by
  match j,b with
  |0,b=>cases b;exact⟨_,rfl,rfl⟩⟩)
 rcases az with⟨rfl,R⟩|⟨L,i,cap,ro,els,rfl,g,U,aq⟩
 ·have o:p=0:=aa;subst o;have aD:hD P 30 .aB I (D (.int .i64 ((0:Nat):Int))) (D (.int .i64 ((0:Nat):Int)))=D .aB:=aF;obtain⟨f,d,m,n,a3,a4,_⟩:=bq.l6 (a:=z) (bq.nil aT H.next bk H) (bC _) (by simp);exact⟨_,f,d,aD,m,a3,by rw[ad.dm];exact a4,by simpa using n.aD⟩
 ·have T:l.length<=cap.getD l.length:=by
   cases cap with
   |none=>exact bC _
   |some c=>exact aq _ rfl
  have s:eg (D (.int .i64 ((p:Nat):Int))) 0 (cap.getD l.length)=D p:=by
   simp only[eg];rw[if_pos ⟨aa,aa⟩,Int.toNat_natCast]
  have t:eg (D (.int .i64 ((p:Nat):Int))) 0 p=D p:=by
   simp only[eg];rw[if_pos ⟨aa,aa⟩,Int.toNat_natCast]
  have v:eg I 0 p=D 0:=rfl;have k:(l.take p).length=p:=by rw[List.length_take];omega
  have aD:hD P 30 (.aD L i l.length 1 cap) I (D (.int .i64 (p:Nat))) (D (.int .i64 (p:Nat)))=D (.aD L i (l.take p).length 1 (D (l.take p).length)):=by
   rw[k];simp only[hD,u,O,if_true,s,t,v,Nat.add_zero,Nat.sub_zero]
  have M:aO aT (H.push (.row Z 1 [[.int .i64 z]])) ok (l.take p) (.aD L i (l.take p).length 1 (D (l.take p).length)):=by
   rcases h with⟨e,_⟩|⟨L',W,Q,N,B,e,ah,E,aM,K⟩|⟨_,_,_,e,al⟩
   ·cases e
   ·cases e;refine .inr (.inl ⟨L,i,_,N,B,rfl,ah,pp.get E,by rw[k];omega,λj y b=> ?_⟩);rw[List.getElem?_take]at b;split at b
    ·exact K j y b
    ·cases b
   ·subst al;have o:(([]:List Int).take p)=[]:=by simp
    rw[o];exact .inr (.inr ⟨L,i,D 0,rfl,rfl⟩)
  obtain⟨f,m,n⟩:=N7 M (pp.get g) (by rw[k];omega) one (by simp) (by rw[k];simp;omega);refine⟨_,f,_,aD,m,pp.trans (av.push _ _),by simp,?_⟩;rw[n];exact aad _ _ (by simp)
end
end
section
open Go.a2
set_option maxRecDepth 2000
structure my(x:bj)(k:a2.cB)(zX W0 E i:Nat)(a b cc d:ae)(n:Nat)(ov nv fv gv uv:ae)(H:ad):Prop where
 aS:H.get zX=some (.row false 5 [[a,b,cc,d,.int .i64 x.main]])
 du:H.get W0=some (.row false 11 [ft a b cc d x.main n ov nv fv gv uv])
 aA:cM H (· <W0) x (.agg [a,b,cc,d,.int .i64 x.main])
 aR:aO aT H (· <W0) (aX k.of) ov
 aH:aO aT H (· <W0) k.nodes nv
 aq:pC nv
 az:aO (b1 aT) H (· <W0) k.fields fv
 aP:aO aT H (λq=>W0<q/\q<E) (aX (gu x k)) gv
 hu:bq (b1 aT) E (E<= ·) H ((List.range i).map λf=>aX (cS x k f)) uv
 fZ:zX<W0/\W0<E/\E<=H.next
section
variable {x:bj}{k:a2.cB}{zX W0 E i:Nat}{a b cc d:ae}{n:Nat}{ov nv fv gv uv:ae}{H:ad}
def aa4{v:ae}(g:H.get W0=D (.row Z 11 [ft a b cc d x.main n ov nv fv gv uv]))(e:v.one=C):cD P H 31 (.ptr W0 0 10) v=D (H.set W0 (.row Z 11 [ft a b cc d x.main n ov nv fv gv v])):=by
 have c:=dx e;rw[gf (n:=1) aF g rfl (by rw[c];rfl) (by rw[c];simp[e]) bU,c];rfl
def aa5{v:ae}(g:H.get W0=D (.row Z 11 [ft a b cc d x.main n ov nv fv gv uv]))(e:v.one=C):cD P H 30 (.ptr W0 0 9) v=D (H.set W0 (.row Z 11 [ft a b cc d x.main n ov nv fv v uv])):=by
 have c:=dx e;rw[gf (n:=1) aF g rfl (by rw[c];rfl) (by rw[c];simp[e]) bU,c];rfl
def qj{m:Int}(g:H.get zX=D (.row Z 5 [[a,b,cc,d,J X m]])):aI P H 24 (.ptr zX 0 2)=D cc:=by rw[e_ aF g rfl];rfl
def my.step(s:my x k zX W0 E i a b cc d n ov nv fv gv uv H){c:ad}{e:ae}(p:cT E H c)(hu:bq (b1 aT) E (E<= ·) c ((List.range (i+1)).map λf=>aX (cS x k f)) e):my x k zX W0 E (i+1) a b cc d n ov nv fv gv e (c.set W0 (.row Z 11 [ft a b cc d x.main n ov nv fv gv e])):=by
 obtain⟨j,l,m⟩:=s.fZ;have o:∀q,q≠W0->(c.set W0 (.row Z 11 [ft a b cc d x.main n ov nv fv gv e])).get q=c.get q:=λq aN=>ad.cb (Ne.symm aN)
 have h:e1 H (· <W0) (c.set W0 (.row Z 11 [ft a b cc d x.main n ov nv fv gv e])) (· <W0):=λq b aN g=>⟨aN,by rw[o q aa,p.2 q aa];exact g⟩
 have aH:=p.1;exact⟨by rw[o zX aa,p.2 zX aa];exact s.aS,ad.c8 aa,s.aA.keep h,s.aR.keep h,s.aH.keep h,s.aq,s.az.keep h,s.aP.keep λq b aN g=>⟨aN,by rw[o q aa,p.2 q aN.2];exact g⟩,hu.keep λq b aN g=>⟨aN,by rw[o q aa];exact g⟩,j,l,by simp;omega⟩
