/-
  Texts of one proof, laid together: Pv Pw ShC.
-/
import Derived.Test.YtghmbpmaafnodaaDoorMI
set_option linter.unusedVariables false
set_option linter.unusedSimpArgs false
set_option linter.defProp false
open Option renaming some→D,none→Z
open Bool renaming true→X,false→U
open Go.cn.ad renaming int→I,str→Y
open Go.IntKind renaming i64→J
namespace Go.Proofs.YtghmbpmaafnodaaDoor
open Go.cn
def q5(w:aG):Prop:=∀b r,w=b::r->eN b=U/\eL b=U
def sP(l:List bT):Prop:=∀r,q5 (flat r)->q5 (flat (l++r))
def iG(l:List bT):Prop:=∀t∈hN l,t.pos=0
structure hf(l:List bT):Prop where
 z:iG l
 k:∀r,py r->q5 (flat r)->py (l++r)
structure ib(l:List bT):Prop where
 z:iG l
 k:∀r,py r->py (l++r)
def iG.app{l m:List bT}(h:iG l)(a1:iG m):iG (l++m):=by
 intro t a;rw[yj,List.mem_append]at a;exact a.elim (h t) (a1 t)
def iG.tok{t:Tok}{l:List bT}(h:t.pos=0)(a1:iG l):iG (.t t::l):=by
 intro u hu;rw[hN,List.mem_cons]at hu;rcases hu with rfl|hu
 ·exact h
 ·exact a1 u hu
def hf.nil:hf []:=⟨λt a=>(List.not_mem_nil a).elim,λr h _=>h⟩
def ib.nil:ib []:=⟨λt a=>(List.not_mem_nil a).elim,λr h=>h⟩
def hf.app{l m:List bT}(h:hf l)(a1:hf m)(c:sP m):hf (l++m):=
 ⟨h.z.app a1.z,λr d a=>by rw[List.append_assoc];exact h.k _ (a1.k r d a) (c r a)⟩
def ib.app{l m:List bT}(h:ib l)(a1:ib m):ib (l++m):=
 ⟨h.z.app a1.z,λr a=>by rw[List.append_assoc];exact h.k _ (a1.k r a)⟩
def ib.b{s:aG}{l:List bT}(aB:s.all jq=X)(h:ib l):ib (.b s::l):=⟨h.z,λr a=>⟨aB,h.k r a⟩⟩
def hf.b{s:aG}{l:List bT}(aB:s.all jq=X)(h:hf l):hf (.b s::l):=⟨h.z,λr c a=>⟨aB,h.k r c a⟩⟩
def yS(x:aG):Prop:=kQ ⟨4,x,0,0⟩/\∀b,rU ⟨4,x,0,0⟩ b=X
def D2{t:Tok}(h:∀b,rU t b=X):∀w,tL t w=X
 |[]=>rfl
 |b::_=>h b
def ib.bO{x:aG}{l:List bT}(a:yS x)(h:ib l):ib (bO x::l):=⟨iG.tok rfl h.z,λr c=>⟨a.1,D2 a.2 _,h.k r c⟩⟩
def hf.bO{x:aG}{l:List bT}(a:yS x)(h:hf l):hf (bO x::l):=⟨iG.tok rfl h.z,λr d c=>⟨a.1,D2 a.2 _,h.k r d c⟩⟩
def Hz(x:aG):Prop:=kQ ⟨4,x,0,0⟩/\rU ⟨4,x,0,0⟩ 32=X
def hf.op{x:aG}{l:List bT}(a:Hz x)(h:hf l):hf (Go.Proofs.YtghmbpmaafnodaaDoor.bO x::cf::l):=⟨iG.tok rfl h.z,λr d c=>⟨a.1,a.2,⟨bk,h.k r d c⟩⟩⟩
def D3{t:Tok}(d:(t.kind==4)=U){w:aG}(h:q5 w):tL t w=true:=by
 cases w with
 |nil=>rfl
 |cons b r=>
  obtain⟨a,c⟩:=h b r rfl;rw[tL,rU,d,aK,a,c];rfl
def hf.tok{t:Tok}{l:List bT}(j:kQ t)(d:(t.kind==4)=U)(c:t.pos=0)(h:hf l)(e:sP l):hf (.t t::l):=⟨iG.tok c h.z,λr i a=>⟨j,D3 d (e r a),h.k r i a⟩⟩
def ib.tok{t:Tok}{l:List bT}(i:kQ t)(c:(t.kind==4)=U)(a:t.pos=0)(h:ib l)(d:∀r,q5 (flat (l++r))):ib (.t t::l):=⟨iG.tok a h.z,λr e=>⟨i,D3 c (d r),h.k r e⟩⟩
def sP.nil:sP []:=λ_ h=>h
def vj(l:List bT):Prop:=∀r,∃b w,flat (l++r)=b::w/\b≠61
def vj.app{l:List bT}(h:vj l)(m:List bT):vj (l++m):=λr=>by rw[List.append_assoc];exact h _
def mz(l:List Fn):Nat:=(l.map λf=>dn f.body).sum
def P2(l:List Fn)(f:Fn):mz (l++[f])=mz l+dn f.body:=by simp[mz]
structure yE(a:Int)(g:cj):Prop where
 l4:∀x∈g.cm,n6 x
 dr:∀x∈g.globals,fA x
 cz:∀x∈g.funcs,n5 x
 gb:g.cm.length<=12
 lX:g.globals.length<=8
 mU:g.funcs.length<=16
 w:(mz g.funcs:Int)<=400*a
section
variable {T:List Tok}{E:Int}{s s' s2:an}
def xB(aw:Good T E)(e:cU E s)(h:(c9 T s).2.ak=0):fA (c9 T s).1/\bY E s (c9 T s).2 1:=by
 obtain⟨a,c,d⟩:=ys aw e h;exact⟨⟨a,c⟩,d.less af⟩
def re{α:Type}{p:α->Prop}{l:List α}{x:α}(h:∀y∈l,p y)(c:p x):∀y∈l++[x],p y:=by
 intro y a;rcases List.mem_append.1 a with a|a
 ·exact h y a
 ·simp only[List.mem_cons,List.not_mem_nil,or_false]at a;subst a;exact c
def Bw(aw:Good T E):∀(n:Nat) (l:List bF) (s:an) (p:List bF×an),cU E s->(s.ak=0->l.length<=8/\∀x∈l,fA x)->kX T n l s=D p->p.2.ak=0->bY E s p.2 0/\p.1.length<=8/\∀x∈p.1,fA x
 |0,_,_,_,_,_,h,_=>by cases h
 |n+1,l,s,p,d,he,h,aC=>by
  rw[kX]at h;cases e:(s.ak==0&& !aZ T s [125])with
  |false=>
   rw[e,aK]at h;cases h;exact⟨.refl (d aC) aC,he aC⟩
  |true=>
   rw[e,aR]at h;simp only[Bool.and_eq_true,beq_iff_eq]at e;obtain⟨F,u⟩:=he e.1;cases i:((al T s.at_).kind==1&&l.length==8)with
   |true=>
    rw[i,aR]at h;cases h;exact absurd aC (dU bk)
   |false=>
    rw[i,aK]at h;have o:=λa=>xB aw d a
    have ip:cU E (c9 T s).2:=bY.to d (λc=>(o c).2) af;have t1:=λa=>eR aw (x:=[59]) ip a
    have it:cU E (a_ T [59] (c9 T s).2):=bY.to ip (λc=>(t1 c).2.2) af;obtain⟨aT,z,A⟩:=Bw aw n _ _ p it (λa=>by
     obtain⟨-,-,dE⟩:=t1 a;obtain⟨B,H⟩:=o dE.f;have y:(al T s.at_).kind=1:=by
      have k:(bq T s).2.ak=0:=by
       have v:(df T s).2.ak=0:=dE.f;have q:=λa=>k5 aw d a
       have j:=λa=>eR aw (s:=(bq T s).2) (x:=[58]) (bY.to d (λc=>(q c).2) af) a
       have b3:=oG aw (s:=a_ T [58] (bq T s).2) (bY.to d (λc=>(q (j c).2.2.f).2.trans (j c).2.2) af) v;exact(j b3.2.f).2.2.f
      unfold bq at k;cases m:(s.ak==0&&(al T s.at_).kind==1)with
      |true=>simp only[Bool.and_eq_true,beq_iff_eq]at m;exact m.2
      |false=>rw[m,aK]at k;exact absurd k (dU bk)
     have G:l.length≠8:=by
      intro w;rw[y,w]at i;simp at i
     exact⟨by rw[List.length_append,List.length_singleton];omega,re u B⟩) h aC
    obtain⟨-,-,dE⟩:=t1 aT.f;exact⟨(((o dE.f).2.trans dE).trans aT).less af,z,A⟩
def Jd(aw:Good T E)(c:cU E s)(h:(jg T s).ak=0):bY E s (jg T s) 1:=by
 unfold jg at h ⊢;cases a:aZ T (a_ T [44] s) [41]with
 |true=>rw[a,aR]at h;exact absurd h (dU bk)
 |false=>rw[a,aK]at h;rw[aK];exact(eR aw c h).2.2
def En(aw:Good T E):∀(n:Nat) (l:List bF) (s:an) (p:List bF×an),cU E s->(s.ak=0->l.length<=6/\∀x∈l,fA x)->il T n l s=D p->p.2.ak=0->bY E s p.2 0/\p.1.length<=6/\∀x∈p.1,fA x
 |0,_,_,_,_,_,h,_=>by cases h
 |n+1,l,s,p,c,he,h,aC=>by
  rw[il]at h;cases i:(s.ak==0&& !aZ T s [41])with
  |false=>
   rw[i,aK]at h;cases h;exact⟨.refl (c aC) aC,he aC⟩
  |true=>
   rw[i,aR]at h;simp only[Bool.and_eq_true,beq_iff_eq]at i;obtain⟨G,v⟩:=he i.1;cases j:((al T s.at_).kind==1&&l.length==6)with
   |true=>
    rw[j,aR]at h;cases h;exact absurd aC (dU bk)
   |false=>
    rw[j,aK]at h;have q:=λa=>xB aw c a
    have ip:cU E (c9 T s).2:=bY.to c (λe=>(q e).2) af;have m:∀a:(bif aZ T (c9 T s).2 [41]then(c9 T s).2 else jg T (c9 T s).2).ak=0,bY E (c9 T s).2 (bif aZ T (c9 T s).2 [41]then(c9 T s).2 else jg T (c9 T s).2) 0:=by
     intro a;cases d:aZ T (c9 T s).2 [41]with
     |true=>rw[d,aR]at a;rw[aR];exact .refl (ip a) a
     |false=>rw[d,aK]at a;rw[aK];exact(Jd aw ip a).less af
    have it:cU E (bif aZ T (c9 T s).2 [41]then(c9 T s).2 else jg T (c9 T s).2):=bY.to ip m af;obtain⟨aT,A,B⟩:=En aw n _ _ p it (λa=>by
     have dE:=m a;obtain⟨F,K⟩:=q dE.f;have z:(al T s.at_).kind=1:=by
      have o:(bq T s).2.ak=0:=by
       have w:(df T s).2.ak=0:=dE.f;have u:=λa=>k5 aw c a
       have k:=λa=>eR aw (s:=(bq T s).2) (x:=[58]) (bY.to c (λe=>(u e).2) af) a
       have b3:=oG aw (s:=a_ T [58] (bq T s).2) (bY.to c (λe=>(u (k e).2.2.f).2.trans (k e).2.2) af) w;exact(k b3.2.f).2.2.f
      unfold bq at o;cases d:(s.ak==0&&(al T s.at_).kind==1)with
      |true=>simp only[Bool.and_eq_true,beq_iff_eq]at d;exact d.2
      |false=>rw[d,aK]at o;exact absurd o (dU bk)
     have H:l.length≠6:=by
      intro y;rw[z,y]at j;simp at j
     exact⟨by rw[List.length_append,List.length_singleton];omega,re v F⟩) h aC
    have dE:=m aT.f;exact⟨(((q dE.f).2.trans dE).trans aT).less af,A,B⟩
def LL(aw:Good T E){n:Nat}{p:e9×an}(e:cU E s)(h:l2 T n s=D p)(aC:p.2.ak=0):bY E s p.2 1/\n6 p.1:=by
 unfold l2 at h;obtain⟨q,g1,g2⟩:=fD h;cases g2;have i:=λa=>k5 aw e a
 have i1:cU E (bq T s).2:=bY.to e (λc=>(i c).2) af;have t1:=λa=>eR aw (x:=[123]) i1 a
 have i2:cU E (a_ T [123] (bq T s).2):=bY.to i1 (λc=>(t1 c).2.2) af;have f1:=λa=>Bw aw n [] _ q i2 (λ_=>⟨by simp,λx l=>by cases l⟩) g1 a
 have i3:cU E q.2:=bY.to i2 (λc=>(f1 c).1) af;obtain⟨-,-,z⟩:=eR aw (x:=[125]) i3 aC;obtain⟨aQ,a2,a3⟩:=f1 z.f;obtain⟨-,-,d⟩:=t1 aQ.f;obtain⟨j,k⟩:=i d.f;exact⟨((((k.trans d).trans aQ).trans z)).less af,⟨j,a2,a3⟩⟩
def LR(aw:Good T E)(d:cU E s)(h:(fI T s).2.ak=0):bY E s (fI T s).2 0/\(((fI T s).1.1=X/\j_ (fI T s).1.2.1 (fI T s).1.2.2)\/((fI T s).1.1=U/\(fI T s).1.2.1=[]/\(fI T s).1.2.2=0)):=by
 unfold fI at h ⊢;cases c:aZ T s [58]with
 |true=>
  rw[c,aR]at h;rw[aR];have g:=fE aw (d (ep c).1) c;obtain⟨a,b⟩:=oG aw (g.f_ d af) h;exact⟨(g.trans b).less af,.inl ⟨rfl,a⟩⟩
 |false=>
  rw[c,aK]at h;rw[aK];exact⟨.refl (d h) h,.inr ⟨rfl,rfl,rfl⟩⟩
def JX(aw:Good T E)(y:nY T){n:Nat}{p:Fn×an}(o:cU E s)(h:lS T n s=D p)(aC:p.2.ak=0):bY E s p.2 1/\n5 p.1/\(dn p.1.body:Int)<=400*(p.2.at_-s.at_):=by
 unfold lS at h;obtain⟨q,g1,g2⟩:=fD h;obtain⟨b,g3,g4⟩:=fD g2;cases g4;have u:=λe=>k5 aw o e
 have i1:cU E (bq T s).2:=bY.to o (λi=>(u i).2) af;have t1:=λe=>eR aw (x:=[40]) i1 e
 have i2:cU E (a_ T [40] (bq T s).2):=bY.to i1 (λi=>(t1 i).2.2) af;have f1:=λe=>En aw n [] _ q i2 (λ_=>⟨by simp,λx z=>by cases z⟩) g1 e
 have i3:cU E q.2:=bY.to i2 (λi=>(f1 i).1) af;have t2:=λe=>eR aw (x:=[41]) i3 e
 have i4:cU E (a_ T [41] q.2):=bY.to i3 (λi=>(t2 i).2.2) af;have v:=λe=>LR aw i4 e
 have i5:cU E (fI T (a_ T [41] q.2)).2:=bY.to i4 (λi=>(v i).1) af;obtain⟨k,F,d,G,A⟩:=(xH aw y n).block _ b i5 g3 aC;obtain⟨m1,m2⟩:=v k.f;obtain⟨-,-,l⟩:=t2 m1.f;obtain⟨aQ,a2,a3⟩:=f1 l.f;obtain⟨-,-,j⟩:=t1 aQ.f;obtain⟨w,m⟩:=u j.f;have B:=(i5 k.f).c;have ar:=m.a;have H:=j.a;have K:=aQ.a;have L:=l.a;have M:=m1.a;exact⟨(((((m.trans j).trans aQ).trans l).trans m1).trans k).less af,⟨w,a2,a3,m2,d,af,A⟩,by simp only;omega⟩
def qc(aw:Good T E)(m:nY T)(N:Nat):∀(n:Nat) (g:cj) (s:an) (p:cj×an),cU E s->(s.ak=0->yE s.at_ g)->fi T N n g s=D p->p.2.ak=0->yE p.2.at_ p.1/\p.2.at_<=E
 |0,_,_,_,_,_,h,_=>by cases h
 |n+1,g,s,p,i,he,h,aC=>by
  rw[fi]at h;cases k:(s.ak==0&&(al T s.at_).kind != 0)with
  |false=>
   rw[k,aK]at h;cases h;exact⟨he aC,(i aC).b⟩
  |true=>
   rw[k,aR]at h;simp only[Bool.and_eq_true,beq_iff_eq]at k;have G:=he k.1;cases hm:((isRec T s&&g.cm.length==12)||((jK T s&&g.globals.length==8)||(isFun T s&&g.funcs.length==16)))with
   |true=>
    rw[hm,aR]at h;exact qc aw m N n g _ p (λd=>absurd d (dU bk)) (λd=>absurd d (dU bk)) h aC
   |false=>
    rw[hm,aK]at h;simp only[Bool.or_eq_false_iff]at hm;cases u:isRec T s with
    |true=>
     rw[u,aR]at h;obtain⟨q,g1,g2⟩:=fD h;have e:=fE aw (i k.1) u;have j:=λd=>LL aw (e.f_ i af) g1 d
     have A:=e.a;have H:g.cm.length≠12:=by
      intro o;have:=hm.1;rw[u,o]at this;simp at this
     have:=G.gb;refine qc aw m N n _ q.2 p (bY.to (e.f_ i af) (λl=>(j l).1) af) (λd=> ?_) g2 aC;obtain⟨a,b⟩:=j d;have:=a.a;have:=G.w;exact⟨re G.l4 b,G.dr,G.cz,by rw[List.length_append,List.length_singleton];omega,G.lX,G.mU,by simp only;omega⟩
    |false=>
     rw[u,aK]at h;cases v:jK T s with
     |true=>
      rw[v,aR]at h;have e:=fE aw (i k.1) v;have A:=e.a;have B:=e.f_ i af;have j:=λd=>xB aw B d
      have F:cU E (c9 T (av s)).2:=bY.to B (λl=>(j l).2) af;have t1:=λd=>eR aw (x:=[59]) F d
      have L:g.globals.length≠8:=by
       intro o;have:=hm.2.1;rw[v,o]at this;simp at this
      have:=G.lX;refine qc aw m N n _ _ p (bY.to F (λl=>(t1 l).2.2) af) (λd=> ?_) h aC;obtain⟨-,-,z⟩:=t1 d;obtain⟨a,b⟩:=j z.f;have:=z.a;have:=b.a;have:=G.w;exact⟨G.l4,re G.dr a,G.cz,G.gb,by rw[List.length_append,List.length_singleton];omega,G.mU,by simp only;omega⟩
     |false=>
      rw[v,aK]at h;cases y:isFun T s with
      |true=>
       rw[y,aR]at h;obtain⟨q,g1,g2⟩:=fD h;have e:=fE aw (i k.1) y;have j:=λd=>JX aw m (e.f_ i af) g1 d
       have A:=e.a;have K:g.funcs.length≠16:=by
        intro o;have:=hm.2.2;rw[y,o]at this;simp at this
       have:=G.mU;refine qc aw m N n _ q.2 p (bY.to (e.f_ i af) (λl=>(j l).1) af) (λd=> ?_) g2 aC;obtain⟨a,b,c⟩:=j d;have:=a.a;have:=G.w;exact⟨G.l4,G.dr,re G.cz b,G.gb,G.lX,by rw[List.length_append,List.length_singleton];omega,by simp only;rw[P2];omega⟩
      |false=>
       rw[y,aK]at h;exact qc aw m N n g _ p (λd=>absurd d (dU bk)) (λd=>absurd d (dU bk)) h aC
end
def ds(x:aG)(r:List bT):(flat (bO x::r)).length=x.length+(flat r).length:=by rw[flat,List.length_append];rfl
def hW(x:aG)(r:List bT):(flat (wd x::r)).length=x.length+(flat r).length:=by rw[flat,List.length_append];rfl
def mT(x:aG)(r:List bT):(flat (cq x::r)).length=x.length+(flat r).length:=by rw[flat,List.length_append];rfl
def iM(x:aG)(r:List bT):(flat (.b x::r)).length=x.length+(flat r).length:=by rw[flat,List.length_append];rfl
def eM(r:List bT):(flat (cf::r)).length=1+(flat r).length:=iM [32] r
def jO(r:List bT):(flat (nl::r)).length=1+(flat r).length:=iM [10] r
def c4(a b:List bT):(flat (a++b)).length=(flat a).length+(flat b).length:=by rw[cv,List.length_append]
def eX:(flat []).length=0:=rfl
def w5(x:aG):∀n,(flat (rep n (bO x))).length=n*x.length
 |0=>by simp[rep,flat]
 |n+1=>by have:=w5 x n;unfold rep at this ⊢;rw[List.replicate_succ,ds,this,Nat.succ_mul];omega
def hE(x:aG)(z:Int):(flat (c5 x z)).length=2*z.toNat+x.length:=by
 have e:(flat (sI x::rep z.toNat (bO [93]))).length=x.length+(flat (rep z.toNat (bO [93]))).length:=by
  unfold sI;cases j7 x
  ·exact mT _ _
  ·exact hW _ _
 unfold c5;rw[c4,e,w5,w5];simp only[List.length_cons,List.length_nil];omega
def w6{k:Int}(h:14<=k)(a1:k<=24):(gZ k).length<=2:=by
 have a:k=14\/k=15\/k=16\/k=17\/k=18\/k=19\/k=20\/k=21\/k=22\/k=23\/k=24:=af;rcases a with rfl|rfl|rfl|rfl|rfl|rfl|rfl|rfl|rfl|rfl|rfl<;>decide
def rI(m:Nat)(e:aJ):(flat (cw m e)).length<=(flat (bp e)).length+2:=by
 by_cases h:e.cD<m
 ·rw[xx h,ds,c4,ds,eX];simp only[List.length_cons,List.length_nil];omega
 ·rw[tR h];omega
def C6:∀l:List aJ,(∀e∈l,(flat (bp e)).length+4<=cM e)->(flat (eQ (di l))).length<=bX l
 |[],_=>by simp[di,eQ,flat,bX]
 |[e],h=>by rw[oI];have:=h e (by simp);simp only[eQ,bX];omega
 |e::f::r,h=>by
  have i:=h e (by simp);have c:=C6 (f::r) λx d=>h x (List.mem_cons_of_mem _ d)
  rw[di]at c;rw[di,di,eQ,c4,ds,eM,bX]
  ·simp only[List.length_cons,List.length_nil];omega
  ·intro a;cases a
def KK{n p:Int}:(flat [.t ⟨2,[],n,p⟩]).length<=20:=by
 have:=Ae 20 n.toNat [];simpa [flat,bT.u5,u6]using this
def p3{d m:Nat}{e:aJ}(h:cF d m e):(flat (bp e)).length+4<=cM e:=by
 induction h with
 |par _ _ _ c=>exact c
 | @int d m n p _ _ _=>
  rw[e0,cM,bX];have:(flat (l0 {kind:=1,n:=n,pos:=p} (di []))).length<=20:=KK (p:=0);simp only[List.length_nil];omega
 | @bool d m n p _ h=>
  rw[e0,cM,bX];have:(flat (l0 {kind:=2,n:=n,pos:=p} (di []))).length<=5:=by
   rcases h with rfl|rfl
   ·exact bm 5
   ·exact(by decide:4<=5)
  simp only[List.length_nil];omega
 | @null d m x z p _ h=>
  rw[e0,cM,bX];have:(flat (l0 {kind:=3,cp:=x,c2:=z,pos:=p} (di []))).length=5+(2*z.toNat+x.length):=by
   show(flat (wd [110,117,108,108]::cf::c5 x z)).length=_;rw[hW,eM,hE];simp only[List.length_cons,List.length_nil];omega
  have:=h.2.1;simp only[List.length_nil];omega
 | @var d m x p _ h=>
  rw[e0,cM,bX];have:(flat (l0 {kind:=4,name:=x,pos:=p} (di []))).length=x.length:=by
   show(flat [cq x]).length=_;rw[mT,eX];omega
  simp only[List.length_nil];omega
 | @field d m x p e _ _ _ c=>
  rw[r3,cM,bX,bX,c4,ds,mT,eX];have:=rI 7 e;simp only[List.length_cons,List.length_nil];omega
 | @item d m p e i _ _ _ ih1 ih2=>
  rw[r4,cM,bX,bX,bX,c4,ds,c4,ds,eX];have:=rI 7 e;simp only[List.length_cons,List.length_nil];omega
 | @call d m x p l _ _ _ c=>
  rw[r2,cM,mT,ds,c4,ds,eX];have:=C6 l c;simp only[List.length_cons,List.length_nil];omega
 | @new d m x p _ _=>
  rw[e0,cM,bX];have:(flat (l0 {kind:=8,cp:=x,pos:=p} (di []))).length=4+x.length:=by
   show(flat [wd [110,101,119],cf,cq x]).length=_;rw[hW,eM,mT,eX];simp only[List.length_cons,List.length_nil];omega
  simp only[List.length_nil];omega
 | @make d m x z p e _ h _ c=>
  rw[r6,cM,bX,bX,hW,eM,ds,c4,hE,ds,ds,c4,ds,eX];have:=h.2.1;simp only[List.length_cons,List.length_nil];omega
 | @len d m p e _ _ c=>
  rw[r5,cM,bX,bX,hW,ds,c4,ds,eX];simp only[List.length_cons,List.length_nil];omega
 | @read d m p _=>
  rw[e0,cM,bX];have:(flat (l0 {kind:=11,pos:=p} (di []))).length=6:=rfl;simp only[List.length_nil];omega
 | @sign d m k p e _ h _ c=>
  rw[oJ h,cM,bX,bX,ds];have:=rI 6 e;have:(bif k==12 then[45]else[33]:aG).length=1:=by cases k==12<;>rfl
  simp only[List.length_nil];omega
 | @bin d m k p a b _ j o _ _ ih1 ih2=>
  rw[r1 j,cM,bX,bX,bX,c4,eM,ds,eM];have:=rI (dh k) a;have:=rI (dh k+1) b;have:=w6 j o;simp only[List.length_nil];omega
def rL:∀l:List aJ,40*l.length<=bX l
 |[]=>by simp[bX]
 | .mk a ks::r=>by have:=rL r;rw[bX,cM,List.length_cons];omega
def eY{d:Nat}{e:aJ}(h:cF d 0 e):(flat (bp e)).length<=cM e:=by have:=p3 h;omega
def hk(deep:Nat):(pad deep).length=2*deep:=by unfold pad;rw[List.length_replicate]
def w7(x o:aG)(z:Int):(flat (jt x o z)).length=x.length+2+(2*z.toNat+o.length):=by
 unfold jt;rw[mT,ds,eM,hE];simp only[List.length_cons,List.length_nil];omega
def w2(d:aG)(B:List bT):(flat (gU d B)).length=4+(flat B).length+d.length:=by
 unfold gU;rw[eM,ds,jO,c4,iM,ds,eX];simp only[List.length_cons,List.length_nil];omega
def rK{deep:Nat}:∀l:List br,(∀s∈l,(flat (fo deep s)).length<=eh s)->(flat (cc deep l)).length<=dn l
 |[],_=>by simp[cc,flat,dn]
 |s::r,h=>by
  have c:=h s (by simp);have d:=rK r λx a=>h x (List.mem_cons_of_mem _ a)
  rw[cc,c4,dn];omega
def tz{d:Nat}{s:br}(h:ei d s):∀deep,deep+d<=51->(flat (fo deep s)).length<=eh s:=by
 induction h with
 | @var d x o z p l i=>
  intro deep a;rw[fo,iM,c4,jO,hk,eX,eh,bX];have:=i.2.1;have:(flat (ho {kind:=1,name:=x,cp:=o,c2:=z,pos:=p} [] (cc (deep+1) []) ([]:List br).isEmpty (cc (deep+1) []) (pad deep))).length=4+(x.length+2+(2*z.toNat+o.length))+1:=by
   show(flat (wd nU::cf::(jt x o z++[bO [59]]))).length=_;rw[hW,eM,c4,w7,ds,eX];simp only[List.length_cons,List.length_nil,nU];omega
  simp only[List.length_nil];omega
 | @lets d x o z p e l i hw=>
  intro deep a;rw[fo,iM,c4,jO,hk,eX,eh,bX,bX];have:=i.2.1;have he:=eY hw;have:(flat (ho {kind:=2,name:=x,cp:=o,c2:=z,pos:=p} [e] (cc (deep+1) []) ([]:List br).isEmpty (cc (deep+1) []) (pad deep))).length=4+(x.length+2+(2*z.toNat+o.length))+3+(flat (bp e)).length+1:=by
   show(flat (wd nS::cf::(jt x o z++cf::bO [61]::cf::(bp e++[bO [59]])))).length=_;rw[hW,eM,c4,w7,eM,ds,eM,c4,ds,eX];simp only[List.length_cons,List.length_nil,nS];omega
  simp only[List.length_nil];omega
 | @set d x p e l hw=>
  intro deep a;rw[fo,iM,c4,jO,hk,eX,eh,bX,bX];have he:=eY hw;have:(flat (ho {kind:=3,name:=x,pos:=p} [e] (cc (deep+1) []) ([]:List br).isEmpty (cc (deep+1) []) (pad deep))).length=x.length+3+(flat (bp e)).length+1:=by
   show(flat (cq x::cf::bO [61]::cf::(bp e++[bO [59]]))).length=_;rw[mT,eM,ds,eM,c4,ds,eX];simp only[List.length_cons,List.length_nil];omega
  simp only[List.length_nil];omega
 | @put d p e f q hw k=>
  intro deep a;rw[fo,iM,c4,jO,hk,eX,eh,bX,bX,bX];have he:=eY hw;have k:=eY k;have:(flat (ho {kind:=4,pos:=p} [e,f] (cc (deep+1) []) ([]:List br).isEmpty (cc (deep+1) []) (pad deep))).length=(flat (bp e)).length+3+(flat (bp f)).length+1:=by
   show(flat (bp e++cf::bO [61]::cf::(bp f++[bO [59]]))).length=_;rw[c4,eM,ds,eM,c4,ds,eX];simp only[List.length_cons,List.length_nil];omega
  simp only[List.length_nil];omega
 | @ifs d p e b c hw n w j u=>
  intro deep a;rw[fo,iM,c4,jO,hk,eX,eh,bX,bX];have he:=eY hw;have m:=rK b (λs aB=>j s aB (deep+1) af);have v:=rK c (λs aB=>u s aB (deep+1) af);have:(flat (ho {kind:=5,pos:=p} [e] (cc (deep+1) b) c.isEmpty (cc (deep+1) c) (pad deep))).length<=3+(flat (bp e)).length+(4+(flat (cc (deep+1) b)).length+2*deep)+(5+(4+(flat (cc (deep+1) c)).length+2*deep)):=by
   show(flat (wd jA::cf::(bp e++(gU (pad deep) (cc (deep+1) b)++bif c.isEmpty then[]else cf::wd pr::gU (pad deep) (cc (deep+1) c))))).length<=_;rw[hW,eM,c4,c4,w2,hk];cases c.isEmpty
   ·rw[aK,eM,hW,w2,hk];simp only[List.length_cons,List.length_nil,jA,pr];omega
   ·rw[aR,eX];simp only[List.length_cons,List.length_nil,jA];omega
  simp only[List.length_nil];omega
 | @«while» d p e b hw n j=>
  intro deep a;rw[fo,iM,c4,jO,hk,eX,eh,bX,bX];have he:=eY hw;have m:=rK b (λs aB=>j s aB (deep+1) af);have:(flat (ho {kind:=6,pos:=p} [e] (cc (deep+1) b) ([]:List br).isEmpty (cc (deep+1) []) (pad deep))).length=6+(flat (bp e)).length+(4+(flat (cc (deep+1) b)).length+2*deep):=by
   show(flat (wd nV::cf::(bp e++gU (pad deep) (cc (deep+1) b)))).length=_;rw[hW,eM,c4,w2,hk];simp only[List.length_cons,List.length_nil,nV];omega
  simp only[List.length_nil];omega
 | @nd d p=>
  intro deep a;rw[fo,iM,c4,jO,hk,eX,eh,bX];have:(flat (ho {kind:=7,pos:=p} [] (cc (deep+1) []) ([]:List br).isEmpty (cc (deep+1) []) (pad deep))).length=7:=rfl;simp only[List.length_nil];omega
 | @nf d p e hw=>
  intro deep a;rw[fo,iM,c4,jO,hk,eX,eh,bX,bX];have he:=eY hw;have:(flat (ho {kind:=7,pos:=p} [e] (cc (deep+1) []) ([]:List br).isEmpty (cc (deep+1) []) (pad deep))).length=7+(flat (bp e)).length+1:=by
   show(flat (wd j5::cf::(bp e++[bO [59]]))).length=_;rw[hW,eM,c4,ds,eX];simp only[List.length_cons,List.length_nil,j5];omega
  simp only[List.length_nil];omega
 | @print d p e hw=>
  intro deep a;rw[fo,iM,c4,jO,hk,eX,eh,bX,bX];have he:=eY hw;have:(flat (ho {kind:=8,pos:=p} [e] (cc (deep+1) []) ([]:List br).isEmpty (cc (deep+1) []) (pad deep))).length=6+(flat (bp e)).length+1:=by
   show(flat (wd nT::cf::(bp e++[bO [59]]))).length=_;rw[hW,eM,c4,ds,eX];simp only[List.length_cons,List.length_nil,nT];omega
  simp only[List.length_nil];omega
 | @call d p e q hw=>
  intro deep a;rw[fo,iM,c4,jO,hk,eX,eh,bX,bX];have he:=eY hw;have:(flat (ho {kind:=9,pos:=p} [e] (cc (deep+1) []) ([]:List br).isEmpty (cc (deep+1) []) (pad deep))).length=(flat (bp e)).length+1:=by
   show(flat (bp e++[bO [59]])).length=_;rw[c4,ds,eX];simp only[List.length_cons,List.length_nil]
  simp only[List.length_nil];omega
section
set_option maxRecDepth 100000
noncomputable section
def oU(G:ay)(ag:ad)(H:ae):O:=cT H [I J 0,Y [],I J 0,I J 0] λe h=>j (b7 ag) λV=>j (aH P 59 V 1) λW=>j (aq P h 3 W) λba=>j (ao P .lss 3 X ba (I J 0)) λa=>aX a U h (cI ag) λaa n=>aX a U n (bU (b7 aa)) λv o=>aX a U o (bU (aH P 59 v 1)) λw i=>aX a U i (qr (aq P i 3 w)) λx p=>aX a U p (cI ag) λy s=>aX a U s (bU (b7 y)) λz u=>aX a U u (bU (aH P 59 z 0)) λA k=>aX a U k (qr (aq P k 36 A)) λbS l=>aX a U l (λq=>h8 (cg P .empty .len [36] [bS]) (cg P l .len [36] [bS]) q) λB m=>aX a U m (bU (ao P .geq 3 U x B)) λE c=>j (dd a (D (.bool X)) (D E)) λF=>aU (D F) (bd c (aY P c 61 e (.agg [I J 0,Y [],I J 0,I J 0])) λd=>j (aq P d 61 e) λr=>D (r,d)) (j (b7 ag) λK=>j (aH P 59 K 0) λL=>j (aq P c 36 L) λM=>j (b7 ag) λN=>j (aH P 59 N 1) λQ=>j (aq P c 3 Q) λR=>j (cl P 36 M R) λS=>j (aq P c 61 S) λT=>bd c (aY P c 61 e T) λd=>j (aq P d 61 e) λr=>D (r,d))
def Mc(N:Nat){ag:ad}{H:ae}{r:ad×ae}(h:oU (aE P aA) ag H=D r):aE P aA 22 [ag] H=D r:=cS N (S:=λG=>oU G ag H) Tryd.func22 (λ_=>by delta oU;kernel_rfl) h
def uu(G:ay)(ag:ad)(H:ae):O:=j (b7 ag) λa=>j (aH P 59 a 3) λc=>j (aH P 29 c 0) λba=>j (aq P H 27 ba) λd=>j (ao P .eql 27 X d (I J 0)) λe=>D (e,H)
def Mb(N:Nat){ag:ad}{H:ae}{r:ad×ae}(h:uu (aE P aA) ag H=D r):aE P aA 21 [ag] H=D r:=cS N (S:=λG=>uu G ag H) Tryd.func21 (λ_=>by delta uu;kernel_rfl) h
def oW(G:ay)(ag ar:ad)(H:ae):O:=aI H (G 21 [ag] H) λl a=>aU (D l) (aI a (G 22 [ag] a) λm c=>j (cN P 61 m 3) λe=>j (cC P 29 [(0,ar),(1,e)]) λh=>j (b7 ag) λi=>j (aH P 59 i 3) λk=>bd c (aY P c 29 k h) λd=>D (.tuple [],d)) (D (.tuple [],a))
def Me(N:Nat){ag ar:ad}{H:ae}{r:ad×ae}(h:oW (aE P aA) ag ar H=D r):aE P aA 24 [ag,ar] H=D r:=cS N (S:=λG=>oW G ag ar H) Tryd.func24 (λ_=>by delta oW;kernel_rfl) h
def oV(G:ay)(ag ar:ad)(h ba:ad)(H:ae):O:=aI H (G 21 [ag] H) λa i=>aX a X i (bU (aH P 61 h 0)) λq d=>aX a X d (qr (aq P d 3 q)) λs k=>aX a X k (cI ba) λu l=>aX a X l (bU (ao P .eql 3 U s u)) λv m=>j (dd a (D v) (D (.bool U))) λc=>aX c X m (bU (aH P 61 h 1)) λw e=>aX c X e (qr (aq P e 9 w)) λx n=>aX c X n (cI ar) λy o=>aX c X o (bU (ao P .eql 9 U x y)) λz p=>j (dd c (D z) (D (.bool U))) λA=>D (A,p)
def NG(G:ay)(N:Nat):∀aa H,bl P G N (o (o (o (o (bs Tryd.f23))))) (bf Tryd.f23) [] (bf Tryd.f23) aa H=oV G (aa 0) (aa 1) (aa 5) (aa 6) H:=by
 refine bC (aF _) λaa H=> ?_
 delta oV;kernel_rfl
def lh(G:ay)(ag ar:ad)(H:ae):O:=aI H (G 22 [ag] H) λq h=>cT h [I J 0,Y [],I J 0,I J 0] λc d=>bd d (aY P d 61 c q) λi=>j (eT P 9 ar (I J 0)) λm=>j (ao P .geq 5 X m (I .u8 97)) λa=>aX a X i (cI ar) λn k=>aX a X k (bU (eT P 9 n (I J 0))) λo l=>aX a X l (bU (ao P .leq 5 X o (I .u8 122))) λp e=>j (dd a (D p) (D (.bool U))) λbS=>aU (D bS) (oV G ag ar c (I J 3) e) (oV G ag ar c (I J 4) e)
def Md(N:Nat){ag ar:ad}{H:ae}{r:ad×ae}(h:lh (aE P aA) ag ar H=D r):aE P aA 23 [ag,ar] H=D r:=cS N (S:=λG=>lh G ag ar H) Tryd.func23 (λG=>dX ((aM ah ((aM ah ((aM ah ((aM ah (NG G N) (aF _))) (aF _))) (aF _))) (aF _))) (by delta lh;generalize oV G=a;revert a;refine id ?_;intro a;kernel_rfl)) h
def oX(G:ay)(ag ar:ad)(H:ae):O:=aI H (G 23 [ag,ar] H) λba a=>j (fZ .not ba) λl=>aU (D l) (aI a (G 24 [ag,I J 2] a) λm c=>D (.tuple [],c)) (j (b7 ag) λd=>j (aH P 59 d 1) λe=>j (aq P a 3 e) λh=>j (ao P .add 3 X h (I J 1)) λi=>j (b7 ag) λk=>j (aH P 59 k 1) λbS=>bd a (aY P a 3 bS i) λc=>D (.tuple [],c))
def Mh(N:Nat){ag ar:ad}{H:ae}{r:ad×ae}(h:oX (aE P aA) ag ar H=D r):aE P aA 27 [ag,ar] H=D r:=cS N (S:=λG=>oX G ag ar H) Tryd.func27 (λ_=>by delta oX;kernel_rfl) h
def uV(ag m:ad)(a:ae):O:=j (b7 ag) λd=>j (aH P 59 d 2) λe=>j (aq P a 3 e) λh=>j (ao P .add 3 X h (I J 1)) λi=>j (b7 ag) λk=>j (aH P 59 k 2) λl=>bd a (aY P a 3 l i) λc=>D (.tuple [],c)
def mu(G:ay)(ag ar:ad)(H:ae):O:=aI H (G 23 [ag,ar] H) λba d=>aX ba X d (cI ag) λp e=>aX ba X e (bU (b7 p)) λq h=>aX ba X h (bU (aH P 59 q 2)) λl c=>aX ba X c (qr (aq P c 3 l)) λm i=>aX ba X i (bU (ao P .geq 3 X m (I J 50))) λn a=>j (dd ba (D n) (D (.bool U))) λo=>aU (D o) (aI a (G 24 [ag,I J 4] a) λs k=>D (.tuple [],k)) (aI a (G 27 [ag,ar] a) (uV ag))
def MP(N:Nat){ag ar:ad}{H:ae}{r:ad×ae}(h:mu (aE P aA) ag ar H=D r):aE P aA 77 [ag,ar] H=D r:=cS N (S:=λG=>mu G ag ar H) Tryd.func77 (λ_=>by delta mu uV;kernel_rfl) h
def su(G:ay)(ag ar:ad)(H:ae):O:=aI H (G 27 [ag,ar] H) λba a=>j (b7 ag) λk=>j (aH P 59 k 2) λl=>j (aq P a 3 l) λd=>j (ao P .sub 3 X d (I J 1)) λe=>j (b7 ag) λh=>j (aH P 59 h 2) λi=>bd a (aY P a 3 i e) λc=>D (.tuple [],c)
def MR(N:Nat){ag ar:ad}{H:ae}{r:ad×ae}(h:su (aE P aA) ag ar H=D r):aE P aA 79 [ag,ar] H=D r:=cS N (S:=λG=>su G ag ar H) Tryd.func79 (λ_=>by delta su;kernel_rfl) h
def qH(c:ad)(a:ae):O:=some ((Y []),a)
def mj(G:ay)(ag:ad)(H:ae):O:=aI H (G 22 [ag] H) λA l=>cT l [I J 0,Y [],I J 0,I J 0] λd e=>bd e (aY P e 61 d A) λh=>aI h (G 21 [ag] h) λc m=>aX c X m (bU (aH P 61 d 0)) λB i=>aX c X i (qr (aq P i 3 B)) λo n=>aX c X n (bU (ao P .eql 3 X o (I J 1))) λp a=>j (dd c (D p) (D (.bool U))) λq=>aU (D q) (j (b7 ag) λs=>j (aH P 59 s 1) λu=>j (aq P a 3 u) λbS=>j (ao P .add 3 X bS (I J 1)) λv=>j (b7 ag) λw=>j (aH P 59 w 1) λx=>bd a (aY P a 3 x v) λk=>j (aH P 61 d 1) λy=>j (aq P k 9 y) λz=>D (z,k)) (aI a (G 24 [ag,I J 2] a) (qH))
def MA(N:Nat){ag:ad}{H:ae}{r:ad×ae}(h:mj (aE P aA) ag H=D r):aE P aA 55 [ag] H=D r:=cS N (S:=λG=>mj G ag H) Tryd.func55 (λ_=>by delta mj qH;kernel_rfl) h
def fK(G:ay)(N:Nat)(c d:ad)(H:ae):O:=j (aq P H 40 d) λe=>bd H (aY P H 40 c e) λa=>j (aq P a 40 c) λr=>D (r,a)
def Ow(G:ay)(N:Nat):∀aa H,bl P G N (o (o (o (o (o (o (bs Tryd.f53))))))) (bf Tryd.f53) [] (bf Tryd.f53) aa H=fK G N (aa 2) (aa 4) H:=by
 refine bC (aF _) λaa H=> ?_
 delta fK;kernel_rfl
def gL(G:ay)(N:Nat)(h:ad->ad->ad->ad->ad->ae->O)(ag a:ad)(c d e:ad)(H:ae):O:=j (ao P .lss 3 U e c) λk=>aU (D k) (aI H (G 27 [ag,Y [93]] H) λm i=>j (ao P .add 3 X e (I J 1)) λl=>h ag a c d l i) (fK G N a d H)
def nD(G:ay)(N:Nat):Nat->ad->ad->ad->ad->ad->ae->O
 |0,_,_,_,_,_,_=>Z
 |n+1,ag,a,c,d,e,H=>gL G N (nD G N n) ag a c d e H
def Oq(G:ay)(N:Nat)(c:ad->ad->ad->ad->ad->ae->O):∀aa H,bl P G N (aN (aN (o (aN (o (o (o (o (o (bs Tryd.f53)))))))))) (λaa H=>c (aa 0) (aa 2) (aa 3) (aa 4) (aa 5) H) [(3,(λaa H=>fK G N (aa 2) (aa 4) H))] (bf Tryd.f53) aa H=gL G N c (aa 0) (aa 2) (aa 3) (aa 4) (aa 5) H:=by
 refine bC (aF _) λaa H=> ?_
 delta gL;generalize fK G N=a;revert a;refine id ?_;intro a;kernel_rfl
def hq(G:ay)(N:Nat)(ag a:ad)(c d:ad)(H:ae):O:=nD G N N ag a c d (I J 0) H
def Ov(G:ay)(N:Nat):∀aa H,bl P G N (o (o (o (o (o (bs Tryd.f53)))))) (bf Tryd.f53) [] (bf Tryd.f53) aa H=hq G N (aa 0) (aa 2) (aa 3) (aa 4) H:=by
 refine bC ((aM ah (Ow G N) ((aM ah ((cX ah ((dW (k:=λm aa H=>nD G N m (aa 0) (aa 2) (aa 3) (aa 4) (aa 5) H) ah (λaa H=>ah) (λm=>Oq G N (nD G N m)))))) (aF _))))) λaa H=> ?_
 delta hq;generalize nD G N N=a;revert a;refine id ?_;intro a;kernel_rfl
def gY(G:ay)(N:Nat)(ag e:ad)(h d m:ad)(H:ae):O:=aU (D m) (aI H (G 22 [ag] H) λn a=>j (cN P 61 n 1) λo=>j (aH P 40 d 0) λp=>bd a (aY P a 9 p o) λc=>j (b7 ag) λq=>j (aH P 59 q 1) λs=>j (aq P c 3 s) λu=>j (ao P .add 3 X u (I J 1)) λv=>j (b7 ag) λw=>j (aH P 59 w 1) λx=>bd c (aY P c 3 x v) λi=>hq G N ag e h d i) (aI H (G 55 [ag] H) λk a=>j (aH P 40 d 0) λl=>bd a (aY P a 9 l k) λc=>hq G N ag e h d c)
def Ox(G:ay)(N:Nat):∀aa H,bl P G N (o (aN (aN (o (o (o (o (bs Tryd.f53)))))))) (λaa H=>hq G N (aa 0) (aa 2) (aa 3) (aa 4) H) [(2,(λaa H=>hq G N (aa 0) (aa 2) (aa 3) (aa 4) H))] (bf Tryd.f53) aa H=gY G N (aa 0) (aa 2) (aa 3) (aa 4) (aa 27) H:=by
 refine bC (aF _) λaa H=> ?_
 delta gY;generalize hq G N=a;revert a;refine id ?_;intro a;kernel_rfl
def hK(G:ay)(N:Nat)(ag i c:ad)(H:ae):O:=j (cC P 40 [(1,c)]) λm=>cT H [Y [],I J 0] λd e=>bd e (aY P e 40 d m) λh=>aI h (G 23 [ag,Y [105,110,116]] h) λk a=>aU (D k) (gY G N ag i c d k a) (aI a (G 23 [ag,Y [98,111,111,108]] a) λn l=>gY G N ag i c d n l)
def Ou(G:ay)(N:Nat):∀aa H,bl P G N (o (o (o (bs Tryd.f53)))) (bf Tryd.f53) [] (bf Tryd.f53) aa H=hK G N (aa 0) (aa 2) (aa 3) H:=by
 refine bC ((aM ah ((aM ah (Ov G N) ((cX ah ((aM ah (Ox G N) (aF _))))))) (aF _))) λaa H=> ?_
 delta hK;generalize gY G N=a;revert a;refine id ?_;intro a;kernel_rfl
def gX(G:ay)(N:Nat)(i:ad->ad->ad->ae->O)(ag d e:ad)(H:ae):O:=aI H (G 23 [ag,Y [91]] H) λq a=>aU (D q) (j (ao P .eql 3 X e (I J 3)) λs=>aU (D s) (aI a (G 24 [ag,I J 4] a) λu c=>bd c (aY P c 40 d (.agg [Y [],I J 0])) λh=>j (aq P h 40 d) λr=>D (r,h)) (j (b7 ag) λk=>j (aH P 59 k 1) λl=>j (aq P a 3 l) λbS=>j (ao P .add 3 X bS (I J 1)) λm=>j (b7 ag) λn=>j (aH P 59 n 1) λo=>bd a (aY P a 3 o m) λc=>j (ao P .add 3 X e (I J 1)) λp=>i ag d p c)) (hK G N ag d e a)
def nE(G:ay)(N:Nat):Nat->ad->ad->ad->ae->O
 |0,_,_,_,_=>Z
 |n+1,ag,a,c,H=>gX G N (nE G N n) ag a c H
def Ot(G:ay)(N:Nat)(c:ad->ad->ad->ae->O):∀aa H,bl P G N (aN (aN (aN (o (o (bs Tryd.f53)))))) (λaa H=>c (aa 0) (aa 2) (aa 3) H) [(0,(λaa H=>hK G N (aa 0) (aa 2) (aa 3) H))] (bf Tryd.f53) aa H=gX G N c (aa 0) (aa 2) (aa 3) H:=by
 refine bC (aF _) λaa H=> ?_
 delta gX;generalize hK G N=a;revert a;refine id ?_;intro a;kernel_rfl
def gK(G:ay)(N:Nat)(ag:ad)(H:ae):O:=cT H [Y [],I J 0] λc a=>nE G N N ag c (I J 0) a
def Mz(N:Nat){ag:ad}{H:ae}{r:ad×ae}(h:gK (aE P aA) N ag H=D r):aE P aA 53 [ag] H=D r:=cS N (S:=λG=>gK G N ag H) Tryd.func53 (λG=>dX ((aM ah ((aM ah ((aM ah (Ou G N) ((cX ah ((dW (k:=λm aa H=>nE G N m (aa 0) (aa 2) (aa 3) H) ah (λaa H=>ah) (λm=>Ot G N (nE G N m)))))))) (aF _))) (aF _))) (by delta gK;generalize nE G N N=a;revert a;refine id ?_;intro a;kernel_rfl)) h
def lv(G:ay)(N:Nat)(H:ae):O:=some ((I J 0),H)
def OQ(G:ay)(N:Nat):∀aa H,bl P G N (o (o (o (o (o (bs Tryd.f70)))))) (bf Tryd.f70) [] (bf Tryd.f70) aa H=lv G N H:=by
 refine bC (aF _) λaa H=> ?_
 delta lv;kernel_rfl
def pc(G:ay)(N:Nat)(e:ad->ad->ad->ad->ad->ae->O)(ag d:ad)(c ba a:ad)(H:ae):O:=j (cl P 131 c ag) λh=>j (aq P H 50 h) λi=>bg P .len [50] [i] H λk=>j (ao P .lss 3 U a k) λl=>aU (D l) (j (cl P 131 c ag) λn=>j (aq P H 50 n) λo=>j (cl P 50 o a) λp=>j (aq P H 9 p) λq=>j (aH P 61 d 1) λs=>j (aq P H 9 s) λu=>j (ao P .eql 9 U q u) λv=>aU (D v) (j (cl P 132 ba ag) λw=>j (aq P H 51 w) λx=>j (cl P 51 x a) λy=>j (aq P H 3 y) λz=>D (z,H)) (j (ao P .add 3 X a (I J 1)) λm=>e ag d c ba m H)) (lv G N H)
def lx(G:ay)(N:Nat):Nat->ad->ad->ad->ad->ad->ae->O
 |0,_,_,_,_,_,_=>Z
 |n+1,ag,a,c,ba,d,H=>pc G N (lx G N n) ag a c ba d H
def OO(G:ay)(N:Nat)(c:ad->ad->ad->ad->ad->ae->O):∀aa H,bl P G N (aN (aN (o (aN (o (o (o (o (bs Tryd.f70))))))))) (λaa H=>c (aa 0) (aa 3) (aa 5) (aa 6) (aa 7) H) [(0,(λaa H=>lv G N H))] (bf Tryd.f70) aa H=pc G N c (aa 0) (aa 3) (aa 5) (aa 6) (aa 7) H:=by
 refine bC (aF _) λaa H=> ?_
 delta pc;generalize lv G N=a;revert a;refine id ?_;intro a;kernel_rfl
def nJ(G:ay)(N:Nat)(ag ar:ad)(H:ae):O:=b1 H (d_ (H).next ar) λq a=>j (aH P 61 q 0) λM=>j (aq P a 3 M) λQ=>j (ao P .neq 3 X Q (I J 4)) λu=>aU (D u) (D ((I J 0),a)) (b1 a (D (.aD (a).next 0 1 1 (D 1),.row U 1 [[Y [124,124]]])) λv h=>b1 h (D (.aD (h).next 0 1 1 (D 1),.row U 1 [[Y [38,38]]])) λw i=>b1 i (D (.aD (i).next 0 4 1 (D 4),.row U 1 [[Y [60]],[Y [60,61]],[Y [61,61]],[Y [33,61]]])) λx k=>b1 k (D (.aD (k).next 0 2 1 (D 2),.row U 1 [[Y [43]],[Y [45]]])) λy l=>b1 l (D (.aD (l).next 0 3 1 (D 3),.row U 1 [[Y [42]],[Y [47]],[Y [37]]])) λz m=>b1 m (b6 P (m).next 131 5 [(0,v),(1,w),(2,x),(3,y),(4,z)]) λbS n=>b1 n (D (.aD (n).next 0 1 1 (D 1),.row U 1 [[I J 24]])) λA o=>b1 o (D (.aD (o).next 0 1 1 (D 1),.row U 1 [[I J 23]])) λB p=>b1 p (D (.aD (p).next 0 4 1 (D 4),.row U 1 [[I J 19],[I J 20],[I J 21],[I J 22]])) λE c=>b1 c (D (.aD (c).next 0 2 1 (D 2),.row U 1 [[I J 14],[I J 15]])) λF d=>b1 d (D (.aD (d).next 0 3 1 (D 3),.row U 1 [[I J 16],[I J 17],[I J 18]])) λK e=>b1 e (b6 P (e).next 132 5 [(0,A),(1,B),(2,E),(3,F),(4,K)]) λL s=>lx G N N ag q bS L (I J 0) s)
def MO(N:Nat){ag ar:ad}{H:ae}{r:ad×ae}(h:nJ (aE P aA) N ag ar H=D r):aE P aA 70 [ag,ar] H=D r:=cS N (S:=λG=>nJ G N ag ar H) Tryd.func70 (λG=>dX ((aM ah ((aM ah ((aM ah ((aM ah ((aM ah (OQ G N) ((aM ah ((cX ah ((dW (k:=λm aa H=>lx G N m (aa 0) (aa 3) (aa 5) (aa 6) (aa 7) H) ah (λaa H=>ah) (λm=>OO G N (lx G N m)))))) (aF _))))) (aF _))) (aF _))) (aF _))) (aF _))) (by delta nJ;generalize lx G N N=a;revert a;refine id ?_;intro a;kernel_rfl)) h
def o0(G:ay)(N:Nat)(c e:ad)(H:ae):O:=j (aq P H 45 e) λd=>bd H (aY P H 45 c d) λa=>j (aq P a 45 c) λr=>D (r,a)
def N7(G:ay)(N:Nat):∀aa H,bl P G N (o (o (o (o (bs Tryd.f40))))) (bf Tryd.f40) [] (bf Tryd.f40) aa H=o0 G N (aa 4) (aa 5) H:=by
 refine bC (aF _) λaa H=> ?_
 delta o0;kernel_rfl
def iQ(a:ad->ad->ad->ad->ae->O)(ag ar:ad)(d e:ad)(c:ae):O:=a ag ar d e c
def so(G:ay)(N:Nat)(A:ad->ad->ad->ad->ae->O)(ag ar:ad)(z e:ad)(H:ae):O:=aI H (G 21 [ag] H) λd B=>aX d X B (cI ar) λQ K=>aX d X K (cI ag) λR m=>aX d X m (λq=>fj m (G 22 [R] m) q) λS n=>aX d X n (λq=>fj n (G 70 [Q,S] n) q) λT L=>aX d X L (bU (ao P .neq 3 X T (I J 0))) λV o=>j (dd d (D V) (D (.bool U))) λW=>aU (D W) (aI o (G 22 [ag] o) λaa M=>cT M [I J 0,Y [],I J 0,I J 0] λba x=>bd x (aY P x 61 ba aa) λp=>j (b7 ag) λab=>j (aH P 59 ab 1) λaf=>j (aq P p 3 af) λah=>j (ao P .add 3 X ah (I J 1)) λai=>j (b7 ag) λaj=>j (aH P 59 aj 1) λak=>bd p (aY P p 3 ak ai) λv=>j (ao P .add 3 X ar (I J 1)) λal=>aI v (G 40 [ag,al] v) λam E=>cT E [I J 0,I J 0,Y [],Y [],I J 0,ad.az,I J 0,I J 0,I J 0,I J 0,I J 0] λl w=>bd w (aY P w 45 l am) λa=>j (aq P a 61 ba) λy=>aI a (G 70 [ar,y] a) λan c=>j (aq P c 45 e) λs=>j (aq P c 45 l) λu=>b1 c (b6 P (c).next 41 2 [(0,s),(1,u)]) λap h=>j (aH P 61 ba 3) λi=>j (aq P h 3 i) λk=>j (cC P 45 [(0,an),(4,ap),(5,k)]) λau=>bd h (aY P h 45 e au) λF=>bif ((bh (aq P a 61 ba) y&&X)&&((bh (aq P a 45 e) s&&(bh (aq P c 45 e) s&&X))&&((bh (aq P a 45 l) u&&(bh (aq P c 45 l) u&&X))&&((bh (aq P a 3 i) k&&(bh (aq P c 3 i) k&&(bh (aq P h 3 i) k&&X)))&&X))))then(iQ A ag ar z e F)else Z) (o0 G N z e o)
def o1(G:ay)(N:Nat):Nat->ad->ad->ad->ad->ae->O
 |0,_,_,_,_,_=>Z
 |n+1,ag,ar,a,c,H=>so G N (o1 G N n) ag ar a c H
def N6(G:ay)(N:Nat)(c:ad->ad->ad->ad->ae->O):∀aa H,bl P G N (aN (aN (aN (o (o (o (bs Tryd.f40))))))) (λaa H=>c (aa 0) (aa 1) (aa 4) (aa 5) H) [(0,(λaa H=>o0 G N (aa 4) (aa 5) H))] (bf Tryd.f40) aa H=so G N c (aa 0) (aa 1) (aa 4) (aa 5) H:=by
 refine bC (aF _) λaa H=> ?_
 delta so iQ;generalize o0 G N=a;revert a;refine id ?_;intro a;kernel_rfl
def iv(G:ay)(N:Nat)(ag ar:ad)(c d:ad)(a:ae):O:=o1 G N N ag ar c d a
def iw(G:ay)(N:Nat)(d ag:ad)(ar e c:ad)(a:ae):O:=bd a (aY P a 45 c d) (iv G N ag ar e c)
def ix(G:ay)(N:Nat)(ag ar:ad)(d c:ad)(a:ae):O:=cT a [I J 0,I J 0,Y [],Y [],I J 0,ad.az,I J 0,I J 0,I J 0,I J 0,I J 0] (iw G N c ag ar d)
def iu(G:ay)(N:Nat)(ag ar:ad)(H:ae):O:=cT H [I J 0,I J 0,Y [],Y [],I J 0,ad.az,I J 0,I J 0,I J 0,I J 0,I J 0] λc a=>j (ao P .eql 3 X ar (I J 5)) λk=>aU (D k) (aI a (G 69 [ag] a) λh d=>bd d (aY P d 45 c h) λe=>j (aq P e 45 c) λr=>D (r,e)) (j (ao P .add 3 X ar (I J 1)) λi=>aI a (G 40 [ag,i] a) (ix G N ag ar c))
def Mr(N:Nat){ag ar:ad}{H:ae}{r:ad×ae}(h:iu (aE P aA) N ag ar H=D r):aE P aA 40 [ag,ar] H=D r:=cS N (S:=λG=>iu G N ag ar H) Tryd.func40 (λG=>dX ((aM ah ((aM ah ((aM ah ((aM ah (N7 G N) ((cX ah ((dW (k:=λm aa H=>o1 G N m (aa 0) (aa 1) (aa 4) (aa 5) H) ah (λaa H=>ah) (λm=>N6 G N (o1 G N m)))))))) (aF _))) (aF _))) (aF _))) (by delta iu ix iw iv;generalize o1 G N N=a;revert a;refine id ?_;intro a;kernel_rfl)) h
def mr(G:ay)(ag k:ad)(l K:ad)(H:ae):O:=j (aH P 61 l 1) λo=>j (aq P H 9 o) λp=>aI H (G 77 [ag,p] H) λL e=>aI e (G 40 [ag,I J 5] e) λq n=>cT n [I J 0,I J 0,Y [],Y [],I J 0,ad.az,I J 0,I J 0,I J 0,I J 0,I J 0] λm h=>bd h (aY P h 45 m q) λa=>j (b7 ag) λs=>j (aH P 59 s 2) λu=>j (aq P a 3 u) λv=>j (ao P .sub 3 X v (I J 1)) λw=>j (b7 ag) λx=>j (aH P 59 x 2) λy=>bd a (aY P a 3 y w) λc=>j (aq P c 45 m) λz=>b1 c (b6 P (c).next 41 1 [(0,z)]) λA d=>j (aH P 61 l 3) λB=>j (aq P d 3 B) λE=>j (cC P 45 [(0,K),(4,A),(5,E)]) λF=>bd d (aY P d 45 k F) λi=>j (aq P i 45 k) λr=>D (r,i)
def ON(G:ay)(N:Nat):∀aa H,bl P G N (o (o (o (o (bs Tryd.f69))))) (bf Tryd.f69) [] (bf Tryd.f69) aa H=mr G (aa 0) (aa 2) (aa 3) (aa 4) H:=by
 refine bC (aF _) λaa H=> ?_
 delta mr;kernel_rfl
def jz(G:ay)(ag a:ad)(h:ae):O:=aI h (G 22 [ag] h) λv o=>cT o [I J 0,Y [],I J 0,I J 0] λe i=>bd i (aY P i 61 e v) λk=>aI k (G 23 [ag,Y [45]] k) λs c=>aU (D s) (mr G ag a e (I J 12) c) (aI c (G 23 [ag,Y [33]] c) λu d=>aU (D u) (mr G ag a e (I J 13) d) (aI d (G 83 [ag] d) λp l=>aI l (G 82 [ag,p] l) λq m=>bd m (aY P m 45 a q) λn=>j (aq P n 45 a) λr=>D (r,n)))
def iR(G:ay)(ag:ad)(H:ae):O:=cT H [I J 0,I J 0,Y [],Y [],I J 0,ad.az,I J 0,I J 0,I J 0,I J 0,I J 0] (jz G ag)
def MM(N:Nat){ag:ad}{H:ae}{r:ad×ae}(h:iR (aE P aA) ag H=D r):aE P aA 69 [ag] H=D r:=cS N (S:=λG=>iR G ag H) Tryd.func69 (λG=>dX ((aM ah ((aM ah ((aM ah ((aM ah (ON G N) (aF _))) (aF _))) (aF _))) (aF _))) (by delta iR jz;generalize mr G=a;revert a;refine id ?_;intro a;kernel_rfl)) h
def pf(G:ay)(N:Nat)(d c:ad)(H:ae):O:=j (aq P H 45 d) λe=>bd H (aY P H 45 c e) λa=>j (aq P a 45 c) λr=>D (r,a)
def OW(G:ay)(N:Nat):∀aa H,bl P G N (o (o (bs Tryd.f82))) (bf Tryd.f82) [] (bf Tryd.f82) aa H=pf G N (aa 3) (aa 4) H:=by
 refine bC (aF _) λaa H=> ?_
 delta pf;kernel_rfl
def jY(a:ad->ad->ad->ae->O)(ag d e:ad)(c:ae):O:=a ag d e c
def ly(a:ad->ad->ad->ae->O)(ag d e:ad)(c:ae):O:=a ag d e c
def iS(G:ay)(p:ad->ad->ad->ae->O)(ag a:ad)(u s:ad)(q:ae):O:=aI q (G 23 [ag,Y [46]] q) λbS h=>aU (D bS) (j (b7 ag) λv=>j (aH P 59 v 1) λw=>j (aq P h 3 w) λx=>j (ao P .add 3 X x (I J 1)) λy=>j (b7 ag) λz=>j (aH P 59 z 1) λA=>bd h (aY P h 3 A y) λd=>aI d (G 55 [ag] d) λB e=>j (aq P e 45 a) λo=>b1 e (b6 P (e).next 41 1 [(0,o)]) λE c=>j (aH P 61 u 3) λl=>j (aq P c 3 l) λm=>j (cC P 45 [(0,(I J 5)),(2,B),(4,E),(5,m)]) λF=>bd c (aY P c 45 a F) λi=>bif ((bh (aq P d 45 a) o&&(bh (aq P e 45 a) o&&X))&&((bh (aq P d 3 l) m&&(bh (aq P e 3 l) m&&(bh (aq P c 3 l) m&&X)))&&X))then(jY p ag a s i)else Z) (aI h (G 77 [ag,Y [91]] h) λS d=>aI d (G 40 [ag,I J 0] d) λH e=>cT e [I J 0,I J 0,Y [],Y [],I J 0,ad.az,I J 0,I J 0,I J 0,I J 0,I J 0] λba c=>bd c (aY P c 45 ba H) λi=>aI i (G 79 [ag,Y [93]] i) λT k=>j (aq P k 45 a) λK=>j (aq P k 45 ba) λL=>b1 k (b6 P (k).next 41 2 [(0,K),(1,L)]) λM n=>j (aH P 61 u 3) λN=>j (aq P n 3 N) λQ=>j (cC P 45 [(0,(I J 6)),(4,M),(5,Q)]) λR=>bd n (aY P n 45 a R) (ly p ag a s))
def iT(G:ay)(d:ad->ad->ad->ae->O)(e ag:ad)(h i c:ad)(a:ae):O:=bd a (aY P a 61 c e) (iS G d ag h c i)
def iU(G:ay)(a:ad->ad->ad->ae->O)(ag e:ad)(h d:ad)(c:ae):O:=cT c [I J 0,Y [],I J 0,I J 0] (iT G a d ag e h)
def kE(G:ay)(c:ad->ad->ad->ae->O)(a:ae)(ag d e:ad):O:=aI a (G 22 [ag] a) (iU G c ag d e)
def sv(G:ay)(N:Nat)(i:ad->ad->ad->ae->O)(ag e h:ad)(H:ae):O:=aI H (G 23 [ag,Y [46]] H) λc k=>aX c U k (cI ag) λl a=>aX c U a (λq=>fj a (G 23 [l,Y [91]] a) q) λm d=>j (dd c (D (.bool X)) (D m)) λn=>aU (D n) (kE G i d ag e h) (pf G N e h d)
def nK(G:ay)(N:Nat):Nat->ad->ad->ad->ae->O
 |0,_,_,_,_=>Z
 |n+1,ag,a,c,H=>sv G N (nK G N n) ag a c H
def OV(G:ay)(N:Nat)(c:ad->ad->ad->ae->O):∀aa H,bl P G N (aN (aN (aN (o (bs Tryd.f82))))) (λaa H=>c (aa 0) (aa 3) (aa 4) H) [(0,(λaa H=>pf G N (aa 3) (aa 4) H))] (bf Tryd.f82) aa H=sv G N c (aa 0) (aa 3) (aa 4) H:=by
 refine bC (aF _) λaa H=> ?_
 delta sv kE iU iT iS ly jY;generalize pf G N=a;revert a;refine id ?_;intro a;kernel_rfl
def iV(G:ay)(N:Nat)(ag c d:ad)(a:ae):O:=nK G N N ag c d a
def iW(G:ay)(N:Nat)(ag c:ad)(a:ae):O:=cT a [I J 0,I J 0,Y [],Y [],I J 0,ad.az,I J 0,I J 0,I J 0,I J 0,I J 0] (iV G N ag c)
def iz(G:ay)(N:Nat)(ag ar:ad)(H:ae):O:=b1 H (d_ (H).next ar) (iW G N ag)
def MT(N:Nat){ag ar:ad}{H:ae}{r:ad×ae}(h:iz (aE P aA) N ag ar H=D r):aE P aA 82 [ag,ar] H=D r:=cS N (S:=λG=>iz G N ag ar H) Tryd.func82 (λG=>dX ((aM ah ((aM ah (OW G N) ((cX ah ((dW (k:=λm aa H=>nK G N m (aa 0) (aa 3) (aa 4) H) ah (λaa H=>ah) (λm=>OV G N (nK G N m)))))))) (aF _))) (by delta iz iW iV;generalize nK G N N=a;revert a;refine id ?_;intro a;kernel_rfl)) h
def ph(G:ay)(ag:ad)(H:ae):O:=cT H [I J 0,I J 0,Y [],Y [],I J 0,ad.az,I J 0,I J 0,I J 0,I J 0,I J 0] λk c=>aI c (G 77 [ag,Y [40]] c) λp d=>aI d (G 40 [ag,I J 0] d) λo m=>cT m [I J 0,I J 0,Y [],Y [],I J 0,ad.az,I J 0,I J 0,I J 0,I J 0,I J 0] λl e=>bd e (aY P e 45 l o) λh=>aI h (G 79 [ag,Y [41]] h) λq a=>j (aq P a 45 l) λn=>bd a (aY P a 45 k n) λi=>j (aq P i 45 k) λr=>D (r,i)
def MY(N:Nat){ag:ad}{H:ae}{r:ad×ae}(h:ph (aE P aA) ag H=D r):aE P aA 92 [ag] H=D r:=cS N (S:=λG=>ph G ag H) Tryd.func92 (λ_=>by delta ph;kernel_rfl) h
def lz(G:ay)(ag d m:ad)(H:ae):O:=aI H (G 55 [ag] H) λl i=>aI i (G 23 [ag,Y [40]] i) λn c=>j (fZ .not n) λo=>aU (D o) (j (aH P 61 m 3) λp=>j (aq P c 3 p) λq=>j (cC P 45 [(0,(I J 4)),(2,l),(5,q)]) λs=>bd c (aY P c 45 d s) λa=>j (aq P a 45 d) λr=>D (r,a)) (aI c (G 93 [ag] c) λu a=>j (aH P 61 m 3) λe=>j (aq P a 3 e) λh=>j (cC P 45 [(0,(I J 7)),(2,l),(4,u),(5,h)]) λv=>bd a (aY P a 45 d v) λk=>bif ((bh (aq P c 3 e) h&&(bh (aq P a 3 e) h&&X))&&X)then(j (aq P k 45 d) λr=>D (r,k))else Z)
def OX(G:ay)(N:Nat):∀aa H,bl P G N (o (o (o (bs Tryd.f83)))) (bf Tryd.f83) [] (bf Tryd.f83) aa H=lz G (aa 0) (aa 2) (aa 3) H:=by
 refine bC (aF _) λaa H=> ?_
 delta lz;kernel_rfl
def gv(ag:ad)(c:ae)(h e:ad):O:=j (b7 ag) λi=>j (aH P 59 i 1) λk=>j (aq P c 3 k) λl=>j (ao P .add 3 X l (I J 1)) λm=>j (b7 ag) λn=>j (aH P 59 n 1) λo=>bd c (aY P c 3 o m) λa=>j (aH P 61 h 2) λp=>j (aq P a 3 p) λq=>j (aH P 61 h 3) λs=>j (aq P a 3 s) λu=>j (cC P 45 [(0,(I J 1)),(1,q),(5,u)]) λv=>bd a (aY P a 45 e v) λd=>j (aq P d 45 e) λr=>D (r,d)
def pg(G:ay)(c d e:ad)(H:ae):O:=j (aH P 61 d 3) λh=>j (aq P H 3 h) λi=>j (cC P 45 [(0,(I J 2)),(1,e),(5,i)]) λk=>bd H (aY P H 45 c k) λa=>j (aq P a 45 c) λr=>D (r,a)
def OZ(G:ay)(N:Nat):∀aa H,bl P G N (o (o (o (aN (o (o (o (aN (aN (o (o (bs Tryd.f83)))))))))))) (λaa H=>lz G (aa 0) (aa 2) (aa 3) H) [(0,(λaa H=>lz G (aa 0) (aa 2) (aa 3) H))] (bf Tryd.f83) aa H=pg G (aa 2) (aa 3) (aa 4) H:=by
 refine bC (aF _) λaa H=> ?_
 delta pg;kernel_rfl
def gw(G:ay)(ag:ad)(H:ae)(c d:ad):O:=j (b7 ag) λe=>j (aH P 59 e 1) λh=>j (aq P H 3 h) λi=>j (ao P .add 3 X i (I J 1)) λk=>j (b7 ag) λl=>j (aH P 59 l 1) λm=>bd H (aY P H 3 m k) λa=>j (aH P 61 c 1) λn=>j (aq P a 9 n) λo=>j (ao P .eql 9 X o (Y [116,114,117,101])) λp=>aU (D p) (pg G d c (I J 1) a) (pg G d c (I J 0) a)
def gx(G:ay)(ag:ad)(c:ae)(l k:ad):O:=j (b7 ag) λm=>j (aH P 59 m 1) λn=>j (aq P c 3 n) λo=>j (ao P .add 3 X o (I J 1)) λp=>j (b7 ag) λq=>j (aH P 59 q 1) λs=>bd c (aY P c 3 s p) λd=>aI d (G 53 [ag] d) λu a=>j (aH P 61 l 3) λe=>j (aq P a 3 e) λh=>j (cC P 45 [(0,(I J 3)),(3,u),(5,h)]) λv=>bd a (aY P a 45 k v) λi=>bif ((bh (aq P d 3 e) h&&(bh (aq P a 3 e) h&&X))&&X)then(j (aq P i 45 k) λr=>D (r,i))else Z
def gy(G:ay)(ag:ad)(a:ae)(i h:ad):O:=j (b7 ag) λk=>j (aH P 59 k 1) λl=>j (aq P a 3 l) λm=>j (ao P .add 3 X m (I J 1)) λn=>j (b7 ag) λo=>j (aH P 59 o 1) λp=>bd a (aY P a 3 p n) λc=>j (aH P 61 i 3) λq=>j (aq P c 3 q) λs=>aI c (G 91 [ag,s] c) λu d=>bd d (aY P d 45 h u) λe=>j (aq P e 45 h) λr=>D (r,e)
def gz(G:ay)(ag:ad)(e:ae)(m l:ad):O:=j (b7 ag) λn=>j (aH P 59 n 1) λo=>j (aq P e 3 o) λp=>j (ao P .add 3 X p (I J 1)) λq=>j (b7 ag) λs=>j (aH P 59 s 1) λu=>bd e (aY P e 3 u q) λh=>aI h (G 92 [ag] h) λv i=>b1 i (b6 P (i).next 41 1 [(0,v)]) λw a=>j (aH P 61 m 3) λc=>j (aq P a 3 c) λd=>j (cC P 45 [(0,(I J 10)),(4,w),(5,d)]) λx=>bd a (aY P a 45 l x) λk=>bif ((bh (aq P h 3 c) d&&(bh (aq P i 3 c) d&&(bh (aq P a 3 c) d&&X)))&&X)then(j (aq P k 45 l) λr=>D (r,k))else Z
def gf(G:ay)(ag:ad)(a:ae)(p i:ad):O:=j (b7 ag) λq=>j (aH P 59 q 1) λs=>j (aq P a 3 s) λu=>j (ao P .add 3 X u (I J 1)) λv=>j (b7 ag) λk=>j (aH P 59 k 1) λl=>bd a (aY P a 3 l v) λd=>aI d (G 77 [ag,Y [40]] d) λw e=>aI e (G 79 [ag,Y [41]] e) λx c=>j (aH P 61 p 3) λm=>j (aq P c 3 m) λn=>j (cC P 45 [(0,(I J 11)),(5,n)]) λo=>bd c (aY P c 45 i o) λh=>j (aq P h 45 i) λr=>D (r,h)
def fM(G:ay)(a:ae)(ag e:ad):O:=aI a (G 92 [ag] a) λh c=>bd c (aY P c 45 e h) λd=>j (aq P d 45 e) λr=>D (r,d)
def gg(G:ay)(ag c d:ad)(a:ae):O:=lz G ag c d a
def fN(G:ay)(ag c:ad)(e d:ad)(a:ae):O:=aU (D d) (fM G a ag c) (gg G ag c e a)
def gi(G:ay)(a:ae)(ag c d:ad):O:=aI a (G 23 [ag,Y [40]] a) (fN G ag c d)
def fO(G:ay)(ag d:ad)(c e:ad)(a:ae):O:=aU (D e) (gf G ag a d c) (gi G a ag c d)
def gj(G:ay)(a:ae)(ag d c:ad):O:=aI a (G 23 [ag,Y [114,101,97,100]] a) (fO G ag d c)
def fP(G:ay)(ag d:ad)(c e:ad)(a:ae):O:=aU (D e) (gz G ag a d c) (gj G a ag d c)
def gk(G:ay)(a:ae)(ag d c:ad):O:=aI a (G 23 [ag,Y [108,101,110]] a) (fP G ag d c)
def fQ(G:ay)(ag d:ad)(c e:ad)(a:ae):O:=aU (D e) (gy G ag a d c) (gk G a ag d c)
def gl(G:ay)(a:ae)(ag d c:ad):O:=aI a (G 23 [ag,Y [110,101,119]] a) (fQ G ag d c)
def fR(G:ay)(ag d:ad)(c e:ad)(a:ae):O:=aU (D e) (gx G ag a d c) (gl G a ag d c)
def fS(G:ay)(H:ae)(ag c a:ad):O:=aI H (G 23 [ag,Y [110,117,108,108]] H) (fR G ag c a)
def nL(G:ay)(ag a:ad)(c d:ad)(H:ae):O:=aU (D d) (gw G ag H c a) (fS G H ag c a)
def OY(G:ay)(N:Nat):∀aa H,bl P G N (o (o (o (aN (aN (o (o (bs Tryd.f83)))))))) (λaa H=>lz G (aa 0) (aa 2) (aa 3) H) [(0,(λaa H=>lz G (aa 0) (aa 2) (aa 3) H))] (bf Tryd.f83) aa H=nL G (aa 0) (aa 2) (aa 3) (aa 28) H:=by
 refine bC ((dt ah ((aM ah ((aM ah ((aM ah (OZ G N) (aF _))) (aF _))) (aF _))) (aF _))) λaa H=> ?_
 delta nL fS fR gl fQ gk fP gj fO gi fN gg fM gf gz gy gx gw;generalize lz G=a;generalize pg G=c;revert a c;refine id ?_;intro a c;kernel_rfl
def gm(G:ay)(ag c:ad)(d e:ad)(a:ae):O:=nL G ag c d e a
def fT(G:ay)(ag c:ad)(d e:ad)(a:ae):O:=nL G ag c d e a
def gn(G:ay)(a:ae)(ag c d:ad):O:=aI a (G 23 [ag,Y [102,97,108,115,101]] a) (fT G ag c d)
def fU(G:ay)(ag c:ad)(d e:ad)(a:ae):O:=aU (D e) (gm G ag c d e a) (gn G a ag c d)
def fV(G:ay)(a:ae)(ag c d:ad):O:=aI a (G 23 [ag,Y [116,114,117,101]] a) (fU G ag c d)
def fq(G:ay)(ag:ad)(a:ae)(d c e:ad):O:=aU (D e) (gv ag a d c) (fV G a ag c d)
def fr(G:ay)(c ag:ad)(h e d:ad)(a:ae):O:=j (dd c (D d) (D (.bool U))) (fq G ag a h e)
def fs(G:ay)(a ag:ad)(h e d:ad)(c:ae):O:=aX a X c (bU (ao P .eql 3 X d (I J 2))) (fr G a ag h e)
def ft(G:ay)(c ag:ad)(h e d:ad)(a:ae):O:=aX c X a (qr (aq P a 3 d)) (fs G c ag h e)
def fu(G:ay)(c ag:ad)(e a:ad)(d:ae):O:=aX a X d (bU (aH P 61 c 0)) (ft G a ag c e)
def gp(G:ay)(ag d c:ad)(a:ae):O:=aI a (G 21 [ag] a) (fu G d ag c)
def gq(G:ay)(e ag:ad)(d c:ad)(a:ae):O:=bd a (aY P a 61 c e) (gp G ag c d)
def gr(G:ay)(ag c d:ad)(a:ae):O:=cT a [I J 0,Y [],I J 0,I J 0] (gq G d ag c)
def gu(G:ay)(ag c:ad)(a:ae):O:=aI a (G 22 [ag] a) (gr G ag c)
def fL(G:ay)(ag:ad)(H:ae):O:=cT H [I J 0,I J 0,Y [],Y [],I J 0,ad.az,I J 0,I J 0,I J 0,I J 0,I J 0] (gu G ag)
def MU(N:Nat){ag:ad}{H:ae}{r:ad×ae}(h:fL (aE P aA) ag H=D r):aE P aA 83 [ag] H=D r:=cS N (S:=λG=>fL G ag H) Tryd.func83 (λG=>dX ((aM ah ((aM ah ((aM ah (OX G N) ((cX ah ((aM ah ((dt ah (aF _) ((aM ah (OY G N) (aF _))))) (aF _))))))) (aF _))) (aF _))) (by delta fL gu gr gq gp fu ft fs fr fq fV fU gn fT gm gv;generalize nL G=a;revert a;refine id ?_;intro a;kernel_rfl)) h
def lA(G:ay)(ag ar:ad)(H:ae):O:=cT H [I J 0,I J 0,Y [],Y [],I J 0,ad.az,I J 0,I J 0,I J 0,I J 0,I J 0] λk n=>aI n (G 23 [ag,Y [91]] n) λL a=>j (fZ .not L) λM=>aU (D M) (aI a (G 55 [ag] a) λs c=>j (cC P 40 [(0,s)]) λu=>j (cC P 45 [(0,(I J 8)),(3,u),(5,ar)]) λv=>bd c (aY P c 45 k v) λe=>j (aq P e 45 k) λr=>D (r,e)) (j (b7 ag) λw=>j (aH P 59 w 1) λbS=>j (aq P a 3 bS) λx=>j (ao P .add 3 X x (I J 1)) λy=>j (b7 ag) λz=>j (aH P 59 z 1) λA=>bd a (aY P a 3 A y) λc=>aI c (G 53 [ag] c) λB e=>cT e [Y [],I J 0] λd p=>bd p (aY P p 40 d B) λq=>aI q (G 27 [ag,Y [93]] q) λN l=>aI l (G 92 [ag] l) λE h=>j (aq P h 40 d) λi=>b1 h (b6 P (h).next 41 1 [(0,E)]) λF m=>j (cC P 45 [(0,(I J 9)),(3,i),(4,F),(5,ar)]) λK=>bd m (aY P m 45 k K) λo=>bif ((bh (aq P l 40 d) i&&(bh (aq P h 40 d) i&&(bh (aq P m 40 d) i&&X)))&&X)then(j (aq P o 45 k) λr=>D (r,o))else Z)
def MX(N:Nat){ag ar:ad}{H:ae}{r:ad×ae}(h:lA (aE P aA) ag ar H=D r):aE P aA 91 [ag,ar] H=D r:=cS N (S:=λG=>lA G ag ar H) Tryd.func91 (λ_=>by delta lA;kernel_rfl) h
def h6(G:ay)(N:Nat)(ag c:ad)(H:ae):O:=aI H (G 79 [ag,Y [41]] H) λd a=>D (c,a)
def O4(G:ay)(N:Nat):∀aa H,bl P G N (o (o (o (o (o (o (bs Tryd.f93))))))) (bf Tryd.f93) [] (bf Tryd.f93) aa H=h6 G N (aa 0) (aa 3) H:=by
 refine bC (aF _) λaa H=> ?_
 delta h6;kernel_rfl
def pj(G:ay)(N:Nat)(i:ad->ad->ae->O)(ag h:ad)(H:ae):O:=aI H (G 23 [ag,Y [44]] H) λbS a=>aU (D bS) (j (b7 ag) λl=>j (aH P 59 l 1) λm=>j (aq P a 3 m) λn=>j (ao P .add 3 X n (I J 1)) λo=>j (b7 ag) λp=>j (aH P 59 p 1) λq=>bd a (aY P a 3 q o) λc=>aI c (G 40 [ag,I J 0] c) λs d=>b1 d (b6 P (d).next 41 1 [(0,s)]) λu e=>aI e (c0 P e [41,41] h u) λv k=>i ag v k) (h6 G N ag h a)
def pk(G:ay)(N:Nat):Nat->ad->ad->ae->O
 |0,_,_,_=>Z
 |n+1,ag,a,H=>pj G N (pk G N n) ag a H
def O3(G:ay)(N:Nat)(c:ad->ad->ae->O):∀aa H,bl P G N (aN (aN (aN (o (o (o (o (o (bs Tryd.f93))))))))) (λaa H=>c (aa 0) (aa 3) H) [(0,(λaa H=>h6 G N (aa 0) (aa 3) H))] (bf Tryd.f93) aa H=pj G N c (aa 0) (aa 3) H:=by
 refine bC (aF _) λaa H=> ?_
 delta pj;generalize h6 G N=a;revert a;refine id ?_;intro a;kernel_rfl
def iA(G:ay)(N:Nat)(ag:ad)(H:ae):O:=aI H (G 77 [ag,Y [40]] H) λm d=>aI d (G 23 [ag,Y [41]] d) λl a=>aU (D l) (aI a (G 79 [ag,Y [41]] a) λn c=>D (ad.az,c)) (aI a (G 40 [ag,I J 0] a) λi c=>b1 c (b6 P (c).next 41 1 [(0,i)]) λj e=>aI e (c0 P e [41,41] ad.az j) λk h=>pk G N N ag k h)
def MZ(N:Nat){ag:ad}{H:ae}{r:ad×ae}(h:iA (aE P aA) N ag H=D r):aE P aA 93 [ag] H=D r:=cS N (S:=λG=>iA G N ag H) Tryd.func93 (λG=>dX ((aM ah ((aM ah ((aM ah ((aM ah ((aM ah ((aM ah (O4 G N) ((cX ah ((dW (k:=λm aa H=>pk G N m (aa 0) (aa 3) H) ah (λaa H=>ah) (λm=>O3 G N (pk G N m)))))))) (aF _))) (aF _))) (aF _))) (aF _))) (aF _))) (by delta iA;generalize pk G N N=a;revert a;refine id ?_;intro a;kernel_rfl)) h
