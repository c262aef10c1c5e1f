/-
  Texts of one proof, laid together: Pv Pw ShC.
-/
import Derived.Test.YtghmbpmaafnodaaDoorMI
set_option linter.unusedVariables false
set_option linter.unusedSimpArgs false
set_option linter.defProp false
open Option renaming some→D,none→Z
open Bool renaming true→X,false→U
open Go.b9.aa renaming int→I,str→Y
open Go.IntKind renaming i64→J
namespace Go.Proofs.YtghmbpmaafnodaaDoor
open Go.b9
def px(w:aK):Prop:=∀b r,w=b::r->ey b=U/\eu b=U
def q_(l:List bN):Prop:=∀r,px (flat r)->px (flat (l++r))
def h0(l:List bN):Prop:=∀t∈hd l,t.pos=0
structure gB(l:List bN):Prop where
 z:h0 l
 k:∀r,nS r->px (flat r)->nS (l++r)
structure hE(l:List bN):Prop where
 z:h0 l
 k:∀r,nS r->nS (l++r)
def h0.app{l m:List bN}(h:h0 l)(ba:h0 m):h0 (l++m):=by
 intro t a;rw[wj,List.mem_append]at a;exact a.elim (h t) (ba t)
def h0.tok{t:Tok}{l:List bN}(h:t.pos=0)(ba:h0 l):h0 (.t t::l):=by
 intro u hu;rw[hd,List.mem_cons]at hu;rcases hu with rfl|hu
 ·exact h
 ·exact ba u hu
def gB.nil:gB []:=⟨λt a=>(List.not_mem_nil a).elim,λr h _=>h⟩
def hE.nil:hE []:=⟨λt a=>(List.not_mem_nil a).elim,λr h=>h⟩
def gB.app{l m:List bN}(h:gB l)(ba:gB m)(c:q_ m):gB (l++m):=
 ⟨h.z.app ba.z,λr d a=>by rw[List.append_assoc];exact h.k _ (ba.k r d a) (c r a)⟩
def hE.app{l m:List bN}(h:hE l)(ba:hE m):hE (l++m):=
 ⟨h.z.app ba.z,λr a=>by rw[List.append_assoc];exact h.k _ (ba.k r a)⟩
def hE.b{s:aK}{l:List bN}(aB:s.all iB=X)(h:hE l):hE (.b s::l):=⟨h.z,λr a=>⟨aB,h.k r a⟩⟩
def gB.b{s:aK}{l:List bN}(aB:s.all iB=X)(h:gB l):gB (.b s::l):=⟨h.z,λr c a=>⟨aB,h.k r c a⟩⟩
def wW(x:aK):Prop:=jX ⟨4,x,0,0⟩/\∀b,qi ⟨4,x,0,0⟩ b=X
def BV{t:Tok}(h:∀b,qi t b=X):∀w,rY t w=X
 |[]=>rfl
 |b::_=>h b
def hE.bQ{x:aK}{l:List bN}(a:wW x)(h:hE l):hE (bQ x::l):=⟨h0.tok rfl h.z,λr c=>⟨a.1,BV a.2 _,h.k r c⟩⟩
def gB.bQ{x:aK}{l:List bN}(a:wW x)(h:gB l):gB (bQ x::l):=⟨h0.tok rfl h.z,λr d c=>⟨a.1,BV a.2 _,h.k r d c⟩⟩
def Ff(x:aK):Prop:=jX ⟨4,x,0,0⟩/\qi ⟨4,x,0,0⟩ 32=X
def gB.op{x:aK}{l:List bN}(a:Ff x)(h:gB l):gB (Go.Proofs.YtghmbpmaafnodaaDoor.bQ x::cq::l):=⟨h0.tok rfl h.z,λr d c=>⟨a.1,a.2,⟨cu,h.k r d c⟩⟩⟩
def BW{t:Tok}(d:(t.kind==4)=U){w:aK}(h:px w):rY t w=true:=by
 cases w with
 |nil=>rfl
 |cons b r=>
  obtain⟨a,c⟩:=h b r rfl;rw[rY,qi,d,aT,a,c];rfl
def gB.tok{t:Tok}{l:List bN}(j:jX t)(d:(t.kind==4)=U)(c:t.pos=0)(h:gB l)(e:q_ l):gB (.t t::l):=⟨h0.tok c h.z,λr i a=>⟨j,BW d (e r a),h.k r i a⟩⟩
def hE.tok{t:Tok}{l:List bN}(i:jX t)(c:(t.kind==4)=U)(a:t.pos=0)(h:hE l)(d:∀r,px (flat (l++r))):hE (.t t::l):=⟨h0.tok a h.z,λr e=>⟨i,BW c (d r),h.k r e⟩⟩
def q_.nil:q_ []:=λ_ h=>h
def ta(l:List bN):Prop:=∀r,∃b w,flat (l++r)=b::w/\b≠61
def ta.app{l:List bN}(h:ta l)(m:List bN):ta (l++m):=λr=>by rw[List.append_assoc];exact h _
def lf(l:List Fn):Nat:=(l.map λf=>dv f.body).sum
def MP(l:List Fn)(f:Fn):lf (l++[f])=lf l+dv f.body:=by simp[lf]
structure wJ(a:Int)(g:dm):Prop where
 nb:∀x∈g.da,nU x
 di:∀x∈g.globals,gC x
 cn:∀x∈g.funcs,nT x
 gn:g.da.length<=12
 mN:g.globals.length<=8
 ou:g.funcs.length<=16
 w:(lf g.funcs:Int)<=400*a
section
variable {T:List Tok}{E:Int}{s s' s2:av}
def vo(aE:Good T E)(e:cJ E s)(h:(dD T s).2.aF=0):gC (dD T s).1/\bR E s (dD T s).2 1:=by
 obtain⟨a,c,d⟩:=Et aE e h;exact⟨⟨a,c⟩,d.less af⟩
def pG{α:Type}{p:α->Prop}{l:List α}{x:α}(h:∀y∈l,p y)(c:p x):∀y∈l++[x],p y:=by
 intro y a;rcases List.mem_append.1 a with a|a
 ·exact h y a
 ·simp only[List.mem_cons,List.not_mem_nil,or_false]at a;subst a;exact c
def zn(aE:Good T E):∀(n:Nat) (l:List b7) (s:av) (p:List b7×av),cJ E s->(s.aF=0->l.length<=8/\∀x∈l,gC x)->oa T n l s=D p->p.2.aF=0->bR E s p.2 0/\p.1.length<=8/\∀x∈p.1,gC x
 |0,_,_,_,_,_,h,_=>by cases h
 |n+1,l,s,p,d,he,h,aG=>by
  rw[oa]at h;cases e:(s.aF==0&& !a1 T s [125])with
  |false=>
   rw[e,aT]at h;cases h;exact⟨.refl (d aG) aG,he aG⟩
  |true=>
   rw[e,aZ]at h;simp only[Bool.and_eq_true,beq_iff_eq]at e;obtain⟨F,u⟩:=he e.1;cases i:((au T s.at_).kind==1&&l.length==8)with
   |true=>
    rw[i,aZ]at h;cases h;exact absurd aG (eT cu)
   |false=>
    rw[i,aT]at h;have o:=λa=>vo aE d a
    have ip:cJ E (dD T s).2:=bR.to d (λc=>(o c).2) af;have t1:=λa=>eB aE (x:=[59]) ip a
    have it:cJ E (bl T [59] (dD T s).2):=bR.to ip (λc=>(t1 c).2.2) af;obtain⟨aY,z,A⟩:=zn aE n _ _ p it (λa=>by
     obtain⟨-,-,dK⟩:=t1 a;obtain⟨B,H⟩:=o dK.f;have y:(au T s.at_).kind=1:=by
      have k:(bu T s).2.aF=0:=by
       have v:(dX T s).2.aF=0:=dK.f;have q:=λa=>j7 aE d a
       have j:=λa=>eB aE (s:=(bu T s).2) (x:=[58]) (bR.to d (λc=>(q c).2) af) a
       have b3:=oy aE (s:=bl T [58] (bu T s).2) (bR.to d (λc=>(q (j c).2.2.f).2.trans (j c).2.2) af) v;exact(j b3.2.f).2.2.f
      unfold bu at k;cases m:(s.aF==0&&(au T s.at_).kind==1)with
      |true=>simp only[Bool.and_eq_true,beq_iff_eq]at m;exact m.2
      |false=>rw[m,aT]at k;exact absurd k (eT cu)
     have G:l.length≠8:=by
      intro w;rw[y,w]at i;simp at i
     exact⟨by rw[List.length_append,List.length_singleton];omega,pG u B⟩) h aG
    obtain⟨-,-,dK⟩:=t1 aY.f;exact⟨(((o dK.f).2.trans dK).trans aY).less af,z,A⟩
def GC(aE:Good T E)(c:cJ E s)(h:(lx T s).aF=0):bR E s (lx T s) 1:=by
 unfold lx at h ⊢;cases a:a1 T (bl T [44] s) [41]with
 |true=>rw[a,aZ]at h;exact absurd h (eT cu)
 |false=>rw[a,aT]at h;rw[aT];exact(eB aE c h).2.2
def Ca(aE:Good T E):∀(n:Nat) (l:List b7) (s:av) (p:List b7×av),cJ E s->(s.aF=0->l.length<=6/\∀x∈l,gC x)->oC T n l s=D p->p.2.aF=0->bR E s p.2 0/\p.1.length<=6/\∀x∈p.1,gC x
 |0,_,_,_,_,_,h,_=>by cases h
 |n+1,l,s,p,c,he,h,aG=>by
  rw[oC]at h;cases i:(s.aF==0&& !a1 T s [41])with
  |false=>
   rw[i,aT]at h;cases h;exact⟨.refl (c aG) aG,he aG⟩
  |true=>
   rw[i,aZ]at h;simp only[Bool.and_eq_true,beq_iff_eq]at i;obtain⟨G,v⟩:=he i.1;cases j:((au T s.at_).kind==1&&l.length==6)with
   |true=>
    rw[j,aZ]at h;cases h;exact absurd aG (eT cu)
   |false=>
    rw[j,aT]at h;have q:=λa=>vo aE c a
    have ip:cJ E (dD T s).2:=bR.to c (λe=>(q e).2) af;have m:∀a:(bif a1 T (dD T s).2 [41]then(dD T s).2 else lx T (dD T s).2).aF=0,bR E (dD T s).2 (bif a1 T (dD T s).2 [41]then(dD T s).2 else lx T (dD T s).2) 0:=by
     intro a;cases d:a1 T (dD T s).2 [41]with
     |true=>rw[d,aZ]at a;rw[aZ];exact .refl (ip a) a
     |false=>rw[d,aT]at a;rw[aT];exact(GC aE ip a).less af
    have it:cJ E (bif a1 T (dD T s).2 [41]then(dD T s).2 else lx T (dD T s).2):=bR.to ip m af;obtain⟨aY,A,B⟩:=Ca aE n _ _ p it (λa=>by
     have dK:=m a;obtain⟨F,K⟩:=q dK.f;have z:(au T s.at_).kind=1:=by
      have o:(bu T s).2.aF=0:=by
       have w:(dX T s).2.aF=0:=dK.f;have u:=λa=>j7 aE c a
       have k:=λa=>eB aE (s:=(bu T s).2) (x:=[58]) (bR.to c (λe=>(u e).2) af) a
       have b3:=oy aE (s:=bl T [58] (bu T s).2) (bR.to c (λe=>(u (k e).2.2.f).2.trans (k e).2.2) af) w;exact(k b3.2.f).2.2.f
      unfold bu at o;cases d:(s.aF==0&&(au T s.at_).kind==1)with
      |true=>simp only[Bool.and_eq_true,beq_iff_eq]at d;exact d.2
      |false=>rw[d,aT]at o;exact absurd o (eT cu)
     have H:l.length≠6:=by
      intro y;rw[z,y]at j;simp at j
     exact⟨by rw[List.length_append,List.length_singleton];omega,pG v F⟩) h aG
    have dK:=m aY.f;exact⟨(((q dK.f).2.trans dK).trans aY).less af,A,B⟩
def I5(aE:Good T E){n:Nat}{p:e1×av}(e:cJ E s)(h:mY T n s=D p)(aG:p.2.aF=0):bR E s p.2 1/\nU p.1:=by
 unfold mY at h;obtain⟨q,g1,g2⟩:=fj h;cases g2;have i:=λa=>j7 aE e a
 have i1:cJ E (bu T s).2:=bR.to e (λc=>(i c).2) af;have t1:=λa=>eB aE (x:=[123]) i1 a
 have i2:cJ E (bl T [123] (bu T s).2):=bR.to i1 (λc=>(t1 c).2.2) af;have f1:=λa=>zn aE n [] _ q i2 (λ_=>⟨by simp,λx l=>by cases l⟩) g1 a
 have i3:cJ E q.2:=bR.to i2 (λc=>(f1 c).1) af;obtain⟨-,-,z⟩:=eB aE (x:=[125]) i3 aG;obtain⟨aS,a2,a3⟩:=f1 z.f;obtain⟨-,-,d⟩:=t1 aS.f;obtain⟨j,k⟩:=i d.f;exact⟨((((k.trans d).trans aS).trans z)).less af,⟨j,a2,a3⟩⟩
def I_(aE:Good T E)(d:cJ E s)(h:(gu T s).2.aF=0):bR E s (gu T s).2 0/\(((gu T s).1.1=X/\jU (gu T s).1.2.1 (gu T s).1.2.2)\/((gu T s).1.1=U/\(gu T s).1.2.1=[]/\(gu T s).1.2.2=0)):=by
 unfold gu at h ⊢;cases c:a1 T s [58]with
 |true=>
  rw[c,aZ]at h;rw[aZ];have g:=fl aE (d (dW c).1) c;obtain⟨a,b⟩:=oy aE (g.fE d af) h;exact⟨(g.trans b).less af,.inl ⟨rfl,a⟩⟩
 |false=>
  rw[c,aT]at h;rw[aT];exact⟨.refl (d h) h,.inr ⟨rfl,rfl,rfl⟩⟩
def Hj(aE:Good T E)(y:mi T){n:Nat}{p:Fn×av}(o:cJ E s)(h:mI T n s=D p)(aG:p.2.aF=0):bR E s p.2 1/\nT p.1/\(dv p.1.body:Int)<=400*(p.2.at_-s.at_):=by
 unfold mI at h;obtain⟨q,g1,g2⟩:=fj h;obtain⟨b,g3,g4⟩:=fj g2;cases g4;have u:=λe=>j7 aE o e
 have i1:cJ E (bu T s).2:=bR.to o (λi=>(u i).2) af;have t1:=λe=>eB aE (x:=[40]) i1 e
 have i2:cJ E (bl T [40] (bu T s).2):=bR.to i1 (λi=>(t1 i).2.2) af;have f1:=λe=>Ca aE n [] _ q i2 (λ_=>⟨by simp,λx z=>by cases z⟩) g1 e
 have i3:cJ E q.2:=bR.to i2 (λi=>(f1 i).1) af;have t2:=λe=>eB aE (x:=[41]) i3 e
 have i4:cJ E (bl T [41] q.2):=bR.to i3 (λi=>(t2 i).2.2) af;have v:=λe=>I_ aE i4 e
 have i5:cJ E (gu T (bl T [41] q.2)).2:=bR.to i4 (λi=>(v i).1) af;obtain⟨k,F,d,G,A⟩:=(Ch aE y n).block _ b i5 g3 aG;obtain⟨m1,m2⟩:=v k.f;obtain⟨-,-,l⟩:=t2 m1.f;obtain⟨aS,a2,a3⟩:=f1 l.f;obtain⟨-,-,j⟩:=t1 aS.f;obtain⟨w,m⟩:=u j.f;have B:=(i5 k.f).c;have aw:=m.a;have H:=j.a;have K:=aS.a;have L:=l.a;have M:=m1.a;exact⟨(((((m.trans j).trans aS).trans l).trans m1).trans k).less af,⟨w,a2,a3,m2,d,af,A⟩,by simp only;omega⟩
def oE(aE:Good T E)(m:mi T)(N:Nat):∀(n:Nat) (g:dm) (s:av) (p:dm×av),cJ E s->(s.aF=0->wJ s.at_ g)->gY T N n g s=D p->p.2.aF=0->wJ p.2.at_ p.1/\p.2.at_<=E
 |0,_,_,_,_,_,h,_=>by cases h
 |n+1,g,s,p,i,he,h,aG=>by
  rw[gY]at h;cases k:(s.aF==0&&(au T s.at_).kind != 0)with
  |false=>
   rw[k,aT]at h;cases h;exact⟨he aG,(i aG).b⟩
  |true=>
   rw[k,aZ]at h;simp only[Bool.and_eq_true,beq_iff_eq]at k;have G:=he k.1;cases hm:((isRec T s&&g.da.length==12)||((jz T s&&g.globals.length==8)||(isFun T s&&g.funcs.length==16)))with
   |true=>
    rw[hm,aZ]at h;exact oE aE m N n g _ p (λd=>absurd d (eT cu)) (λd=>absurd d (eT cu)) h aG
   |false=>
    rw[hm,aT]at h;simp only[Bool.or_eq_false_iff]at hm;cases u:isRec T s with
    |true=>
     rw[u,aZ]at h;obtain⟨q,g1,g2⟩:=fj h;have e:=fl aE (i k.1) u;have j:=λd=>I5 aE (e.fE i af) g1 d
     have A:=e.a;have H:g.da.length≠12:=by
      intro o;have:=hm.1;rw[u,o]at this;simp at this
     have:=G.gn;refine oE aE m N n _ q.2 p (bR.to (e.fE i af) (λl=>(j l).1) af) (λd=> ?_) g2 aG;obtain⟨a,b⟩:=j d;have:=a.a;have:=G.w;exact⟨pG G.nb b,G.di,G.cn,by rw[List.length_append,List.length_singleton];omega,G.mN,G.ou,by simp only;omega⟩
    |false=>
     rw[u,aT]at h;cases v:jz T s with
     |true=>
      rw[v,aZ]at h;have e:=fl aE (i k.1) v;have A:=e.a;have B:=e.fE i af;have j:=λd=>vo aE B d
      have F:cJ E (dD T (aD s)).2:=bR.to B (λl=>(j l).2) af;have t1:=λd=>eB aE (x:=[59]) F d
      have L:g.globals.length≠8:=by
       intro o;have:=hm.2.1;rw[v,o]at this;simp at this
      have:=G.mN;refine oE aE m N n _ _ p (bR.to F (λl=>(t1 l).2.2) af) (λd=> ?_) h aG;obtain⟨-,-,z⟩:=t1 d;obtain⟨a,b⟩:=j z.f;have:=z.a;have:=b.a;have:=G.w;exact⟨G.nb,pG G.di a,G.cn,G.gn,by rw[List.length_append,List.length_singleton];omega,G.ou,by simp only;omega⟩
     |false=>
      rw[v,aT]at h;cases y:isFun T s with
      |true=>
       rw[y,aZ]at h;obtain⟨q,g1,g2⟩:=fj h;have e:=fl aE (i k.1) y;have j:=λd=>Hj aE m (e.fE i af) g1 d
       have A:=e.a;have K:g.funcs.length≠16:=by
        intro o;have:=hm.2.2;rw[y,o]at this;simp at this
       have:=G.ou;refine oE aE m N n _ q.2 p (bR.to (e.fE i af) (λl=>(j l).1) af) (λd=> ?_) g2 aG;obtain⟨a,b,c⟩:=j d;have:=a.a;have:=G.w;exact⟨G.nb,G.di,pG G.cn b,G.gn,G.mN,by rw[List.length_append,List.length_singleton];omega,by simp only;rw[MP];omega⟩
      |false=>
       rw[y,aT]at h;exact oE aE m N n g _ p (λd=>absurd d (eT cu)) (λd=>absurd d (eT cu)) h aG
end
def c_(x:aK)(r:List bN):(flat (bQ x::r)).length=x.length+(flat r).length:=by rw[flat,List.length_append];rfl
def hn(x:aK)(r:List bN):(flat (wd x::r)).length=x.length+(flat r).length:=by rw[flat,List.length_append];rfl
def lG(x:aK)(r:List bN):(flat (cg x::r)).length=x.length+(flat r).length:=by rw[flat,List.length_append];rfl
def h6(x:aK)(r:List bN):(flat (.b x::r)).length=x.length+(flat r).length:=by rw[flat,List.length_append];rfl
def ew(r:List bN):(flat (cq::r)).length=1+(flat r).length:=h6 [32] r
def iY(r:List bN):(flat (nl::r)).length=1+(flat r).length:=h6 [10] r
def cV(a b:List bN):(flat (a++b)).length=(flat a).length+(flat b).length:=by rw[c3,List.length_append]
def eH:(flat []).length=0:=rfl
def uY(x:aK):∀n,(flat (rep n (bQ x))).length=n*x.length
 |0=>by simp[rep,flat]
 |n+1=>by have:=uY x n;unfold rep at this ⊢;rw[List.replicate_succ,c_,this,Nat.succ_mul];omega
def iD(x:aK)(z:Int):(flat (cX x z)).length=2*z.toNat+x.length:=by
 have e:(flat (q1 x::rep z.toNat (bQ [93]))).length=x.length+(flat (rep z.toNat (bQ [93]))).length:=by
  unfold q1;cases jl x
  ·exact lG _ _
  ·exact hn _ _
 unfold cX;rw[cV,e,uY,uY];simp only[List.length_cons,List.length_nil];omega
def u0{k:Int}(h:14<=k)(ba:k<=24):(gx k).length<=2:=by
 have a:k=14\/k=15\/k=16\/k=17\/k=18\/k=19\/k=20\/k=21\/k=22\/k=23\/k=24:=af;rcases a with rfl|rfl|rfl|rfl|rfl|rfl|rfl|rfl|rfl|rfl|rfl<;>decide
def p5(m:Nat)(e:aL):(flat (ck m e)).length<=(flat (bn e)).length+2:=by
 by_cases h:e.cp<m
 ·rw[vm h,c_,cV,c_,eH];simp only[List.length_cons,List.length_nil];omega
 ·rw[r3 h];omega
def A5:∀l:List aL,(∀e∈l,(flat (bn e)).length+4<=cF e)->(flat (eA (c7 l))).length<=b1 l
 |[],_=>by simp[c7,eA,flat,b1]
 |[e],h=>by rw[mT];have:=h e (by simp);simp only[eA,b1];omega
 |e::f::r,h=>by
  have i:=h e (by simp);have c:=A5 (f::r) λx d=>h x (List.mem_cons_of_mem _ d)
  rw[c7]at c;rw[c7,c7,eA,cV,c_,ew,b1]
  ·simp only[List.length_cons,List.length_nil];omega
  ·intro a;cases a
def H_{n p:Int}:(flat [.t ⟨2,[],n,p⟩]).length<=20:=by
 have:=ya 20 n.toNat [];simpa [flat,bN.sX,sY]using this
def om{d m:Nat}{e:aL}(h:cm d m e):(flat (bn e)).length+4<=cF e:=by
 induction h with
 |par _ _ _ c=>exact c
 | @int d m n p _ _ _=>
  rw[eJ,cF,b1];have:(flat (kO {kind:=1,n:=n,pos:=p} (c7 []))).length<=20:=H_ (p:=0);simp only[List.length_nil];omega
 | @bool d m n p _ h=>
  rw[eJ,cF,b1];have:(flat (kO {kind:=2,n:=n,pos:=p} (c7 []))).length<=5:=by
   rcases h with rfl|rfl
   ·exact bj 5
   ·exact(by decide:4<=5)
  simp only[List.length_nil];omega
 | @null d m x z p _ h=>
  rw[eJ,cF,b1];have:(flat (kO {kind:=3,cc:=x,c4:=z,pos:=p} (c7 []))).length=5+(2*z.toNat+x.length):=by
   show(flat (wd [110,117,108,108]::cq::cX x z)).length=_;rw[hn,ew,iD];simp only[List.length_cons,List.length_nil];omega
  have:=h.2.1;simp only[List.length_nil];omega
 | @var d m x p _ h=>
  rw[eJ,cF,b1];have:(flat (kO {kind:=4,name:=x,pos:=p} (c7 []))).length=x.length:=by
   show(flat [cg x]).length=_;rw[lG,eH];omega
  simp only[List.length_nil];omega
 | @field d m x p e _ _ _ c=>
  rw[qq,cF,b1,b1,cV,c_,lG,eH];have:=p5 7 e;simp only[List.length_cons,List.length_nil];omega
 | @item d m p e i _ _ _ ih1 ih2=>
  rw[qs,cF,b1,b1,b1,cV,c_,cV,c_,eH];have:=p5 7 e;simp only[List.length_cons,List.length_nil];omega
 | @call d m x p l _ _ _ c=>
  rw[qp,cF,lG,c_,cV,c_,eH];have:=A5 l c;simp only[List.length_cons,List.length_nil];omega
 | @new d m x p _ _=>
  rw[eJ,cF,b1];have:(flat (kO {kind:=8,cc:=x,pos:=p} (c7 []))).length=4+x.length:=by
   show(flat [wd [110,101,119],cq,cg x]).length=_;rw[hn,ew,lG,eH];simp only[List.length_cons,List.length_nil];omega
  simp only[List.length_nil];omega
 | @make d m x z p e _ h _ c=>
  rw[qu,cF,b1,b1,hn,ew,c_,cV,iD,c_,c_,cV,c_,eH];have:=h.2.1;simp only[List.length_cons,List.length_nil];omega
 | @len d m p e _ _ c=>
  rw[qt,cF,b1,b1,hn,c_,cV,c_,eH];simp only[List.length_cons,List.length_nil];omega
 | @read d m p _=>
  rw[eJ,cF,b1];have:(flat (kO {kind:=11,pos:=p} (c7 []))).length=6:=rfl;simp only[List.length_nil];omega
 | @sign d m k p e _ h _ c=>
  rw[mU h,cF,b1,b1,c_];have:=p5 6 e;have:(bif k==12 then[45]else[33]:aK).length=1:=by cases k==12<;>rfl
  simp only[List.length_nil];omega
 | @bin d m k p a b _ j o _ _ ih1 ih2=>
  rw[qo j,cF,b1,b1,b1,cV,ew,c_,ew];have:=p5 (c6 k) a;have:=p5 (c6 k+1) b;have:=u0 j o;simp only[List.length_nil];omega
def p8:∀l:List aL,40*l.length<=b1 l
 |[]=>by simp[b1]
 | .mk a ks::r=>by have:=p8 r;rw[b1,cF,List.length_cons];omega
def gH{d:Nat}{e:aL}(h:cm d 0 e):(flat (bn e)).length<=cF e:=by have:=om h;omega
def hl(deep:Nat):(pad deep).length=2*deep:=by unfold pad;rw[List.length_replicate]
def u1(x ai:aK)(z:Int):(flat (jE x ai z)).length=x.length+2+(2*z.toNat+ai.length):=by
 unfold jE;rw[lG,c_,ew,iD];simp only[List.length_cons,List.length_nil];omega
def uW(d:aK)(B:List bN):(flat (hM d B)).length=4+(flat B).length+d.length:=by
 unfold hM;rw[ew,c_,iY,cV,h6,c_,eH];simp only[List.length_cons,List.length_nil];omega
def p7{deep:Nat}:∀l:List bE,(∀s∈l,(flat (gr deep s)).length<=dY s)->(flat (cI deep l)).length<=dv l
 |[],_=>by simp[cI,flat,dv]
 |s::r,h=>by
  have c:=h s (by simp);have d:=p7 r λx a=>h x (List.mem_cons_of_mem _ a)
  rw[cI,cV,dv];omega
def uZ{d:Nat}{s:bE}(h:ea d s):∀deep,deep+d<=51->(flat (gr deep s)).length<=dY s:=by
 induction h with
 | @var d x ai z p l i=>
  intro deep a;rw[gr,h6,cV,iY,hl,eH,dY,b1];have:=i.2.1;have:(flat (hN {kind:=1,name:=x,cc:=ai,c4:=z,pos:=p} [] (cI (deep+1) []) ([]:List bE).isEmpty (cI (deep+1) []) (pad deep))).length=4+(x.length+2+(2*z.toNat+ai.length))+1:=by
   show(flat (wd pf::cq::(jE x ai z++[bQ [59]]))).length=_;rw[hn,ew,cV,u1,c_,eH];simp only[List.length_cons,List.length_nil,pf];omega
  simp only[List.length_nil];omega
 | @lets d x ai z p e l i hw=>
  intro deep a;rw[gr,h6,cV,iY,hl,eH,dY,b1,b1];have:=i.2.1;have he:=gH hw;have:(flat (hN {kind:=2,name:=x,cc:=ai,c4:=z,pos:=p} [e] (cI (deep+1) []) ([]:List bE).isEmpty (cI (deep+1) []) (pad deep))).length=4+(x.length+2+(2*z.toNat+ai.length))+3+(flat (bn e)).length+1:=by
   show(flat (wd pd::cq::(jE x ai z++cq::bQ [61]::cq::(bn e++[bQ [59]])))).length=_;rw[hn,ew,cV,u1,ew,c_,ew,cV,c_,eH];simp only[List.length_cons,List.length_nil,pd];omega
  simp only[List.length_nil];omega
 | @set d x p e l hw=>
  intro deep a;rw[gr,h6,cV,iY,hl,eH,dY,b1,b1];have he:=gH hw;have:(flat (hN {kind:=3,name:=x,pos:=p} [e] (cI (deep+1) []) ([]:List bE).isEmpty (cI (deep+1) []) (pad deep))).length=x.length+3+(flat (bn e)).length+1:=by
   show(flat (cg x::cq::bQ [61]::cq::(bn e++[bQ [59]]))).length=_;rw[lG,ew,c_,ew,cV,c_,eH];simp only[List.length_cons,List.length_nil];omega
  simp only[List.length_nil];omega
 | @put d p e f o hw k=>
  intro deep a;rw[gr,h6,cV,iY,hl,eH,dY,b1,b1,b1];have he:=gH hw;have k:=gH k;have:(flat (hN {kind:=4,pos:=p} [e,f] (cI (deep+1) []) ([]:List bE).isEmpty (cI (deep+1) []) (pad deep))).length=(flat (bn e)).length+3+(flat (bn f)).length+1:=by
   show(flat (bn e++cq::bQ [61]::cq::(bn f++[bQ [59]]))).length=_;rw[cV,ew,c_,ew,cV,c_,eH];simp only[List.length_cons,List.length_nil];omega
  simp only[List.length_nil];omega
 | @ifs d p e b c hw n v j q=>
  intro deep a;rw[gr,h6,cV,iY,hl,eH,dY,b1,b1];have he:=gH hw;have m:=p7 b (λs aB=>j s aB (deep+1) af);have u:=p7 c (λs aB=>q s aB (deep+1) af);have:(flat (hN {kind:=5,pos:=p} [e] (cI (deep+1) b) c.isEmpty (cI (deep+1) c) (pad deep))).length<=3+(flat (bn e)).length+(4+(flat (cI (deep+1) b)).length+2*deep)+(5+(4+(flat (cI (deep+1) c)).length+2*deep)):=by
   show(flat (wd lg::cq::(bn e++(hM (pad deep) (cI (deep+1) b)++bif c.isEmpty then[]else cq::wd q3::hM (pad deep) (cI (deep+1) c))))).length<=_;rw[hn,ew,cV,cV,uW,hl];cases c.isEmpty
   ·rw[aT,ew,hn,uW,hl];simp only[List.length_cons,List.length_nil,lg,q3];omega
   ·rw[aZ,eH];simp only[List.length_cons,List.length_nil,lg];omega
  simp only[List.length_nil];omega
 | @«while» d p e b hw n j=>
  intro deep a;rw[gr,h6,cV,iY,hl,eH,dY,b1,b1];have he:=gH hw;have m:=p7 b (λs aB=>j s aB (deep+1) af);have:(flat (hN {kind:=6,pos:=p} [e] (cI (deep+1) b) ([]:List bE).isEmpty (cI (deep+1) []) (pad deep))).length=6+(flat (bn e)).length+(4+(flat (cI (deep+1) b)).length+2*deep):=by
   show(flat (wd pg::cq::(bn e++hM (pad deep) (cI (deep+1) b)))).length=_;rw[hn,ew,cV,uW,hl];simp only[List.length_cons,List.length_nil,pg];omega
  simp only[List.length_nil];omega
 | @mZ d p=>
  intro deep a;rw[gr,h6,cV,iY,hl,eH,dY,b1];have:(flat (hN {kind:=7,pos:=p} [] (cI (deep+1) []) ([]:List bE).isEmpty (cI (deep+1) []) (pad deep))).length=7:=rfl;simp only[List.length_nil];omega
 | @m_ d p e hw=>
  intro deep a;rw[gr,h6,cV,iY,hl,eH,dY,b1,b1];have he:=gH hw;have:(flat (hN {kind:=7,pos:=p} [e] (cI (deep+1) []) ([]:List bE).isEmpty (cI (deep+1) []) (pad deep))).length=7+(flat (bn e)).length+1:=by
   show(flat (wd mf::cq::(bn e++[bQ [59]]))).length=_;rw[hn,ew,cV,c_,eH];simp only[List.length_cons,List.length_nil,mf];omega
  simp only[List.length_nil];omega
 | @print d p e hw=>
  intro deep a;rw[gr,h6,cV,iY,hl,eH,dY,b1,b1];have he:=gH hw;have:(flat (hN {kind:=8,pos:=p} [e] (cI (deep+1) []) ([]:List bE).isEmpty (cI (deep+1) []) (pad deep))).length=6+(flat (bn e)).length+1:=by
   show(flat (wd pe::cq::(bn e++[bQ [59]]))).length=_;rw[hn,ew,cV,c_,eH];simp only[List.length_cons,List.length_nil,pe];omega
  simp only[List.length_nil];omega
 | @call d p e o hw=>
  intro deep a;rw[gr,h6,cV,iY,hl,eH,dY,b1,b1];have he:=gH hw;have:(flat (hN {kind:=9,pos:=p} [e] (cI (deep+1) []) ([]:List bE).isEmpty (cI (deep+1) []) (pad deep))).length=(flat (bn e)).length+1:=by
   show(flat (bn e++[bQ [59]])).length=_;rw[cV,c_,eH];simp only[List.length_cons,List.length_nil]
  simp only[List.length_nil];omega
section
set_option maxRecDepth 100000
noncomputable section
def nh(G:az)(ag:aa)(H:ad):O:=cf H [I J 0,Y [],I J 0,I J 0] λe h=>j (bW ag) λV=>j (aI P 59 V 1) λW=>j (an P h 3 W) λbo=>j (aq P .lss 3 X bo (I J 0)) λa=>aQ a U h (ca ag) λab n=>aQ a U n (bz (bW ab)) λv o=>aQ a U o (bz (aI P 59 v 1)) λw i=>aQ a U i (qr (an P i 3 w)) λx p=>aQ a U p (ca ag) λy s=>aQ a U s (bz (bW y)) λz u=>aQ a U u (bz (aI P 59 z 0)) λA k=>aQ a U k (qr (an P k 36 A)) λbx l=>aQ a U l (λq=>gj (bZ P .empty .len [36] [bx]) (bZ P l .len [36] [bx]) q) λB m=>aQ a U m (bz (aq P .geq 3 U x B)) λE c=>j (cD a (D (.bool X)) (D E)) λF=>aW (D F) (a7 c (aV P c 61 e (.agg [I J 0,Y [],I J 0,I J 0])) λd=>j (an P d 61 e) λr=>D (r,d)) (j (bW ag) λK=>j (aI P 59 K 0) λL=>j (an P c 36 L) λM=>j (bW ag) λN=>j (aI P 59 N 1) λQ=>j (an P c 3 Q) λR=>j (cB P 36 M R) λS=>j (an P c 61 S) λT=>a7 c (aV P c 61 e T) λd=>j (an P d 61 e) λr=>D (r,d))
def Ju(N:Nat){ag:aa}{H:ad}{r:aa×ad}(h:nh (aC P ay) ag H=D r):aC P ay 22 [ag] H=D r:=cO N (S:=λG=>nh G ag H) Tryd.func22 (λ_=>by delta nh;kernel_rfl) h
def sl(G:az)(ag:aa)(H:ad):O:=j (bW ag) λa=>j (aI P 59 a 3) λc=>j (aI P 29 c 0) λbo=>j (an P H 27 bo) λd=>j (aq P .eql 27 X d (I J 0)) λe=>D (e,H)
def Jt(N:Nat){ag:aa}{H:ad}{r:aa×ad}(h:sl (aC P ay) ag H=D r):aC P ay 21 [ag] H=D r:=cO N (S:=λG=>sl G ag H) Tryd.func21 (λ_=>by delta sl;kernel_rfl) h
def nj(G:az)(ag aw:aa)(H:ad):O:=aH H (G 21 [ag] H) λl a=>aW (D l) (aH a (G 22 [ag] a) λm c=>j (cA P 61 m 3) λe=>j (ch P 29 [(0,aw),(1,e)]) λh=>j (bW ag) λi=>j (aI P 59 i 3) λk=>a7 c (aV P c 29 k h) λd=>D (.tuple [],d)) (D (.tuple [],a))
def Jw(N:Nat){ag aw:aa}{H:ad}{r:aa×ad}(h:nj (aC P ay) ag aw H=D r):aC P ay 24 [ag,aw] H=D r:=cO N (S:=λG=>nj G ag aw H) Tryd.func24 (λ_=>by delta nj;kernel_rfl) h
def ni(G:az)(ag aw:aa)(h bo:aa)(H:ad):O:=aH H (G 21 [ag] H) λa i=>aQ a X i (bz (aI P 61 h 0)) λq d=>aQ a X d (qr (an P d 3 q)) λs k=>aQ a X k (ca bo) λu l=>aQ a X l (bz (aq P .eql 3 U s u)) λv m=>j (cD a (D v) (D (.bool U))) λc=>aQ c X m (bz (aI P 61 h 1)) λw e=>aQ c X e (qr (an P e 9 w)) λx n=>aQ c X n (ca aw) λy o=>aQ c X o (bz (aq P .eql 9 U x y)) λz p=>j (cD c (D z) (D (.bool U))) λA=>D (A,p)
def KD(G:az)(N:Nat):∀ae H,bp P G N (ak (ak (ak (ak (bs Tryd.f23))))) (bk Tryd.f23) [] (bk Tryd.f23) ae H=ni G (ae 0) (ae 1) (ae 5) (ae 6) H:=by
 refine bL (aJ _) λae H=> ?_
 delta ni;kernel_rfl
def kg(G:az)(ag aw:aa)(H:ad):O:=aH H (G 22 [ag] H) λq h=>cf h [I J 0,Y [],I J 0,I J 0] λc d=>a7 d (aV P d 61 c q) λi=>j (eE P 9 aw (I J 0)) λm=>j (aq P .geq 5 X m (I .u8 97)) λa=>aQ a X i (ca aw) λn k=>aQ a X k (bz (eE P 9 n (I J 0))) λo l=>aQ a X l (bz (aq P .leq 5 X o (I .u8 122))) λp e=>j (cD a (D p) (D (.bool U))) λbx=>aW (D bx) (ni G ag aw c (I J 3) e) (ni G ag aw c (I J 4) e)
def Jv(N:Nat){ag aw:aa}{H:ad}{r:aa×ad}(h:kg (aC P ay) ag aw H=D r):aC P ay 23 [ag,aw] H=D r:=cO N (S:=λG=>kg G ag aw H) Tryd.func23 (λG=>dN ((aP ah ((aP ah ((aP ah ((aP ah (KD G N) (aJ _))) (aJ _))) (aJ _))) (aJ _))) (by delta kg;generalize ni G=a;revert a;refine id ?_;intro a;kernel_rfl)) h
def nk(G:az)(ag aw:aa)(H:ad):O:=aH H (G 23 [ag,aw] H) λbo a=>j (ff .not bo) λl=>aW (D l) (aH a (G 24 [ag,I J 2] a) λm c=>D (.tuple [],c)) (j (bW ag) λd=>j (aI P 59 d 1) λe=>j (an P a 3 e) λh=>j (aq P .add 3 X h (I J 1)) λi=>j (bW ag) λk=>j (aI P 59 k 1) λbx=>a7 a (aV P a 3 bx i) λc=>D (.tuple [],c))
def Jz(N:Nat){ag aw:aa}{H:ad}{r:aa×ad}(h:nk (aC P ay) ag aw H=D r):aC P ay 27 [ag,aw] H=D r:=cO N (S:=λG=>nk G ag aw H) Tryd.func27 (λ_=>by delta nk;kernel_rfl) h
def sN(ag m:aa)(a:ad):O:=j (bW ag) λd=>j (aI P 59 d 2) λe=>j (an P a 3 e) λh=>j (aq P .add 3 X h (I J 1)) λi=>j (bW ag) λk=>j (aI P 59 k 2) λl=>a7 a (aV P a 3 l i) λc=>D (.tuple [],c)
def k9(G:az)(ag aw:aa)(H:ad):O:=aH H (G 23 [ag,aw] H) λbo d=>aQ bo X d (ca ag) λp e=>aQ bo X e (bz (bW p)) λq h=>aQ bo X h (bz (aI P 59 q 2)) λl c=>aQ bo X c (qr (an P c 3 l)) λm i=>aQ bo X i (bz (aq P .geq 3 X m (I J 50))) λn a=>j (cD bo (D n) (D (.bool U))) λo=>aW (D o) (aH a (G 24 [ag,I J 4] a) λs k=>D (.tuple [],k)) (aH a (G 27 [ag,aw] a) (sN ag))
def J5(N:Nat){ag aw:aa}{H:ad}{r:aa×ad}(h:k9 (aC P ay) ag aw H=D r):aC P ay 77 [ag,aw] H=D r:=cO N (S:=λG=>k9 G ag aw H) Tryd.func77 (λ_=>by delta k9 sN;kernel_rfl) h
def qO(G:az)(ag aw:aa)(H:ad):O:=aH H (G 27 [ag,aw] H) λbo a=>j (bW ag) λk=>j (aI P 59 k 2) λl=>j (an P a 3 l) λd=>j (aq P .sub 3 X d (I J 1)) λe=>j (bW ag) λh=>j (aI P 59 h 2) λi=>a7 a (aV P a 3 i e) λc=>D (.tuple [],c)
def J7(N:Nat){ag aw:aa}{H:ad}{r:aa×ad}(h:qO (aC P ay) ag aw H=D r):aC P ay 79 [ag,aw] H=D r:=cO N (S:=λG=>qO G ag aw H) Tryd.func79 (λ_=>by delta qO;kernel_rfl) h
def o2(c:aa)(a:ad):O:=some ((Y []),a)
def k3(G:az)(ag:aa)(H:ad):O:=aH H (G 22 [ag] H) λA l=>cf l [I J 0,Y [],I J 0,I J 0] λd e=>a7 e (aV P e 61 d A) λh=>aH h (G 21 [ag] h) λc m=>aQ c X m (bz (aI P 61 d 0)) λB i=>aQ c X i (qr (an P i 3 B)) λo n=>aQ c X n (bz (aq P .eql 3 X o (I J 1))) λp a=>j (cD c (D p) (D (.bool U))) λq=>aW (D q) (j (bW ag) λs=>j (aI P 59 s 1) λu=>j (an P a 3 u) λbx=>j (aq P .add 3 X bx (I J 1)) λv=>j (bW ag) λw=>j (aI P 59 w 1) λx=>a7 a (aV P a 3 x v) λk=>j (aI P 61 d 1) λy=>j (an P k 9 y) λz=>D (z,k)) (aH a (G 24 [ag,I J 2] a) (o2))
def JR(N:Nat){ag:aa}{H:ad}{r:aa×ad}(h:k3 (aC P ay) ag H=D r):aC P ay 55 [ag] H=D r:=cO N (S:=λG=>k3 G ag H) Tryd.func55 (λ_=>by delta k3 o2;kernel_rfl) h
def fp(G:az)(N:Nat)(c d:aa)(H:ad):O:=j (an P H 40 d) λe=>a7 H (aV P H 40 c e) λa=>j (an P a 40 c) λr=>D (r,a)
def Li(G:az)(N:Nat):∀ae H,bp P G N (ak (ak (ak (ak (ak (ak (bs Tryd.f53))))))) (bk Tryd.f53) [] (bk Tryd.f53) ae H=fp G N (ae 2) (ae 4) H:=by
 refine bL (aJ _) λae H=> ?_
 delta fp;kernel_rfl
def gf(G:az)(N:Nat)(h:aa->aa->aa->aa->aa->ad->O)(ag a:aa)(c d e:aa)(H:ad):O:=j (aq P .lss 3 U e c) λk=>aW (D k) (aH H (G 27 [ag,Y [93]] H) λm i=>j (aq P .add 3 X e (I J 1)) λl=>h ag a c d l i) (fp G N a d H)
def lZ(G:az)(N:Nat):Nat->aa->aa->aa->aa->aa->ad->O
 |0,_,_,_,_,_,_=>Z
 |n+1,ag,a,c,d,e,H=>gf G N (lZ G N n) ag a c d e H
def Le(G:az)(N:Nat)(c:aa->aa->aa->aa->aa->ad->O):∀ae H,bp P G N (a6 (a6 (ak (a6 (ak (ak (ak (ak (ak (bs Tryd.f53)))))))))) (λae H=>c (ae 0) (ae 2) (ae 3) (ae 4) (ae 5) H) [(3,(λae H=>fp G N (ae 2) (ae 4) H))] (bk Tryd.f53) ae H=gf G N c (ae 0) (ae 2) (ae 3) (ae 4) (ae 5) H:=by
 refine bL (aJ _) λae H=> ?_
 delta gf;generalize fp G N=a;revert a;refine id ?_;intro a;kernel_rfl
def gM(G:az)(N:Nat)(ag a:aa)(c d:aa)(H:ad):O:=lZ G N N ag a c d (I J 0) H
def Lh(G:az)(N:Nat):∀ae H,bp P G N (ak (ak (ak (ak (ak (bs Tryd.f53)))))) (bk Tryd.f53) [] (bk Tryd.f53) ae H=gM G N (ae 0) (ae 2) (ae 3) (ae 4) H:=by
 refine bL ((aP ah (Li G N) ((aP ah ((dc ah ((ei (k:=λm ae H=>lZ G N m (ae 0) (ae 2) (ae 3) (ae 4) (ae 5) H) ah (λae H=>ah) (λm=>Le G N (lZ G N m)))))) (aJ _))))) λae H=> ?_
 delta gM;generalize lZ G N N=a;revert a;refine id ?_;intro a;kernel_rfl
def gw(G:az)(N:Nat)(ag e:aa)(h d m:aa)(H:ad):O:=aW (D m) (aH H (G 22 [ag] H) λn a=>j (cA P 61 n 1) λo=>j (aI P 40 d 0) λp=>a7 a (aV P a 9 p o) λc=>j (bW ag) λq=>j (aI P 59 q 1) λs=>j (an P c 3 s) λu=>j (aq P .add 3 X u (I J 1)) λv=>j (bW ag) λw=>j (aI P 59 w 1) λx=>a7 c (aV P c 3 x v) λi=>gM G N ag e h d i) (aH H (G 55 [ag] H) λk a=>j (aI P 40 d 0) λl=>a7 a (aV P a 9 l k) λc=>gM G N ag e h d c)
def Lj(G:az)(N:Nat):∀ae H,bp P G N (ak (a6 (a6 (ak (ak (ak (ak (bs Tryd.f53)))))))) (λae H=>gM G N (ae 0) (ae 2) (ae 3) (ae 4) H) [(2,(λae H=>gM G N (ae 0) (ae 2) (ae 3) (ae 4) H))] (bk Tryd.f53) ae H=gw G N (ae 0) (ae 2) (ae 3) (ae 4) (ae 27) H:=by
 refine bL (aJ _) λae H=> ?_
 delta gw;generalize gM G N=a;revert a;refine id ?_;intro a;kernel_rfl
def ha(G:az)(N:Nat)(ag i c:aa)(H:ad):O:=j (ch P 40 [(1,c)]) λm=>cf H [Y [],I J 0] λd e=>a7 e (aV P e 40 d m) λh=>aH h (G 23 [ag,Y [105,110,116]] h) λk a=>aW (D k) (gw G N ag i c d k a) (aH a (G 23 [ag,Y [98,111,111,108]] a) λn l=>gw G N ag i c d n l)
def Lg(G:az)(N:Nat):∀ae H,bp P G N (ak (ak (ak (bs Tryd.f53)))) (bk Tryd.f53) [] (bk Tryd.f53) ae H=ha G N (ae 0) (ae 2) (ae 3) H:=by
 refine bL ((aP ah ((aP ah (Lh G N) ((dc ah ((aP ah (Lj G N) (aJ _))))))) (aJ _))) λae H=> ?_
 delta ha;generalize gw G N=a;revert a;refine id ?_;intro a;kernel_rfl
def gv(G:az)(N:Nat)(i:aa->aa->aa->ad->O)(ag d e:aa)(H:ad):O:=aH H (G 23 [ag,Y [91]] H) λq a=>aW (D q) (j (aq P .eql 3 X e (I J 3)) λs=>aW (D s) (aH a (G 24 [ag,I J 4] a) λu c=>a7 c (aV P c 40 d (.agg [Y [],I J 0])) λh=>j (an P h 40 d) λr=>D (r,h)) (j (bW ag) λk=>j (aI P 59 k 1) λl=>j (an P a 3 l) λbx=>j (aq P .add 3 X bx (I J 1)) λm=>j (bW ag) λn=>j (aI P 59 n 1) λo=>a7 a (aV P a 3 o m) λc=>j (aq P .add 3 X e (I J 1)) λp=>i ag d p c)) (ha G N ag d e a)
def l0(G:az)(N:Nat):Nat->aa->aa->aa->ad->O
 |0,_,_,_,_=>Z
 |n+1,ag,a,c,H=>gv G N (l0 G N n) ag a c H
def Lf(G:az)(N:Nat)(c:aa->aa->aa->ad->O):∀ae H,bp P G N (a6 (a6 (a6 (ak (ak (bs Tryd.f53)))))) (λae H=>c (ae 0) (ae 2) (ae 3) H) [(0,(λae H=>ha G N (ae 0) (ae 2) (ae 3) H))] (bk Tryd.f53) ae H=gv G N c (ae 0) (ae 2) (ae 3) H:=by
 refine bL (aJ _) λae H=> ?_
 delta gv;generalize ha G N=a;revert a;refine id ?_;intro a;kernel_rfl
def gd(G:az)(N:Nat)(ag:aa)(H:ad):O:=cf H [Y [],I J 0] λc a=>l0 G N N ag c (I J 0) a
def JQ(N:Nat){ag:aa}{H:ad}{r:aa×ad}(h:gd (aC P ay) N ag H=D r):aC P ay 53 [ag] H=D r:=cO N (S:=λG=>gd G N ag H) Tryd.func53 (λG=>dN ((aP ah ((aP ah ((aP ah (Lg G N) ((dc ah ((ei (k:=λm ae H=>l0 G N m (ae 0) (ae 2) (ae 3) H) ah (λae H=>ah) (λm=>Lf G N (l0 G N m)))))))) (aJ _))) (aJ _))) (by delta gd;generalize l0 G N N=a;revert a;refine id ?_;intro a;kernel_rfl)) h
def kp(G:az)(N:Nat)(H:ad):O:=some ((I J 0),H)
def LB(G:az)(N:Nat):∀ae H,bp P G N (ak (ak (ak (ak (ak (bs Tryd.f70)))))) (bk Tryd.f70) [] (bk Tryd.f70) ae H=kp G N H:=by
 refine bL (aJ _) λae H=> ?_
 delta kp;kernel_rfl
def nC(G:az)(N:Nat)(e:aa->aa->aa->aa->aa->ad->O)(ag d:aa)(c bo a:aa)(H:ad):O:=j (cB P 131 c ag) λh=>j (an P H 50 h) λi=>bg P .len [50] [i] H λk=>j (aq P .lss 3 U a k) λl=>aW (D l) (j (cB P 131 c ag) λn=>j (an P H 50 n) λo=>j (cB P 50 o a) λp=>j (an P H 9 p) λq=>j (aI P 61 d 1) λs=>j (an P H 9 s) λu=>j (aq P .eql 9 U q u) λv=>aW (D v) (j (cB P 132 bo ag) λw=>j (an P H 51 w) λx=>j (cB P 51 x a) λy=>j (an P H 3 y) λz=>D (z,H)) (j (aq P .add 3 X a (I J 1)) λm=>e ag d c bo m H)) (kp G N H)
def kq(G:az)(N:Nat):Nat->aa->aa->aa->aa->aa->ad->O
 |0,_,_,_,_,_,_=>Z
 |n+1,ag,a,c,bo,d,H=>nC G N (kq G N n) ag a c bo d H
def LA(G:az)(N:Nat)(c:aa->aa->aa->aa->aa->ad->O):∀ae H,bp P G N (a6 (a6 (ak (a6 (ak (ak (ak (ak (bs Tryd.f70))))))))) (λae H=>c (ae 0) (ae 3) (ae 5) (ae 6) (ae 7) H) [(0,(λae H=>kp G N H))] (bk Tryd.f70) ae H=nC G N c (ae 0) (ae 3) (ae 5) (ae 6) (ae 7) H:=by
 refine bL (aJ _) λae H=> ?_
 delta nC;generalize kp G N=a;revert a;refine id ?_;intro a;kernel_rfl
def l5(G:az)(N:Nat)(ag aw:aa)(H:ad):O:=bS H (dS (H).next aw) λq a=>j (aI P 61 q 0) λM=>j (an P a 3 M) λQ=>j (aq P .neq 3 X Q (I J 4)) λu=>aW (D u) (D ((I J 0),a)) (bS a (D (.aA (a).next 0 1 1 (D 1),.row U 1 [[Y [124,124]]])) λv h=>bS h (D (.aA (h).next 0 1 1 (D 1),.row U 1 [[Y [38,38]]])) λw i=>bS i (D (.aA (i).next 0 4 1 (D 4),.row U 1 [[Y [60]],[Y [60,61]],[Y [61,61]],[Y [33,61]]])) λx k=>bS k (D (.aA (k).next 0 2 1 (D 2),.row U 1 [[Y [43]],[Y [45]]])) λy l=>bS l (D (.aA (l).next 0 3 1 (D 3),.row U 1 [[Y [42]],[Y [47]],[Y [37]]])) λz m=>bS m (bV P (m).next 131 5 [(0,v),(1,w),(2,x),(3,y),(4,z)]) λbx n=>bS n (D (.aA (n).next 0 1 1 (D 1),.row U 1 [[I J 24]])) λA o=>bS o (D (.aA (o).next 0 1 1 (D 1),.row U 1 [[I J 23]])) λB p=>bS p (D (.aA (p).next 0 4 1 (D 4),.row U 1 [[I J 19],[I J 20],[I J 21],[I J 22]])) λE c=>bS c (D (.aA (c).next 0 2 1 (D 2),.row U 1 [[I J 14],[I J 15]])) λF d=>bS d (D (.aA (d).next 0 3 1 (D 3),.row U 1 [[I J 16],[I J 17],[I J 18]])) λK e=>bS e (bV P (e).next 132 5 [(0,A),(1,B),(2,E),(3,F),(4,K)]) λL s=>kq G N N ag q bx L (I J 0) s)
def J4(N:Nat){ag aw:aa}{H:ad}{r:aa×ad}(h:l5 (aC P ay) N ag aw H=D r):aC P ay 70 [ag,aw] H=D r:=cO N (S:=λG=>l5 G N ag aw H) Tryd.func70 (λG=>dN ((aP ah ((aP ah ((aP ah ((aP ah ((aP ah (LB G N) ((aP ah ((dc ah ((ei (k:=λm ae H=>kq G N m (ae 0) (ae 3) (ae 5) (ae 6) (ae 7) H) ah (λae H=>ah) (λm=>LA G N (kq G N m)))))) (aJ _))))) (aJ _))) (aJ _))) (aJ _))) (aJ _))) (by delta l5;generalize kq G N N=a;revert a;refine id ?_;intro a;kernel_rfl)) h
def np(G:az)(N:Nat)(c e:aa)(H:ad):O:=j (an P H 45 e) λd=>a7 H (aV P H 45 c d) λa=>j (an P a 45 c) λr=>D (r,a)
def KW(G:az)(N:Nat):∀ae H,bp P G N (ak (ak (ak (ak (bs Tryd.f40))))) (bk Tryd.f40) [] (bk Tryd.f40) ae H=np G N (ae 4) (ae 5) H:=by
 refine bL (aJ _) λae H=> ?_
 delta np;kernel_rfl
def h8(a:aa->aa->aa->aa->ad->O)(ag aw:aa)(d e:aa)(c:ad):O:=a ag aw d e c
def qK(G:az)(N:Nat)(A:aa->aa->aa->aa->ad->O)(ag aw:aa)(z e:aa)(H:ad):O:=aH H (G 21 [ag] H) λd B=>aQ d X B (ca aw) λQ K=>aQ d X K (ca ag) λR m=>aQ d X m (λq=>eL m (G 22 [R] m) q) λS n=>aQ d X n (λq=>eL n (G 70 [Q,S] n) q) λT L=>aQ d X L (bz (aq P .neq 3 X T (I J 0))) λV o=>j (cD d (D V) (D (.bool U))) λW=>aW (D W) (aH o (G 22 [ag] o) λab M=>cf M [I J 0,Y [],I J 0,I J 0] λbo x=>a7 x (aV P x 61 bo ab) λp=>j (bW ag) λae=>j (aI P 59 ae 1) λaf=>j (an P p 3 af) λah=>j (aq P .add 3 X ah (I J 1)) λai=>j (bW ag) λaj=>j (aI P 59 aj 1) λak=>a7 p (aV P p 3 ak ai) λv=>j (aq P .add 3 X aw (I J 1)) λal=>aH v (G 40 [ag,al] v) λam E=>cf E [I J 0,I J 0,Y [],Y [],I J 0,aa.ar,I J 0,I J 0,I J 0,I J 0,I J 0] λl w=>a7 w (aV P w 45 l am) λa=>j (an P a 61 bo) λy=>aH a (G 70 [aw,y] a) λao c=>j (an P c 45 e) λs=>j (an P c 45 l) λu=>bS c (bV P (c).next 41 2 [(0,s),(1,u)]) λap h=>j (aI P 61 bo 3) λi=>j (an P h 3 i) λk=>j (ch P 45 [(0,ao),(4,ap),(5,k)]) λau=>a7 h (aV P h 45 e au) λF=>bif ((bh (an P a 61 bo) y&&X)&&((bh (an P a 45 e) s&&(bh (an P c 45 e) s&&X))&&((bh (an P a 45 l) u&&(bh (an P c 45 l) u&&X))&&((bh (an P a 3 i) k&&(bh (an P c 3 i) k&&(bh (an P h 3 i) k&&X)))&&X))))then(h8 A ag aw z e F)else Z) (np G N z e o)
def nq(G:az)(N:Nat):Nat->aa->aa->aa->aa->ad->O
 |0,_,_,_,_,_=>Z
 |n+1,ag,aw,a,c,H=>qK G N (nq G N n) ag aw a c H
def KV(G:az)(N:Nat)(c:aa->aa->aa->aa->ad->O):∀ae H,bp P G N (a6 (a6 (a6 (ak (ak (ak (bs Tryd.f40))))))) (λae H=>c (ae 0) (ae 1) (ae 4) (ae 5) H) [(0,(λae H=>np G N (ae 4) (ae 5) H))] (bk Tryd.f40) ae H=qK G N c (ae 0) (ae 1) (ae 4) (ae 5) H:=by
 refine bL (aJ _) λae H=> ?_
 delta qK h8;generalize np G N=a;revert a;refine id ?_;intro a;kernel_rfl
def hR(G:az)(N:Nat)(ag aw:aa)(c d:aa)(a:ad):O:=nq G N N ag aw c d a
def hS(G:az)(N:Nat)(d ag:aa)(aw e c:aa)(a:ad):O:=a7 a (aV P a 45 c d) (hR G N ag aw e c)
def hT(G:az)(N:Nat)(ag aw:aa)(d c:aa)(a:ad):O:=cf a [I J 0,I J 0,Y [],Y [],I J 0,aa.ar,I J 0,I J 0,I J 0,I J 0,I J 0] (hS G N c ag aw d)
def hQ(G:az)(N:Nat)(ag aw:aa)(H:ad):O:=cf H [I J 0,I J 0,Y [],Y [],I J 0,aa.ar,I J 0,I J 0,I J 0,I J 0,I J 0] λc a=>j (aq P .eql 3 X aw (I J 5)) λk=>aW (D k) (aH a (G 69 [ag] a) λh d=>a7 d (aV P d 45 c h) λe=>j (an P e 45 c) λr=>D (r,e)) (j (aq P .add 3 X aw (I J 1)) λi=>aH a (G 40 [ag,i] a) (hT G N ag aw c))
def JH(N:Nat){ag aw:aa}{H:ad}{r:aa×ad}(h:hQ (aC P ay) N ag aw H=D r):aC P ay 40 [ag,aw] H=D r:=cO N (S:=λG=>hQ G N ag aw H) Tryd.func40 (λG=>dN ((aP ah ((aP ah ((aP ah ((aP ah (KW G N) ((dc ah ((ei (k:=λm ae H=>nq G N m (ae 0) (ae 1) (ae 4) (ae 5) H) ah (λae H=>ah) (λm=>KV G N (nq G N m)))))))) (aJ _))) (aJ _))) (aJ _))) (by delta hQ hT hS hR;generalize nq G N N=a;revert a;refine id ?_;intro a;kernel_rfl)) h
def k8(G:az)(ag k:aa)(l K:aa)(H:ad):O:=j (aI P 61 l 1) λo=>j (an P H 9 o) λp=>aH H (G 77 [ag,p] H) λL e=>aH e (G 40 [ag,I J 5] e) λq n=>cf n [I J 0,I J 0,Y [],Y [],I J 0,aa.ar,I J 0,I J 0,I J 0,I J 0,I J 0] λm h=>a7 h (aV P h 45 m q) λa=>j (bW ag) λs=>j (aI P 59 s 2) λu=>j (an P a 3 u) λv=>j (aq P .sub 3 X v (I J 1)) λw=>j (bW ag) λx=>j (aI P 59 x 2) λy=>a7 a (aV P a 3 y w) λc=>j (an P c 45 m) λz=>bS c (bV P (c).next 41 1 [(0,z)]) λA d=>j (aI P 61 l 3) λB=>j (an P d 3 B) λE=>j (ch P 45 [(0,K),(4,A),(5,E)]) λF=>a7 d (aV P d 45 k F) λi=>j (an P i 45 k) λr=>D (r,i)
def Lz(G:az)(N:Nat):∀ae H,bp P G N (ak (ak (ak (ak (bs Tryd.f69))))) (bk Tryd.f69) [] (bk Tryd.f69) ae H=k8 G (ae 0) (ae 2) (ae 3) (ae 4) H:=by
 refine bL (aJ _) λae H=> ?_
 delta k8;kernel_rfl
def iK(G:az)(ag a:aa)(h:ad):O:=aH h (G 22 [ag] h) λv o=>cf o [I J 0,Y [],I J 0,I J 0] λe i=>a7 i (aV P i 61 e v) λk=>aH k (G 23 [ag,Y [45]] k) λs c=>aW (D s) (k8 G ag a e (I J 12) c) (aH c (G 23 [ag,Y [33]] c) λu d=>aW (D u) (k8 G ag a e (I J 13) d) (aH d (G 83 [ag] d) λp l=>aH l (G 82 [ag,p] l) λq m=>a7 m (aV P m 45 a q) λn=>j (an P n 45 a) λr=>D (r,n)))
def h9(G:az)(ag:aa)(H:ad):O:=cf H [I J 0,I J 0,Y [],Y [],I J 0,aa.ar,I J 0,I J 0,I J 0,I J 0,I J 0] (iK G ag)
def J3(N:Nat){ag:aa}{H:ad}{r:aa×ad}(h:h9 (aC P ay) ag H=D r):aC P ay 69 [ag] H=D r:=cO N (S:=λG=>h9 G ag H) Tryd.func69 (λG=>dN ((aP ah ((aP ah ((aP ah ((aP ah (Lz G N) (aJ _))) (aJ _))) (aJ _))) (aJ _))) (by delta h9 iK;generalize k8 G=a;revert a;refine id ?_;intro a;kernel_rfl)) h
def nF(G:az)(N:Nat)(d c:aa)(H:ad):O:=j (an P H 45 d) λe=>a7 H (aV P H 45 c e) λa=>j (an P a 45 c) λr=>D (r,a)
def LI(G:az)(N:Nat):∀ae H,bp P G N (ak (ak (bs Tryd.f82))) (bk Tryd.f82) [] (bk Tryd.f82) ae H=nF G N (ae 3) (ae 4) H:=by
 refine bL (aJ _) λae H=> ?_
 delta nF;kernel_rfl
def jc(a:aa->aa->aa->ad->O)(ag d e:aa)(c:ad):O:=a ag d e c
def kr(a:aa->aa->aa->ad->O)(ag d e:aa)(c:ad):O:=a ag d e c
def h_(G:az)(p:aa->aa->aa->ad->O)(ag a:aa)(u s:aa)(q:ad):O:=aH q (G 23 [ag,Y [46]] q) λbx h=>aW (D bx) (j (bW ag) λv=>j (aI P 59 v 1) λw=>j (an P h 3 w) λx=>j (aq P .add 3 X x (I J 1)) λy=>j (bW ag) λz=>j (aI P 59 z 1) λA=>a7 h (aV P h 3 A y) λd=>aH d (G 55 [ag] d) λB e=>j (an P e 45 a) λo=>bS e (bV P (e).next 41 1 [(0,o)]) λE c=>j (aI P 61 u 3) λl=>j (an P c 3 l) λm=>j (ch P 45 [(0,(I J 5)),(2,B),(4,E),(5,m)]) λF=>a7 c (aV P c 45 a F) λi=>bif ((bh (an P d 45 a) o&&(bh (an P e 45 a) o&&X))&&((bh (an P d 3 l) m&&(bh (an P e 3 l) m&&(bh (an P c 3 l) m&&X)))&&X))then(jc p ag a s i)else Z) (aH h (G 77 [ag,Y [91]] h) λS d=>aH d (G 40 [ag,I J 0] d) λH e=>cf e [I J 0,I J 0,Y [],Y [],I J 0,aa.ar,I J 0,I J 0,I J 0,I J 0,I J 0] λbo c=>a7 c (aV P c 45 bo H) λi=>aH i (G 79 [ag,Y [93]] i) λT k=>j (an P k 45 a) λK=>j (an P k 45 bo) λL=>bS k (bV P (k).next 41 2 [(0,K),(1,L)]) λM n=>j (aI P 61 u 3) λN=>j (an P n 3 N) λQ=>j (ch P 45 [(0,(I J 6)),(4,M),(5,Q)]) λR=>a7 n (aV P n 45 a R) (kr p ag a s))
def ia(G:az)(d:aa->aa->aa->ad->O)(e ag:aa)(h i c:aa)(a:ad):O:=a7 a (aV P a 61 c e) (h_ G d ag h c i)
def ib(G:az)(a:aa->aa->aa->ad->O)(ag e:aa)(h d:aa)(c:ad):O:=cf c [I J 0,Y [],I J 0,I J 0] (ia G a d ag e h)
def jN(G:az)(c:aa->aa->aa->ad->O)(a:ad)(ag d e:aa):O:=aH a (G 22 [ag] a) (ib G c ag d e)
def qP(G:az)(N:Nat)(i:aa->aa->aa->ad->O)(ag e h:aa)(H:ad):O:=aH H (G 23 [ag,Y [46]] H) λc k=>aQ c U k (ca ag) λl a=>aQ c U a (λq=>eL a (G 23 [l,Y [91]] a) q) λm d=>j (cD c (D (.bool X)) (D m)) λn=>aW (D n) (jN G i d ag e h) (nF G N e h d)
def l6(G:az)(N:Nat):Nat->aa->aa->aa->ad->O
 |0,_,_,_,_=>Z
 |n+1,ag,a,c,H=>qP G N (l6 G N n) ag a c H
def LH(G:az)(N:Nat)(c:aa->aa->aa->ad->O):∀ae H,bp P G N (a6 (a6 (a6 (ak (bs Tryd.f82))))) (λae H=>c (ae 0) (ae 3) (ae 4) H) [(0,(λae H=>nF G N (ae 3) (ae 4) H))] (bk Tryd.f82) ae H=qP G N c (ae 0) (ae 3) (ae 4) H:=by
 refine bL (aJ _) λae H=> ?_
 delta qP jN ib ia h_ kr jc;generalize nF G N=a;revert a;refine id ?_;intro a;kernel_rfl
def ic(G:az)(N:Nat)(ag c d:aa)(a:ad):O:=l6 G N N ag c d a
def ie(G:az)(N:Nat)(ag c:aa)(a:ad):O:=cf a [I J 0,I J 0,Y [],Y [],I J 0,aa.ar,I J 0,I J 0,I J 0,I J 0,I J 0] (ic G N ag c)
def hV(G:az)(N:Nat)(ag aw:aa)(H:ad):O:=bS H (dS (H).next aw) (ie G N ag)
def J9(N:Nat){ag aw:aa}{H:ad}{r:aa×ad}(h:hV (aC P ay) N ag aw H=D r):aC P ay 82 [ag,aw] H=D r:=cO N (S:=λG=>hV G N ag aw H) Tryd.func82 (λG=>dN ((aP ah ((aP ah (LI G N) ((dc ah ((ei (k:=λm ae H=>l6 G N m (ae 0) (ae 3) (ae 4) H) ah (λae H=>ah) (λm=>LH G N (l6 G N m)))))))) (aJ _))) (by delta hV ie ic;generalize l6 G N N=a;revert a;refine id ?_;intro a;kernel_rfl)) h
def nH(G:az)(ag:aa)(H:ad):O:=cf H [I J 0,I J 0,Y [],Y [],I J 0,aa.ar,I J 0,I J 0,I J 0,I J 0,I J 0] λk c=>aH c (G 77 [ag,Y [40]] c) λp d=>aH d (G 40 [ag,I J 0] d) λo m=>cf m [I J 0,I J 0,Y [],Y [],I J 0,aa.ar,I J 0,I J 0,I J 0,I J 0,I J 0] λl e=>a7 e (aV P e 45 l o) λh=>aH h (G 79 [ag,Y [41]] h) λq a=>j (an P a 45 l) λn=>a7 a (aV P a 45 k n) λi=>j (an P i 45 k) λr=>D (r,i)
def Kd(N:Nat){ag:aa}{H:ad}{r:aa×ad}(h:nH (aC P ay) ag H=D r):aC P ay 92 [ag] H=D r:=cO N (S:=λG=>nH G ag H) Tryd.func92 (λ_=>by delta nH;kernel_rfl) h
def kt(G:az)(ag d m:aa)(H:ad):O:=aH H (G 55 [ag] H) λl i=>aH i (G 23 [ag,Y [40]] i) λn c=>j (ff .not n) λo=>aW (D o) (j (aI P 61 m 3) λp=>j (an P c 3 p) λq=>j (ch P 45 [(0,(I J 4)),(2,l),(5,q)]) λs=>a7 c (aV P c 45 d s) λa=>j (an P a 45 d) λr=>D (r,a)) (aH c (G 93 [ag] c) λu a=>j (aI P 61 m 3) λe=>j (an P a 3 e) λh=>j (ch P 45 [(0,(I J 7)),(2,l),(4,u),(5,h)]) λv=>a7 a (aV P a 45 d v) λk=>bif ((bh (an P c 3 e) h&&(bh (an P a 3 e) h&&X))&&X)then(j (an P k 45 d) λr=>D (r,k))else Z)
def LJ(G:az)(N:Nat):∀ae H,bp P G N (ak (ak (ak (bs Tryd.f83)))) (bk Tryd.f83) [] (bk Tryd.f83) ae H=kt G (ae 0) (ae 2) (ae 3) H:=by
 refine bL (aJ _) λae H=> ?_
 delta kt;kernel_rfl
def fT(ag:aa)(c:ad)(h e:aa):O:=j (bW ag) λi=>j (aI P 59 i 1) λk=>j (an P c 3 k) λl=>j (aq P .add 3 X l (I J 1)) λm=>j (bW ag) λn=>j (aI P 59 n 1) λo=>a7 c (aV P c 3 o m) λa=>j (aI P 61 h 2) λp=>j (an P a 3 p) λq=>j (aI P 61 h 3) λs=>j (an P a 3 s) λu=>j (ch P 45 [(0,(I J 1)),(1,q),(5,u)]) λv=>a7 a (aV P a 45 e v) λd=>j (an P d 45 e) λr=>D (r,d)
def nG(G:az)(c d e:aa)(H:ad):O:=j (aI P 61 d 3) λh=>j (an P H 3 h) λi=>j (ch P 45 [(0,(I J 2)),(1,e),(5,i)]) λk=>a7 H (aV P H 45 c k) λa=>j (an P a 45 c) λr=>D (r,a)
def LL(G:az)(N:Nat):∀ae H,bp P G N (ak (ak (ak (a6 (ak (ak (ak (a6 (a6 (ak (ak (bs Tryd.f83)))))))))))) (λae H=>kt G (ae 0) (ae 2) (ae 3) H) [(0,(λae H=>kt G (ae 0) (ae 2) (ae 3) H))] (bk Tryd.f83) ae H=nG G (ae 2) (ae 3) (ae 4) H:=by
 refine bL (aJ _) λae H=> ?_
 delta nG;kernel_rfl
def fU(G:az)(ag:aa)(H:ad)(c d:aa):O:=j (bW ag) λe=>j (aI P 59 e 1) λh=>j (an P H 3 h) λi=>j (aq P .add 3 X i (I J 1)) λk=>j (bW ag) λl=>j (aI P 59 l 1) λm=>a7 H (aV P H 3 m k) λa=>j (aI P 61 c 1) λn=>j (an P a 9 n) λo=>j (aq P .eql 9 X o (Y [116,114,117,101])) λp=>aW (D p) (nG G d c (I J 1) a) (nG G d c (I J 0) a)
def fV(G:az)(ag:aa)(c:ad)(l k:aa):O:=j (bW ag) λm=>j (aI P 59 m 1) λn=>j (an P c 3 n) λo=>j (aq P .add 3 X o (I J 1)) λp=>j (bW ag) λq=>j (aI P 59 q 1) λs=>a7 c (aV P c 3 s p) λd=>aH d (G 53 [ag] d) λu a=>j (aI P 61 l 3) λe=>j (an P a 3 e) λh=>j (ch P 45 [(0,(I J 3)),(3,u),(5,h)]) λv=>a7 a (aV P a 45 k v) λi=>bif ((bh (an P d 3 e) h&&(bh (an P a 3 e) h&&X))&&X)then(j (an P i 45 k) λr=>D (r,i))else Z
def fW(G:az)(ag:aa)(a:ad)(i h:aa):O:=j (bW ag) λk=>j (aI P 59 k 1) λl=>j (an P a 3 l) λm=>j (aq P .add 3 X m (I J 1)) λn=>j (bW ag) λo=>j (aI P 59 o 1) λp=>a7 a (aV P a 3 p n) λc=>j (aI P 61 i 3) λq=>j (an P c 3 q) λs=>aH c (G 91 [ag,s] c) λu d=>a7 d (aV P d 45 h u) λe=>j (an P e 45 h) λr=>D (r,e)
def fX(G:az)(ag:aa)(e:ad)(m l:aa):O:=j (bW ag) λn=>j (aI P 59 n 1) λo=>j (an P e 3 o) λp=>j (aq P .add 3 X p (I J 1)) λq=>j (bW ag) λs=>j (aI P 59 s 1) λu=>a7 e (aV P e 3 u q) λh=>aH h (G 92 [ag] h) λv i=>bS i (bV P (i).next 41 1 [(0,v)]) λw a=>j (aI P 61 m 3) λc=>j (an P a 3 c) λd=>j (ch P 45 [(0,(I J 10)),(4,w),(5,d)]) λx=>a7 a (aV P a 45 l x) λk=>bif ((bh (an P h 3 c) d&&(bh (an P i 3 c) d&&(bh (an P a 3 c) d&&X)))&&X)then(j (an P k 45 l) λr=>D (r,k))else Z
def fH(G:az)(ag:aa)(a:ad)(p i:aa):O:=j (bW ag) λq=>j (aI P 59 q 1) λs=>j (an P a 3 s) λu=>j (aq P .add 3 X u (I J 1)) λv=>j (bW ag) λk=>j (aI P 59 k 1) λl=>a7 a (aV P a 3 l v) λd=>aH d (G 77 [ag,Y [40]] d) λw e=>aH e (G 79 [ag,Y [41]] e) λx c=>j (aI P 61 p 3) λm=>j (an P c 3 m) λn=>j (ch P 45 [(0,(I J 11)),(5,n)]) λo=>a7 c (aV P c 45 i o) λh=>j (an P h 45 i) λr=>D (r,h)
def fr(G:az)(a:ad)(ag e:aa):O:=aH a (G 92 [ag] a) λh c=>a7 c (aV P c 45 e h) λd=>j (an P d 45 e) λr=>D (r,d)
def fI(G:az)(ag c d:aa)(a:ad):O:=kt G ag c d a
def fs(G:az)(ag c:aa)(e d:aa)(a:ad):O:=aW (D d) (fr G a ag c) (fI G ag c e a)
def fJ(G:az)(a:ad)(ag c d:aa):O:=aH a (G 23 [ag,Y [40]] a) (fs G ag c d)
def ft(G:az)(ag d:aa)(c e:aa)(a:ad):O:=aW (D e) (fH G ag a d c) (fJ G a ag c d)
def fK(G:az)(a:ad)(ag d c:aa):O:=aH a (G 23 [ag,Y [114,101,97,100]] a) (ft G ag d c)
def fu(G:az)(ag d:aa)(c e:aa)(a:ad):O:=aW (D e) (fX G ag a d c) (fK G a ag d c)
def fL(G:az)(a:ad)(ag d c:aa):O:=aH a (G 23 [ag,Y [108,101,110]] a) (fu G ag d c)
def fv(G:az)(ag d:aa)(c e:aa)(a:ad):O:=aW (D e) (fW G ag a d c) (fL G a ag d c)
def fM(G:az)(a:ad)(ag d c:aa):O:=aH a (G 23 [ag,Y [110,101,119]] a) (fv G ag d c)
def fw(G:az)(ag d:aa)(c e:aa)(a:ad):O:=aW (D e) (fV G ag a d c) (fM G a ag d c)
def fx(G:az)(H:ad)(ag c a:aa):O:=aH H (G 23 [ag,Y [110,117,108,108]] H) (fw G ag c a)
def l7(G:az)(ag a:aa)(c d:aa)(H:ad):O:=aW (D d) (fU G ag H c a) (fx G H ag c a)
def LK(G:az)(N:Nat):∀ae H,bp P G N (ak (ak (ak (a6 (a6 (ak (ak (bs Tryd.f83)))))))) (λae H=>kt G (ae 0) (ae 2) (ae 3) H) [(0,(λae H=>kt G (ae 0) (ae 2) (ae 3) H))] (bk Tryd.f83) ae H=l7 G (ae 0) (ae 2) (ae 3) (ae 28) H:=by
 refine bL ((dt ah ((aP ah ((aP ah ((aP ah (LL G N) (aJ _))) (aJ _))) (aJ _))) (aJ _))) λae H=> ?_
 delta l7 fx fw fM fv fL fu fK ft fJ fs fI fr fH fX fW fV fU;generalize kt G=a;generalize nG G=c;revert a c;refine id ?_;intro a c;kernel_rfl
def fN(G:az)(ag c:aa)(d e:aa)(a:ad):O:=l7 G ag c d e a
def fy(G:az)(ag c:aa)(d e:aa)(a:ad):O:=l7 G ag c d e a
def fO(G:az)(a:ad)(ag c d:aa):O:=aH a (G 23 [ag,Y [102,97,108,115,101]] a) (fy G ag c d)
def fz(G:az)(ag c:aa)(d e:aa)(a:ad):O:=aW (D e) (fN G ag c d e a) (fO G a ag c d)
def fA(G:az)(a:ad)(ag c d:aa):O:=aH a (G 23 [ag,Y [116,114,117,101]] a) (fz G ag c d)
def e5(G:az)(ag:aa)(a:ad)(d c e:aa):O:=aW (D e) (fT ag a d c) (fA G a ag c d)
def e6(G:az)(c ag:aa)(h e d:aa)(a:ad):O:=j (cD c (D d) (D (.bool U))) (e5 G ag a h e)
def e7(G:az)(a ag:aa)(h e d:aa)(c:ad):O:=aQ a X c (bz (aq P .eql 3 X d (I J 2))) (e6 G a ag h e)
def e8(G:az)(c ag:aa)(h e d:aa)(a:ad):O:=aQ c X a (qr (an P a 3 d)) (e7 G c ag h e)
def e9(G:az)(c ag:aa)(e a:aa)(d:ad):O:=aQ a X d (bz (aI P 61 c 0)) (e8 G a ag c e)
def fP(G:az)(ag d c:aa)(a:ad):O:=aH a (G 21 [ag] a) (e9 G d ag c)
def fQ(G:az)(e ag:aa)(d c:aa)(a:ad):O:=a7 a (aV P a 61 c e) (fP G ag c d)
def fR(G:az)(ag c d:aa)(a:ad):O:=cf a [I J 0,Y [],I J 0,I J 0] (fQ G d ag c)
def fS(G:az)(ag c:aa)(a:ad):O:=aH a (G 22 [ag] a) (fR G ag c)
def fq(G:az)(ag:aa)(H:ad):O:=cf H [I J 0,I J 0,Y [],Y [],I J 0,aa.ar,I J 0,I J 0,I J 0,I J 0,I J 0] (fS G ag)
def J_(N:Nat){ag:aa}{H:ad}{r:aa×ad}(h:fq (aC P ay) ag H=D r):aC P ay 83 [ag] H=D r:=cO N (S:=λG=>fq G ag H) Tryd.func83 (λG=>dN ((aP ah ((aP ah ((aP ah (LJ G N) ((dc ah ((aP ah ((dt ah (aJ _) ((aP ah (LK G N) (aJ _))))) (aJ _))))))) (aJ _))) (aJ _))) (by delta fq fS fR fQ fP e9 e8 e7 e6 e5 fA fz fO fy fN fT;generalize l7 G=a;revert a;refine id ?_;intro a;kernel_rfl)) h
def ku(G:az)(ag aw:aa)(H:ad):O:=cf H [I J 0,I J 0,Y [],Y [],I J 0,aa.ar,I J 0,I J 0,I J 0,I J 0,I J 0] λk n=>aH n (G 23 [ag,Y [91]] n) λL a=>j (ff .not L) λM=>aW (D M) (aH a (G 55 [ag] a) λs c=>j (ch P 40 [(0,s)]) λu=>j (ch P 45 [(0,(I J 8)),(3,u),(5,aw)]) λv=>a7 c (aV P c 45 k v) λe=>j (an P e 45 k) λr=>D (r,e)) (j (bW ag) λw=>j (aI P 59 w 1) λbx=>j (an P a 3 bx) λx=>j (aq P .add 3 X x (I J 1)) λy=>j (bW ag) λz=>j (aI P 59 z 1) λA=>a7 a (aV P a 3 A y) λc=>aH c (G 53 [ag] c) λB e=>cf e [Y [],I J 0] λd p=>a7 p (aV P p 40 d B) λq=>aH q (G 27 [ag,Y [93]] q) λN l=>aH l (G 92 [ag] l) λE h=>j (an P h 40 d) λi=>bS h (bV P (h).next 41 1 [(0,E)]) λF m=>j (ch P 45 [(0,(I J 9)),(3,i),(4,F),(5,aw)]) λK=>a7 m (aV P m 45 k K) λo=>bif ((bh (an P l 40 d) i&&(bh (an P h 40 d) i&&(bh (an P m 40 d) i&&X)))&&X)then(j (an P o 45 k) λr=>D (r,o))else Z)
def Kc(N:Nat){ag aw:aa}{H:ad}{r:aa×ad}(h:ku (aC P ay) ag aw H=D r):aC P ay 91 [ag,aw] H=D r:=cO N (S:=λG=>ku G ag aw H) Tryd.func91 (λ_=>by delta ku;kernel_rfl) h
def hz(G:az)(N:Nat)(ag c:aa)(H:ad):O:=aH H (G 79 [ag,Y [41]] H) λd a=>D (c,a)
def LS(G:az)(N:Nat):∀ae H,bp P G N (ak (ak (ak (ak (ak (ak (bs Tryd.f93))))))) (bk Tryd.f93) [] (bk Tryd.f93) ae H=hz G N (ae 0) (ae 3) H:=by
 refine bL (aJ _) λae H=> ?_
 delta hz;kernel_rfl
def nI(G:az)(N:Nat)(i:aa->aa->ad->O)(ag h:aa)(H:ad):O:=aH H (G 23 [ag,Y [44]] H) λbx a=>aW (D bx) (j (bW ag) λl=>j (aI P 59 l 1) λm=>j (an P a 3 m) λn=>j (aq P .add 3 X n (I J 1)) λo=>j (bW ag) λp=>j (aI P 59 p 1) λq=>a7 a (aV P a 3 q o) λc=>aH c (G 40 [ag,I J 0] c) λs d=>bS d (bV P (d).next 41 1 [(0,s)]) λu e=>aH e (cQ P e [41,41] h u) λv k=>i ag v k) (hz G N ag h a)
def nJ(G:az)(N:Nat):Nat->aa->aa->ad->O
 |0,_,_,_=>Z
 |n+1,ag,a,H=>nI G N (nJ G N n) ag a H
def LR(G:az)(N:Nat)(c:aa->aa->ad->O):∀ae H,bp P G N (a6 (a6 (a6 (ak (ak (ak (ak (ak (bs Tryd.f93))))))))) (λae H=>c (ae 0) (ae 3) H) [(0,(λae H=>hz G N (ae 0) (ae 3) H))] (bk Tryd.f93) ae H=nI G N c (ae 0) (ae 3) H:=by
 refine bL (aJ _) λae H=> ?_
 delta nI;generalize hz G N=a;revert a;refine id ?_;intro a;kernel_rfl
def hW(G:az)(N:Nat)(ag:aa)(H:ad):O:=aH H (G 77 [ag,Y [40]] H) λm d=>aH d (G 23 [ag,Y [41]] d) λl a=>aW (D l) (aH a (G 79 [ag,Y [41]] a) λn c=>D (aa.ar,c)) (aH a (G 40 [ag,I J 0] a) λi c=>bS c (bV P (c).next 41 1 [(0,i)]) λj e=>aH e (cQ P e [41,41] aa.ar j) λk h=>nJ G N N ag k h)
def Ke(N:Nat){ag:aa}{H:ad}{r:aa×ad}(h:hW (aC P ay) N ag H=D r):aC P ay 93 [ag] H=D r:=cO N (S:=λG=>hW G N ag H) Tryd.func93 (λG=>dN ((aP ah ((aP ah ((aP ah ((aP ah ((aP ah ((aP ah (LS G N) ((dc ah ((ei (k:=λm ae H=>nJ G N m (ae 0) (ae 3) H) ah (λae H=>ah) (λm=>LR G N (nJ G N m)))))))) (aJ _))) (aJ _))) (aJ _))) (aJ _))) (aJ _))) (by delta hW;generalize nJ G N N=a;revert a;refine id ?_;intro a;kernel_rfl)) h
