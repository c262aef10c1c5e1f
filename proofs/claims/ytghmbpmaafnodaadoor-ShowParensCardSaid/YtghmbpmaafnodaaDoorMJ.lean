/-
  Texts of one proof, laid together: Pv Pw ShC.
-/
import Derived.Test.YtghmbpmaafnodaaDoorMI
set_option linter.unusedVariables false
set_option linter.unusedSimpArgs false
set_option linter.defProp false
open Option renaming some→D,none→Z
open Bool renaming true→X,false→U
open Go.b9.aa renaming int→I,str→Y
open Go.IntKind renaming i64→J
namespace Go.Proofs.YtghmbpmaafnodaaDoor
open Go.b9
def py(w:aJ):Prop:=∀b r,w=b::r->ey b=U/\eu b=U
def q8(l:List bN):Prop:=∀r,py (flat r)->py (flat (l++r))
def hZ(l:List bN):Prop:=∀t∈hd l,t.pos=0
structure gz(l:List bN):Prop where
 z:hZ l
 k:∀r,nQ r->py (flat r)->nQ (l++r)
structure hD(l:List bN):Prop where
 z:hZ l
 k:∀r,nQ r->nQ (l++r)
def hZ.app{l m:List bN}(h:hZ l)(ba:hZ m):hZ (l++m):=by
 intro t a;rw[wg,List.mem_append]at a;exact a.elim (h t) (ba t)
def hZ.tok{t:Tok}{l:List bN}(h:t.pos=0)(ba:hZ l):hZ (.t t::l):=by
 intro u hu;rw[hd,List.mem_cons]at hu;rcases hu with rfl|hu
 ·exact h
 ·exact ba u hu
def gz.nil:gz []:=⟨λt a=>(List.not_mem_nil a).elim,λr h _=>h⟩
def hD.nil:hD []:=⟨λt a=>(List.not_mem_nil a).elim,λr h=>h⟩
def gz.app{l m:List bN}(h:gz l)(ba:gz m)(c:q8 m):gz (l++m):=
 ⟨h.z.app ba.z,λr d a=>by rw[List.append_assoc];exact h.k _ (ba.k r d a) (c r a)⟩
def hD.app{l m:List bN}(h:hD l)(ba:hD m):hD (l++m):=
 ⟨h.z.app ba.z,λr a=>by rw[List.append_assoc];exact h.k _ (ba.k r a)⟩
def hD.b{s:aJ}{l:List bN}(aB:s.all iB=X)(h:hD l):hD (.b s::l):=⟨h.z,λr a=>⟨aB,h.k r a⟩⟩
def gz.b{s:aJ}{l:List bN}(aB:s.all iB=X)(h:gz l):gz (.b s::l):=⟨h.z,λr c a=>⟨aB,h.k r c a⟩⟩
def wY(x:aJ):Prop:=jZ ⟨4,x,0,0⟩/\∀b,qj ⟨4,x,0,0⟩ b=X
def BX{t:Tok}(h:∀b,qj t b=X):∀w,rW t w=X
 |[]=>rfl
 |b::_=>h b
def hD.bQ{x:aJ}{l:List bN}(a:wY x)(h:hD l):hD (bQ x::l):=⟨hZ.tok rfl h.z,λr c=>⟨a.1,BX a.2 _,h.k r c⟩⟩
def gz.bQ{x:aJ}{l:List bN}(a:wY x)(h:gz l):gz (bQ x::l):=⟨hZ.tok rfl h.z,λr d c=>⟨a.1,BX a.2 _,h.k r d c⟩⟩
def Fg(x:aJ):Prop:=jZ ⟨4,x,0,0⟩/\qj ⟨4,x,0,0⟩ 32=X
def gz.op{x:aJ}{l:List bN}(a:Fg x)(h:gz l):gz (Go.Proofs.YtghmbpmaafnodaaDoor.bQ x::ct::l):=⟨hZ.tok rfl h.z,λr d c=>⟨a.1,a.2,⟨cp,h.k r d c⟩⟩⟩
def BY{t:Tok}(d:(t.kind==4)=U){w:aJ}(h:py w):rW t w=true:=by
 cases w with
 |nil=>rfl
 |cons b r=>
  obtain⟨a,c⟩:=h b r rfl;rw[rW,qj,d,aT,a,c];rfl
def gz.tok{t:Tok}{l:List bN}(j:jZ t)(d:(t.kind==4)=U)(c:t.pos=0)(h:gz l)(e:q8 l):gz (.t t::l):=⟨hZ.tok c h.z,λr i a=>⟨j,BY d (e r a),h.k r i a⟩⟩
def hD.tok{t:Tok}{l:List bN}(i:jZ t)(c:(t.kind==4)=U)(a:t.pos=0)(h:hD l)(d:∀r,py (flat (l++r))):hD (.t t::l):=⟨hZ.tok a h.z,λr e=>⟨i,BY c (d r),h.k r e⟩⟩
def q8.nil:q8 []:=λ_ h=>h
def ta(l:List bN):Prop:=∀r,∃b w,flat (l++r)=b::w/\b≠61
def ta.app{l:List bN}(h:ta l)(m:List bN):ta (l++m):=λr=>by rw[List.append_assoc];exact h _
def lj(l:List Fn):Nat:=(l.map λf=>du f.body).sum
def MP(l:List Fn)(f:Fn):lj (l++[f])=lj l+du f.body:=by simp[lj]
structure wH(a:Int)(g:dm):Prop where
 mY:∀x∈g.da,nS x
 di:∀x∈g.globals,gA x
 cq:∀x∈g.funcs,nR x
 gl:g.da.length<=12
 mJ:g.globals.length<=8
 ou:g.funcs.length<=16
 w:(lj g.funcs:Int)<=400*a
section
variable {T:List Tok}{E:Int}{s s' s2:aw}
def vm(aE:Good T E)(e:cJ E s)(h:(dD T s).2.aF=0):gA (dD T s).1/\bR E s (dD T s).2 1:=by
 obtain⟨a,c,d⟩:=Ez aE e h;exact⟨⟨a,c⟩,d.less af⟩
def pH{α:Type}{p:α->Prop}{l:List α}{x:α}(h:∀y∈l,p y)(c:p x):∀y∈l++[x],p y:=by
 intro y a;rcases List.mem_append.1 a with a|a
 ·exact h y a
 ·simp only[List.mem_cons,List.not_mem_nil,or_false]at a;subst a;exact c
def zp(aE:Good T E):∀(n:Nat) (l:List b7) (s:aw) (p:List b7×aw),cJ E s->(s.aF=0->l.length<=8/\∀x∈l,gA x)->oa T n l s=D p->p.2.aF=0->bR E s p.2 0/\p.1.length<=8/\∀x∈p.1,gA x
 |0,_,_,_,_,_,h,_=>by cases h
 |n+1,l,s,p,d,he,h,aG=>by
  rw[oa]at h;cases e:(s.aF==0&& !a1 T s [125])with
  |false=>
   rw[e,aT]at h;cases h;exact⟨.refl (d aG) aG,he aG⟩
  |true=>
   rw[e,aY]at h;simp only[Bool.and_eq_true,beq_iff_eq]at e;obtain⟨F,u⟩:=he e.1;cases i:((au T s.at_).kind==1&&l.length==8)with
   |true=>
    rw[i,aY]at h;cases h;exact absurd aG (eT cp)
   |false=>
    rw[i,aT]at h;have o:=λa=>vm aE d a
    have ip:cJ E (dD T s).2:=bR.to d (λc=>(o c).2) af;have t1:=λa=>eB aE (x:=[59]) ip a
    have it:cJ E (bl T [59] (dD T s).2):=bR.to ip (λc=>(t1 c).2.2) af;obtain⟨aZ,z,A⟩:=zp aE n _ _ p it (λa=>by
     obtain⟨-,-,dK⟩:=t1 a;obtain⟨B,H⟩:=o dK.f;have y:(au T s.at_).kind=1:=by
      have k:(bu T s).2.aF=0:=by
       have v:(dX T s).2.aF=0:=dK.f;have q:=λa=>j9 aE d a
       have j:=λa=>eB aE (s:=(bu T s).2) (x:=[58]) (bR.to d (λc=>(q c).2) af) a
       have b3:=oy aE (s:=bl T [58] (bu T s).2) (bR.to d (λc=>(q (j c).2.2.f).2.trans (j c).2.2) af) v;exact(j b3.2.f).2.2.f
      unfold bu at k;cases m:(s.aF==0&&(au T s.at_).kind==1)with
      |true=>simp only[Bool.and_eq_true,beq_iff_eq]at m;exact m.2
      |false=>rw[m,aT]at k;exact absurd k (eT cp)
     have G:l.length≠8:=by
      intro w;rw[y,w]at i;simp at i
     exact⟨by rw[List.length_append,List.length_singleton];omega,pH u B⟩) h aG
    obtain⟨-,-,dK⟩:=t1 aZ.f;exact⟨(((o dK.f).2.trans dK).trans aZ).less af,z,A⟩
def GC(aE:Good T E)(c:cJ E s)(h:(lA T s).aF=0):bR E s (lA T s) 1:=by
 unfold lA at h ⊢;cases a:a1 T (bl T [44] s) [41]with
 |true=>rw[a,aY]at h;exact absurd h (eT cp)
 |false=>rw[a,aT]at h;rw[aT];exact(eB aE c h).2.2
def Ce(aE:Good T E):∀(n:Nat) (l:List b7) (s:aw) (p:List b7×aw),cJ E s->(s.aF=0->l.length<=6/\∀x∈l,gA x)->oC T n l s=D p->p.2.aF=0->bR E s p.2 0/\p.1.length<=6/\∀x∈p.1,gA x
 |0,_,_,_,_,_,h,_=>by cases h
 |n+1,l,s,p,c,he,h,aG=>by
  rw[oC]at h;cases i:(s.aF==0&& !a1 T s [41])with
  |false=>
   rw[i,aT]at h;cases h;exact⟨.refl (c aG) aG,he aG⟩
  |true=>
   rw[i,aY]at h;simp only[Bool.and_eq_true,beq_iff_eq]at i;obtain⟨G,v⟩:=he i.1;cases j:((au T s.at_).kind==1&&l.length==6)with
   |true=>
    rw[j,aY]at h;cases h;exact absurd aG (eT cp)
   |false=>
    rw[j,aT]at h;have q:=λa=>vm aE c a
    have ip:cJ E (dD T s).2:=bR.to c (λe=>(q e).2) af;have m:∀a:(bif a1 T (dD T s).2 [41]then(dD T s).2 else lA T (dD T s).2).aF=0,bR E (dD T s).2 (bif a1 T (dD T s).2 [41]then(dD T s).2 else lA T (dD T s).2) 0:=by
     intro a;cases d:a1 T (dD T s).2 [41]with
     |true=>rw[d,aY]at a;rw[aY];exact .refl (ip a) a
     |false=>rw[d,aT]at a;rw[aT];exact(GC aE ip a).less af
    have it:cJ E (bif a1 T (dD T s).2 [41]then(dD T s).2 else lA T (dD T s).2):=bR.to ip m af;obtain⟨aZ,A,B⟩:=Ce aE n _ _ p it (λa=>by
     have dK:=m a;obtain⟨F,K⟩:=q dK.f;have z:(au T s.at_).kind=1:=by
      have o:(bu T s).2.aF=0:=by
       have w:(dX T s).2.aF=0:=dK.f;have u:=λa=>j9 aE c a
       have k:=λa=>eB aE (s:=(bu T s).2) (x:=[58]) (bR.to c (λe=>(u e).2) af) a
       have b3:=oy aE (s:=bl T [58] (bu T s).2) (bR.to c (λe=>(u (k e).2.2.f).2.trans (k e).2.2) af) w;exact(k b3.2.f).2.2.f
      unfold bu at o;cases d:(s.aF==0&&(au T s.at_).kind==1)with
      |true=>simp only[Bool.and_eq_true,beq_iff_eq]at d;exact d.2
      |false=>rw[d,aT]at o;exact absurd o (eT cp)
     have H:l.length≠6:=by
      intro y;rw[z,y]at j;simp at j
     exact⟨by rw[List.length_append,List.length_singleton];omega,pH v F⟩) h aG
    have dK:=m aZ.f;exact⟨(((q dK.f).2.trans dK).trans aZ).less af,A,B⟩
def I8(aE:Good T E){n:Nat}{p:e0×aw}(e:cJ E s)(h:mU T n s=D p)(aG:p.2.aF=0):bR E s p.2 1/\nS p.1:=by
 unfold mU at h;obtain⟨q,g1,g2⟩:=fi h;cases g2;have i:=λa=>j9 aE e a
 have i1:cJ E (bu T s).2:=bR.to e (λc=>(i c).2) af;have t1:=λa=>eB aE (x:=[123]) i1 a
 have i2:cJ E (bl T [123] (bu T s).2):=bR.to i1 (λc=>(t1 c).2.2) af;have f1:=λa=>zp aE n [] _ q i2 (λ_=>⟨by simp,λx l=>by cases l⟩) g1 a
 have i3:cJ E q.2:=bR.to i2 (λc=>(f1 c).1) af;obtain⟨-,-,z⟩:=eB aE (x:=[125]) i3 aG;obtain⟨aR,a2,a3⟩:=f1 z.f;obtain⟨-,-,d⟩:=t1 aR.f;obtain⟨j,k⟩:=i d.f;exact⟨((((k.trans d).trans aR).trans z)).less af,⟨j,a2,a3⟩⟩
def Jc(aE:Good T E)(d:cJ E s)(h:(gq T s).2.aF=0):bR E s (gq T s).2 0/\(((gq T s).1.1=X/\jW (gq T s).1.2.1 (gq T s).1.2.2)\/((gq T s).1.1=U/\(gq T s).1.2.1=[]/\(gq T s).1.2.2=0)):=by
 unfold gq at h ⊢;cases c:a1 T s [58]with
 |true=>
  rw[c,aY]at h;rw[aY];have g:=fk aE (d (dW c).1) c;obtain⟨a,b⟩:=oy aE (g.fD d af) h;exact⟨(g.trans b).less af,.inl ⟨rfl,a⟩⟩
 |false=>
  rw[c,aT]at h;rw[aT];exact⟨.refl (d h) h,.inr ⟨rfl,rfl,rfl⟩⟩
def Hi(aE:Good T E)(y:mg T){n:Nat}{p:Fn×aw}(o:cJ E s)(h:mE T n s=D p)(aG:p.2.aF=0):bR E s p.2 1/\nR p.1/\(du p.1.body:Int)<=400*(p.2.at_-s.at_):=by
 unfold mE at h;obtain⟨q,g1,g2⟩:=fi h;obtain⟨b,g3,g4⟩:=fi g2;cases g4;have u:=λe=>j9 aE o e
 have i1:cJ E (bu T s).2:=bR.to o (λi=>(u i).2) af;have t1:=λe=>eB aE (x:=[40]) i1 e
 have i2:cJ E (bl T [40] (bu T s).2):=bR.to i1 (λi=>(t1 i).2.2) af;have f1:=λe=>Ce aE n [] _ q i2 (λ_=>⟨by simp,λx z=>by cases z⟩) g1 e
 have i3:cJ E q.2:=bR.to i2 (λi=>(f1 i).1) af;have t2:=λe=>eB aE (x:=[41]) i3 e
 have i4:cJ E (bl T [41] q.2):=bR.to i3 (λi=>(t2 i).2.2) af;have v:=λe=>Jc aE i4 e
 have i5:cJ E (gq T (bl T [41] q.2)).2:=bR.to i4 (λi=>(v i).1) af;obtain⟨k,F,d,G,A⟩:=(Cl aE y n).block _ b i5 g3 aG;obtain⟨m1,m2⟩:=v k.f;obtain⟨-,-,l⟩:=t2 m1.f;obtain⟨aR,a2,a3⟩:=f1 l.f;obtain⟨-,-,j⟩:=t1 aR.f;obtain⟨w,m⟩:=u j.f;have B:=(i5 k.f).c;have av:=m.a;have H:=j.a;have K:=aR.a;have L:=l.a;have M:=m1.a;exact⟨(((((m.trans j).trans aR).trans l).trans m1).trans k).less af,⟨w,a2,a3,m2,d,af,A⟩,by simp only;omega⟩
def oE(aE:Good T E)(m:mg T)(N:Nat):∀(n:Nat) (g:dm) (s:aw) (p:dm×aw),cJ E s->(s.aF=0->wH s.at_ g)->gX T N n g s=D p->p.2.aF=0->wH p.2.at_ p.1/\p.2.at_<=E
 |0,_,_,_,_,_,h,_=>by cases h
 |n+1,g,s,p,i,he,h,aG=>by
  rw[gX]at h;cases k:(s.aF==0&&(au T s.at_).kind != 0)with
  |false=>
   rw[k,aT]at h;cases h;exact⟨he aG,(i aG).b⟩
  |true=>
   rw[k,aY]at h;simp only[Bool.and_eq_true,beq_iff_eq]at k;have G:=he k.1;cases hm:((isRec T s&&g.da.length==12)||((jB T s&&g.globals.length==8)||(isFun T s&&g.funcs.length==16)))with
   |true=>
    rw[hm,aY]at h;exact oE aE m N n g _ p (λd=>absurd d (eT cp)) (λd=>absurd d (eT cp)) h aG
   |false=>
    rw[hm,aT]at h;simp only[Bool.or_eq_false_iff]at hm;cases u:isRec T s with
    |true=>
     rw[u,aY]at h;obtain⟨q,g1,g2⟩:=fi h;have e:=fk aE (i k.1) u;have j:=λd=>I8 aE (e.fD i af) g1 d
     have A:=e.a;have H:g.da.length≠12:=by
      intro o;have:=hm.1;rw[u,o]at this;simp at this
     have:=G.gl;refine oE aE m N n _ q.2 p (bR.to (e.fD i af) (λl=>(j l).1) af) (λd=> ?_) g2 aG;obtain⟨a,b⟩:=j d;have:=a.a;have:=G.w;exact⟨pH G.mY b,G.di,G.cq,by rw[List.length_append,List.length_singleton];omega,G.mJ,G.ou,by simp only;omega⟩
    |false=>
     rw[u,aT]at h;cases v:jB T s with
     |true=>
      rw[v,aY]at h;have e:=fk aE (i k.1) v;have A:=e.a;have B:=e.fD i af;have j:=λd=>vm aE B d
      have F:cJ E (dD T (aD s)).2:=bR.to B (λl=>(j l).2) af;have t1:=λd=>eB aE (x:=[59]) F d
      have L:g.globals.length≠8:=by
       intro o;have:=hm.2.1;rw[v,o]at this;simp at this
      have:=G.mJ;refine oE aE m N n _ _ p (bR.to F (λl=>(t1 l).2.2) af) (λd=> ?_) h aG;obtain⟨-,-,z⟩:=t1 d;obtain⟨a,b⟩:=j z.f;have:=z.a;have:=b.a;have:=G.w;exact⟨G.mY,pH G.di a,G.cq,G.gl,by rw[List.length_append,List.length_singleton];omega,G.ou,by simp only;omega⟩
     |false=>
      rw[v,aT]at h;cases y:isFun T s with
      |true=>
       rw[y,aY]at h;obtain⟨q,g1,g2⟩:=fi h;have e:=fk aE (i k.1) y;have j:=λd=>Hi aE m (e.fD i af) g1 d
       have A:=e.a;have K:g.funcs.length≠16:=by
        intro o;have:=hm.2.2;rw[y,o]at this;simp at this
       have:=G.ou;refine oE aE m N n _ q.2 p (bR.to (e.fD i af) (λl=>(j l).1) af) (λd=> ?_) g2 aG;obtain⟨a,b,c⟩:=j d;have:=a.a;have:=G.w;exact⟨G.mY,G.di,pH G.cq b,G.gl,G.mJ,by rw[List.length_append,List.length_singleton];omega,by simp only;rw[MP];omega⟩
      |false=>
       rw[y,aT]at h;exact oE aE m N n g _ p (λd=>absurd d (eT cp)) (λd=>absurd d (eT cp)) h aG
end
def c_(x:aJ)(r:List bN):(flat (bQ x::r)).length=x.length+(flat r).length:=by rw[flat,List.length_append];rfl
def hn(x:aJ)(r:List bN):(flat (wd x::r)).length=x.length+(flat r).length:=by rw[flat,List.length_append];rfl
def lI(x:aJ)(r:List bN):(flat (ch x::r)).length=x.length+(flat r).length:=by rw[flat,List.length_append];rfl
def h6(x:aJ)(r:List bN):(flat (.b x::r)).length=x.length+(flat r).length:=by rw[flat,List.length_append];rfl
def ew(r:List bN):(flat (ct::r)).length=1+(flat r).length:=h6 [32] r
def i_(r:List bN):(flat (nl::r)).length=1+(flat r).length:=h6 [10] r
def cW(a b:List bN):(flat (a++b)).length=(flat a).length+(flat b).length:=by rw[c3,List.length_append]
def eF:(flat []).length=0:=rfl
def uU(x:aJ):∀n,(flat (rep n (bQ x))).length=n*x.length
 |0=>by simp[rep,flat]
 |n+1=>by have:=uU x n;unfold rep at this ⊢;rw[List.replicate_succ,c_,this,Nat.succ_mul];omega
def iD(x:aJ)(z:Int):(flat (cX x z)).length=2*z.toNat+x.length:=by
 have e:(flat (q0 x::rep z.toNat (bQ [93]))).length=x.length+(flat (rep z.toNat (bQ [93]))).length:=by
  unfold q0;cases jn x
  ·exact lI _ _
  ·exact hn _ _
 unfold cX;rw[cW,e,uU,uU];simp only[List.length_cons,List.length_nil];omega
def uW{k:Int}(h:14<=k)(ba:k<=24):(gv k).length<=2:=by
 have a:k=14\/k=15\/k=16\/k=17\/k=18\/k=19\/k=20\/k=21\/k=22\/k=23\/k=24:=af;rcases a with rfl|rfl|rfl|rfl|rfl|rfl|rfl|rfl|rfl|rfl|rfl<;>decide
def p7(m:Nat)(e:aL):(flat (cl m e)).length<=(flat (bm e)).length+2:=by
 by_cases h:e.cr<m
 ·rw[vj h,c_,cW,c_,eF];simp only[List.length_cons,List.length_nil];omega
 ·rw[r1 h];omega
def A7:∀l:List aL,(∀e∈l,(flat (bm e)).length+4<=cE e)->(flat (eA (c7 l))).length<=b0 l
 |[],_=>by simp[c7,eA,flat,b0]
 |[e],h=>by rw[mP];have:=h e (by simp);simp only[eA,b0];omega
 |e::f::r,h=>by
  have i:=h e (by simp);have c:=A7 (f::r) λx d=>h x (List.mem_cons_of_mem _ d)
  rw[c7]at c;rw[c7,c7,eA,cW,c_,ew,b0]
  ·simp only[List.length_cons,List.length_nil];omega
  ·intro a;cases a
def H8{n p:Int}:(flat [.t ⟨2,[],n,p⟩]).length<=20:=by
 have:=yc 20 n.toNat [];simpa [flat,bN.sW,sX]using this
def om{d m:Nat}{e:aL}(h:cm d m e):(flat (bm e)).length+4<=cE e:=by
 induction h with
 |par _ _ _ c=>exact c
 | @int d m n p _ _ _=>
  rw[eH,cE,b0];have:(flat (kR {kind:=1,n:=n,pos:=p} (c7 []))).length<=20:=H8 (p:=0);simp only[List.length_nil];omega
 | @bool d m n p _ h=>
  rw[eH,cE,b0];have:(flat (kR {kind:=2,n:=n,pos:=p} (c7 []))).length<=5:=by
   rcases h with rfl|rfl
   ·exact bk 5
   ·exact(by decide:4<=5)
  simp only[List.length_nil];omega
 | @null d m x z p _ h=>
  rw[eH,cE,b0];have:(flat (kR {kind:=3,cf:=x,c4:=z,pos:=p} (c7 []))).length=5+(2*z.toNat+x.length):=by
   show(flat (wd [110,117,108,108]::ct::cX x z)).length=_;rw[hn,ew,iD];simp only[List.length_cons,List.length_nil];omega
  have:=h.2.1;simp only[List.length_nil];omega
 | @var d m x p _ h=>
  rw[eH,cE,b0];have:(flat (kR {kind:=4,name:=x,pos:=p} (c7 []))).length=x.length:=by
   show(flat [ch x]).length=_;rw[lI,eF];omega
  simp only[List.length_nil];omega
 | @field d m x p e _ _ _ c=>
  rw[qs,cE,b0,b0,cW,c_,lI,eF];have:=p7 7 e;simp only[List.length_cons,List.length_nil];omega
 | @item d m p e i _ _ _ ih1 ih2=>
  rw[qt,cE,b0,b0,b0,cW,c_,cW,c_,eF];have:=p7 7 e;simp only[List.length_cons,List.length_nil];omega
 | @call d m x p l _ _ _ c=>
  rw[qq,cE,lI,c_,cW,c_,eF];have:=A7 l c;simp only[List.length_cons,List.length_nil];omega
 | @new d m x p _ _=>
  rw[eH,cE,b0];have:(flat (kR {kind:=8,cf:=x,pos:=p} (c7 []))).length=4+x.length:=by
   show(flat [wd [110,101,119],ct,ch x]).length=_;rw[hn,ew,lI,eF];simp only[List.length_cons,List.length_nil];omega
  simp only[List.length_nil];omega
 | @make d m x z p e _ h _ c=>
  rw[qv,cE,b0,b0,hn,ew,c_,cW,iD,c_,c_,cW,c_,eF];have:=h.2.1;simp only[List.length_cons,List.length_nil];omega
 | @len d m p e _ _ c=>
  rw[qu,cE,b0,b0,hn,c_,cW,c_,eF];simp only[List.length_cons,List.length_nil];omega
 | @read d m p _=>
  rw[eH,cE,b0];have:(flat (kR {kind:=11,pos:=p} (c7 []))).length=6:=rfl;simp only[List.length_nil];omega
 | @sign d m k p e _ h _ c=>
  rw[mQ h,cE,b0,b0,c_];have:=p7 6 e;have:(bif k==12 then[45]else[33]:aJ).length=1:=by cases k==12<;>rfl
  simp only[List.length_nil];omega
 | @bin d m k p a b _ j o _ _ ih1 ih2=>
  rw[qp j,cE,b0,b0,b0,cW,ew,c_,ew];have:=p7 (c6 k) a;have:=p7 (c6 k+1) b;have:=uW j o;simp only[List.length_nil];omega
def p_:∀l:List aL,40*l.length<=b0 l
 |[]=>by simp[b0]
 | .mk a ks::r=>by have:=p_ r;rw[b0,cE,List.length_cons];omega
def gF{d:Nat}{e:aL}(h:cm d 0 e):(flat (bm e)).length<=cE e:=by have:=om h;omega
def hl(deep:Nat):(pad deep).length=2*deep:=by unfold pad;rw[List.length_replicate]
def uX(x ai:aJ)(z:Int):(flat (jG x ai z)).length=x.length+2+(2*z.toNat+ai.length):=by
 unfold jG;rw[lI,c_,ew,iD];simp only[List.length_cons,List.length_nil];omega
def uS(d:aJ)(B:List bN):(flat (hL d B)).length=4+(flat B).length+d.length:=by
 unfold hL;rw[ew,c_,i_,cW,h6,c_,eF];simp only[List.length_cons,List.length_nil];omega
def p9{deep:Nat}:∀l:List bE,(∀s∈l,(flat (gp deep s)).length<=dY s)->(flat (cH deep l)).length<=du l
 |[],_=>by simp[cH,flat,du]
 |s::r,h=>by
  have c:=h s (by simp);have d:=p9 r λx a=>h x (List.mem_cons_of_mem _ a)
  rw[cH,cW,du];omega
def uV{d:Nat}{s:bE}(h:ea d s):∀deep,deep+d<=51->(flat (gp deep s)).length<=dY s:=by
 induction h with
 | @var d x ai z p l i=>
  intro deep a;rw[gp,h6,cW,i_,hl,eF,dY,b0];have:=i.2.1;have:(flat (hM {kind:=1,name:=x,cf:=ai,c4:=z,pos:=p} [] (cH (deep+1) []) ([]:List bE).isEmpty (cH (deep+1) []) (pad deep))).length=4+(x.length+2+(2*z.toNat+ai.length))+1:=by
   show(flat (wd pf::ct::(jG x ai z++[bQ [59]]))).length=_;rw[hn,ew,cW,uX,c_,eF];simp only[List.length_cons,List.length_nil,pf];omega
  simp only[List.length_nil];omega
 | @lets d x ai z p e l i hw=>
  intro deep a;rw[gp,h6,cW,i_,hl,eF,dY,b0,b0];have:=i.2.1;have he:=gF hw;have:(flat (hM {kind:=2,name:=x,cf:=ai,c4:=z,pos:=p} [e] (cH (deep+1) []) ([]:List bE).isEmpty (cH (deep+1) []) (pad deep))).length=4+(x.length+2+(2*z.toNat+ai.length))+3+(flat (bm e)).length+1:=by
   show(flat (wd pd::ct::(jG x ai z++ct::bQ [61]::ct::(bm e++[bQ [59]])))).length=_;rw[hn,ew,cW,uX,ew,c_,ew,cW,c_,eF];simp only[List.length_cons,List.length_nil,pd];omega
  simp only[List.length_nil];omega
 | @set d x p e l hw=>
  intro deep a;rw[gp,h6,cW,i_,hl,eF,dY,b0,b0];have he:=gF hw;have:(flat (hM {kind:=3,name:=x,pos:=p} [e] (cH (deep+1) []) ([]:List bE).isEmpty (cH (deep+1) []) (pad deep))).length=x.length+3+(flat (bm e)).length+1:=by
   show(flat (ch x::ct::bQ [61]::ct::(bm e++[bQ [59]]))).length=_;rw[lI,ew,c_,ew,cW,c_,eF];simp only[List.length_cons,List.length_nil];omega
  simp only[List.length_nil];omega
 | @put d p e f o hw k=>
  intro deep a;rw[gp,h6,cW,i_,hl,eF,dY,b0,b0,b0];have he:=gF hw;have k:=gF k;have:(flat (hM {kind:=4,pos:=p} [e,f] (cH (deep+1) []) ([]:List bE).isEmpty (cH (deep+1) []) (pad deep))).length=(flat (bm e)).length+3+(flat (bm f)).length+1:=by
   show(flat (bm e++ct::bQ [61]::ct::(bm f++[bQ [59]]))).length=_;rw[cW,ew,c_,ew,cW,c_,eF];simp only[List.length_cons,List.length_nil];omega
  simp only[List.length_nil];omega
 | @ifs d p e b c hw n v j q=>
  intro deep a;rw[gp,h6,cW,i_,hl,eF,dY,b0,b0];have he:=gF hw;have m:=p9 b (λs aB=>j s aB (deep+1) af);have u:=p9 c (λs aB=>q s aB (deep+1) af);have:(flat (hM {kind:=5,pos:=p} [e] (cH (deep+1) b) c.isEmpty (cH (deep+1) c) (pad deep))).length<=3+(flat (bm e)).length+(4+(flat (cH (deep+1) b)).length+2*deep)+(5+(4+(flat (cH (deep+1) c)).length+2*deep)):=by
   show(flat (wd lk::ct::(bm e++(hL (pad deep) (cH (deep+1) b)++bif c.isEmpty then[]else ct::wd q2::hL (pad deep) (cH (deep+1) c))))).length<=_;rw[hn,ew,cW,cW,uS,hl];cases c.isEmpty
   ·rw[aT,ew,hn,uS,hl];simp only[List.length_cons,List.length_nil,lk,q2];omega
   ·rw[aY,eF];simp only[List.length_cons,List.length_nil,lk];omega
  simp only[List.length_nil];omega
 | @«while» d p e b hw n j=>
  intro deep a;rw[gp,h6,cW,i_,hl,eF,dY,b0,b0];have he:=gF hw;have m:=p9 b (λs aB=>j s aB (deep+1) af);have:(flat (hM {kind:=6,pos:=p} [e] (cH (deep+1) b) ([]:List bE).isEmpty (cH (deep+1) []) (pad deep))).length=6+(flat (bm e)).length+(4+(flat (cH (deep+1) b)).length+2*deep):=by
   show(flat (wd pg::ct::(bm e++hL (pad deep) (cH (deep+1) b)))).length=_;rw[hn,ew,cW,uS,hl];simp only[List.length_cons,List.length_nil,pg];omega
  simp only[List.length_nil];omega
 | @mV d p=>
  intro deep a;rw[gp,h6,cW,i_,hl,eF,dY,b0];have:(flat (hM {kind:=7,pos:=p} [] (cH (deep+1) []) ([]:List bE).isEmpty (cH (deep+1) []) (pad deep))).length=7:=rfl;simp only[List.length_nil];omega
 | @mW d p e hw=>
  intro deep a;rw[gp,h6,cW,i_,hl,eF,dY,b0,b0];have he:=gF hw;have:(flat (hM {kind:=7,pos:=p} [e] (cH (deep+1) []) ([]:List bE).isEmpty (cH (deep+1) []) (pad deep))).length=7+(flat (bm e)).length+1:=by
   show(flat (wd me::ct::(bm e++[bQ [59]]))).length=_;rw[hn,ew,cW,c_,eF];simp only[List.length_cons,List.length_nil,me];omega
  simp only[List.length_nil];omega
 | @print d p e hw=>
  intro deep a;rw[gp,h6,cW,i_,hl,eF,dY,b0,b0];have he:=gF hw;have:(flat (hM {kind:=8,pos:=p} [e] (cH (deep+1) []) ([]:List bE).isEmpty (cH (deep+1) []) (pad deep))).length=6+(flat (bm e)).length+1:=by
   show(flat (wd pe::ct::(bm e++[bQ [59]]))).length=_;rw[hn,ew,cW,c_,eF];simp only[List.length_cons,List.length_nil,pe];omega
  simp only[List.length_nil];omega
 | @call d p e o hw=>
  intro deep a;rw[gp,h6,cW,i_,hl,eF,dY,b0,b0];have he:=gF hw;have:(flat (hM {kind:=9,pos:=p} [e] (cH (deep+1) []) ([]:List bE).isEmpty (cH (deep+1) []) (pad deep))).length=(flat (bm e)).length+1:=by
   show(flat (bm e++[bQ [59]])).length=_;rw[cW,c_,eF];simp only[List.length_cons,List.length_nil]
  simp only[List.length_nil];omega
section
set_option maxRecDepth 100000
noncomputable section
def nc(G:ay)(ag:aa)(H:ae):O:=cg H [I J 0,Y [],I J 0,I J 0] λe h=>j (bW ag) λV=>j (aK P 59 V 1) λW=>j (an P h 3 W) λbp=>j (aq P .lss 3 X bp (I J 0)) λa=>aQ a U h (ca ag) λab n=>aQ a U n (bA (bW ab)) λv o=>aQ a U o (bA (aK P 59 v 1)) λw i=>aQ a U i (qr (an P i 3 w)) λx p=>aQ a U p (ca ag) λy s=>aQ a U s (bA (bW y)) λz u=>aQ a U u (bA (aK P 59 z 0)) λA k=>aQ a U k (qr (an P k 36 A)) λbz l=>aQ a U l (λq=>gg (b2 P .empty .len [36] [bz]) (b2 P l .len [36] [bz]) q) λB m=>aQ a U m (bA (aq P .geq 3 U x B)) λE c=>j (cB a (D (.bool X)) (D E)) λF=>aW (D F) (a7 c (aV P c 61 e (.agg [I J 0,Y [],I J 0,I J 0])) λd=>j (an P d 61 e) λr=>D (r,d)) (j (bW ag) λK=>j (aK P 59 K 0) λL=>j (an P c 36 L) λM=>j (bW ag) λN=>j (aK P 59 N 1) λQ=>j (an P c 3 Q) λR=>j (cc P 36 M R) λS=>j (an P c 61 S) λT=>a7 c (aV P c 61 e T) λd=>j (an P d 61 e) λr=>D (r,d))
def Jx(N:Nat){ag:aa}{H:ae}{r:aa×ae}(h:nc (aC P az) ag H=D r):aC P az 22 [ag] H=D r:=cO N (S:=λG=>nc G ag H) Tryd.func22 (λ_=>by delta nc;kernel_rfl) h
def sk(G:ay)(ag:aa)(H:ae):O:=j (bW ag) λa=>j (aK P 59 a 3) λc=>j (aK P 29 c 0) λbp=>j (an P H 27 bp) λd=>j (aq P .eql 27 X d (I J 0)) λe=>D (e,H)
def Jw(N:Nat){ag:aa}{H:ae}{r:aa×ae}(h:sk (aC P az) ag H=D r):aC P az 21 [ag] H=D r:=cO N (S:=λG=>sk G ag H) Tryd.func21 (λ_=>by delta sk;kernel_rfl) h
def nf(G:ay)(ag av:aa)(H:ae):O:=aI H (G 21 [ag] H) λl a=>aW (D l) (aI a (G 22 [ag] a) λm c=>j (cA P 61 m 3) λe=>j (cj P 29 [(0,av),(1,e)]) λh=>j (bW ag) λi=>j (aK P 59 i 3) λk=>a7 c (aV P c 29 k h) λd=>D (.tuple [],d)) (D (.tuple [],a))
def Jz(N:Nat){ag av:aa}{H:ae}{r:aa×ae}(h:nf (aC P az) ag av H=D r):aC P az 24 [ag,av] H=D r:=cO N (S:=λG=>nf G ag av H) Tryd.func24 (λ_=>by delta nf;kernel_rfl) h
def nd(G:ay)(ag av:aa)(h bp:aa)(H:ae):O:=aI H (G 21 [ag] H) λa i=>aQ a X i (bA (aK P 61 h 0)) λq d=>aQ a X d (qr (an P d 3 q)) λs k=>aQ a X k (ca bp) λu l=>aQ a X l (bA (aq P .eql 3 U s u)) λv m=>j (cB a (D v) (D (.bool U))) λc=>aQ c X m (bA (aK P 61 h 1)) λw e=>aQ c X e (qr (an P e 9 w)) λx n=>aQ c X n (ca av) λy o=>aQ c X o (bA (aq P .eql 9 U x y)) λz p=>j (cB c (D z) (D (.bool U))) λA=>D (A,p)
def KG(G:ay)(N:Nat):∀ad H,bo P G N (ak (ak (ak (ak (bs Tryd.f23))))) (bh Tryd.f23) [] (bh Tryd.f23) ad H=nd G (ad 0) (ad 1) (ad 5) (ad 6) H:=by
 refine bK (aH _) λad H=> ?_
 delta nd;kernel_rfl
def ki(G:ay)(ag av:aa)(H:ae):O:=aI H (G 22 [ag] H) λq h=>cg h [I J 0,Y [],I J 0,I J 0] λc d=>a7 d (aV P d 61 c q) λi=>j (eD P 9 av (I J 0)) λm=>j (aq P .geq 5 X m (I .u8 97)) λa=>aQ a X i (ca av) λn k=>aQ a X k (bA (eD P 9 n (I J 0))) λo l=>aQ a X l (bA (aq P .leq 5 X o (I .u8 122))) λp e=>j (cB a (D p) (D (.bool U))) λbz=>aW (D bz) (nd G ag av c (I J 3) e) (nd G ag av c (I J 4) e)
def Jy(N:Nat){ag av:aa}{H:ae}{r:aa×ae}(h:ki (aC P az) ag av H=D r):aC P az 23 [ag,av] H=D r:=cO N (S:=λG=>ki G ag av H) Tryd.func23 (λG=>dN ((aP ah ((aP ah ((aP ah ((aP ah (KG G N) (aH _))) (aH _))) (aH _))) (aH _))) (by delta ki;generalize nd G=a;revert a;refine id ?_;intro a;kernel_rfl)) h
def ng(G:ay)(ag av:aa)(H:ae):O:=aI H (G 23 [ag,av] H) λbp a=>j (e2 .not bp) λl=>aW (D l) (aI a (G 24 [ag,I J 2] a) λm c=>D (.tuple [],c)) (j (bW ag) λd=>j (aK P 59 d 1) λe=>j (an P a 3 e) λh=>j (aq P .add 3 X h (I J 1)) λi=>j (bW ag) λk=>j (aK P 59 k 1) λbz=>a7 a (aV P a 3 bz i) λc=>D (.tuple [],c))
def JC(N:Nat){ag av:aa}{H:ae}{r:aa×ae}(h:ng (aC P az) ag av H=D r):aC P az 27 [ag,av] H=D r:=cO N (S:=λG=>ng G ag av H) Tryd.func27 (λ_=>by delta ng;kernel_rfl) h
def sM(ag m:aa)(a:ae):O:=j (bW ag) λd=>j (aK P 59 d 2) λe=>j (an P a 3 e) λh=>j (aq P .add 3 X h (I J 1)) λi=>j (bW ag) λk=>j (aK P 59 k 2) λl=>a7 a (aV P a 3 l i) λc=>D (.tuple [],c)
def lb(G:ay)(ag av:aa)(H:ae):O:=aI H (G 23 [ag,av] H) λbp d=>aQ bp X d (ca ag) λp e=>aQ bp X e (bA (bW p)) λq h=>aQ bp X h (bA (aK P 59 q 2)) λl c=>aQ bp X c (qr (an P c 3 l)) λm i=>aQ bp X i (bA (aq P .geq 3 X m (I J 50))) λn a=>j (cB bp (D n) (D (.bool U))) λo=>aW (D o) (aI a (G 24 [ag,I J 4] a) λs k=>D (.tuple [],k)) (aI a (G 27 [ag,av] a) (sM ag))
def J8(N:Nat){ag av:aa}{H:ae}{r:aa×ae}(h:lb (aC P az) ag av H=D r):aC P az 77 [ag,av] H=D r:=cO N (S:=λG=>lb G ag av H) Tryd.func77 (λ_=>by delta lb sM;kernel_rfl) h
def qP(G:ay)(ag av:aa)(H:ae):O:=aI H (G 27 [ag,av] H) λbp a=>j (bW ag) λk=>j (aK P 59 k 2) λl=>j (an P a 3 l) λd=>j (aq P .sub 3 X d (I J 1)) λe=>j (bW ag) λh=>j (aK P 59 h 2) λi=>a7 a (aV P a 3 i e) λc=>D (.tuple [],c)
def J_(N:Nat){ag av:aa}{H:ae}{r:aa×ae}(h:qP (aC P az) ag av H=D r):aC P az 79 [ag,av] H=D r:=cO N (S:=λG=>qP G ag av H) Tryd.func79 (λ_=>by delta qP;kernel_rfl) h
def o2(c:aa)(a:ae):O:=some ((Y []),a)
def k6(G:ay)(ag:aa)(H:ae):O:=aI H (G 22 [ag] H) λA l=>cg l [I J 0,Y [],I J 0,I J 0] λd e=>a7 e (aV P e 61 d A) λh=>aI h (G 21 [ag] h) λc m=>aQ c X m (bA (aK P 61 d 0)) λB i=>aQ c X i (qr (an P i 3 B)) λo n=>aQ c X n (bA (aq P .eql 3 X o (I J 1))) λp a=>j (cB c (D p) (D (.bool U))) λq=>aW (D q) (j (bW ag) λs=>j (aK P 59 s 1) λu=>j (an P a 3 u) λbz=>j (aq P .add 3 X bz (I J 1)) λv=>j (bW ag) λw=>j (aK P 59 w 1) λx=>a7 a (aV P a 3 x v) λk=>j (aK P 61 d 1) λy=>j (an P k 9 y) λz=>D (z,k)) (aI a (G 24 [ag,I J 2] a) (o2))
def JU(N:Nat){ag:aa}{H:ae}{r:aa×ae}(h:k6 (aC P az) ag H=D r):aC P az 55 [ag] H=D r:=cO N (S:=λG=>k6 G ag H) Tryd.func55 (λ_=>by delta k6 o2;kernel_rfl) h
def fo(G:ay)(N:Nat)(c d:aa)(H:ae):O:=j (an P H 40 d) λe=>a7 H (aV P H 40 c e) λa=>j (an P a 40 c) λr=>D (r,a)
def Ll(G:ay)(N:Nat):∀ad H,bo P G N (ak (ak (ak (ak (ak (ak (bs Tryd.f53))))))) (bh Tryd.f53) [] (bh Tryd.f53) ad H=fo G N (ad 2) (ad 4) H:=by
 refine bK (aH _) λad H=> ?_
 delta fo;kernel_rfl
def gb(G:ay)(N:Nat)(h:aa->aa->aa->aa->aa->ae->O)(ag a:aa)(c d e:aa)(H:ae):O:=j (aq P .lss 3 U e c) λk=>aW (D k) (aI H (G 27 [ag,Y [93]] H) λm i=>j (aq P .add 3 X e (I J 1)) λl=>h ag a c d l i) (fo G N a d H)
def l1(G:ay)(N:Nat):Nat->aa->aa->aa->aa->aa->ae->O
 |0,_,_,_,_,_,_=>Z
 |n+1,ag,a,c,d,e,H=>gb G N (l1 G N n) ag a c d e H
def Lh(G:ay)(N:Nat)(c:aa->aa->aa->aa->aa->ae->O):∀ad H,bo P G N (a6 (a6 (ak (a6 (ak (ak (ak (ak (ak (bs Tryd.f53)))))))))) (λad H=>c (ad 0) (ad 2) (ad 3) (ad 4) (ad 5) H) [(3,(λad H=>fo G N (ad 2) (ad 4) H))] (bh Tryd.f53) ad H=gb G N c (ad 0) (ad 2) (ad 3) (ad 4) (ad 5) H:=by
 refine bK (aH _) λad H=> ?_
 delta gb;generalize fo G N=a;revert a;refine id ?_;intro a;kernel_rfl
def gK(G:ay)(N:Nat)(ag a:aa)(c d:aa)(H:ae):O:=l1 G N N ag a c d (I J 0) H
def Lk(G:ay)(N:Nat):∀ad H,bo P G N (ak (ak (ak (ak (ak (bs Tryd.f53)))))) (bh Tryd.f53) [] (bh Tryd.f53) ad H=gK G N (ad 0) (ad 2) (ad 3) (ad 4) H:=by
 refine bK ((aP ah (Ll G N) ((aP ah ((dc ah ((ei (k:=λm ad H=>l1 G N m (ad 0) (ad 2) (ad 3) (ad 4) (ad 5) H) ah (λad H=>ah) (λm=>Lh G N (l1 G N m)))))) (aH _))))) λad H=> ?_
 delta gK;generalize l1 G N N=a;revert a;refine id ?_;intro a;kernel_rfl
def gu(G:ay)(N:Nat)(ag e:aa)(h d m:aa)(H:ae):O:=aW (D m) (aI H (G 22 [ag] H) λn a=>j (cA P 61 n 1) λo=>j (aK P 40 d 0) λp=>a7 a (aV P a 9 p o) λc=>j (bW ag) λq=>j (aK P 59 q 1) λs=>j (an P c 3 s) λu=>j (aq P .add 3 X u (I J 1)) λv=>j (bW ag) λw=>j (aK P 59 w 1) λx=>a7 c (aV P c 3 x v) λi=>gK G N ag e h d i) (aI H (G 55 [ag] H) λk a=>j (aK P 40 d 0) λl=>a7 a (aV P a 9 l k) λc=>gK G N ag e h d c)
def Lm(G:ay)(N:Nat):∀ad H,bo P G N (ak (a6 (a6 (ak (ak (ak (ak (bs Tryd.f53)))))))) (λad H=>gK G N (ad 0) (ad 2) (ad 3) (ad 4) H) [(2,(λad H=>gK G N (ad 0) (ad 2) (ad 3) (ad 4) H))] (bh Tryd.f53) ad H=gu G N (ad 0) (ad 2) (ad 3) (ad 4) (ad 27) H:=by
 refine bK (aH _) λad H=> ?_
 delta gu;generalize gK G N=a;revert a;refine id ?_;intro a;kernel_rfl
def g_(G:ay)(N:Nat)(ag i c:aa)(H:ae):O:=j (cj P 40 [(1,c)]) λm=>cg H [Y [],I J 0] λd e=>a7 e (aV P e 40 d m) λh=>aI h (G 23 [ag,Y [105,110,116]] h) λk a=>aW (D k) (gu G N ag i c d k a) (aI a (G 23 [ag,Y [98,111,111,108]] a) λn l=>gu G N ag i c d n l)
def Lj(G:ay)(N:Nat):∀ad H,bo P G N (ak (ak (ak (bs Tryd.f53)))) (bh Tryd.f53) [] (bh Tryd.f53) ad H=g_ G N (ad 0) (ad 2) (ad 3) H:=by
 refine bK ((aP ah ((aP ah (Lk G N) ((dc ah ((aP ah (Lm G N) (aH _))))))) (aH _))) λad H=> ?_
 delta g_;generalize gu G N=a;revert a;refine id ?_;intro a;kernel_rfl
def gr(G:ay)(N:Nat)(i:aa->aa->aa->ae->O)(ag d e:aa)(H:ae):O:=aI H (G 23 [ag,Y [91]] H) λq a=>aW (D q) (j (aq P .eql 3 X e (I J 3)) λs=>aW (D s) (aI a (G 24 [ag,I J 4] a) λu c=>a7 c (aV P c 40 d (.agg [Y [],I J 0])) λh=>j (an P h 40 d) λr=>D (r,h)) (j (bW ag) λk=>j (aK P 59 k 1) λl=>j (an P a 3 l) λbz=>j (aq P .add 3 X bz (I J 1)) λm=>j (bW ag) λn=>j (aK P 59 n 1) λo=>a7 a (aV P a 3 o m) λc=>j (aq P .add 3 X e (I J 1)) λp=>i ag d p c)) (g_ G N ag d e a)
def l2(G:ay)(N:Nat):Nat->aa->aa->aa->ae->O
 |0,_,_,_,_=>Z
 |n+1,ag,a,c,H=>gr G N (l2 G N n) ag a c H
def Li(G:ay)(N:Nat)(c:aa->aa->aa->ae->O):∀ad H,bo P G N (a6 (a6 (a6 (ak (ak (bs Tryd.f53)))))) (λad H=>c (ad 0) (ad 2) (ad 3) H) [(0,(λad H=>g_ G N (ad 0) (ad 2) (ad 3) H))] (bh Tryd.f53) ad H=gr G N c (ad 0) (ad 2) (ad 3) H:=by
 refine bK (aH _) λad H=> ?_
 delta gr;generalize g_ G N=a;revert a;refine id ?_;intro a;kernel_rfl
def ga(G:ay)(N:Nat)(ag:aa)(H:ae):O:=cg H [Y [],I J 0] λc a=>l2 G N N ag c (I J 0) a
def JT(N:Nat){ag:aa}{H:ae}{r:aa×ae}(h:ga (aC P az) N ag H=D r):aC P az 53 [ag] H=D r:=cO N (S:=λG=>ga G N ag H) Tryd.func53 (λG=>dN ((aP ah ((aP ah ((aP ah (Lj G N) ((dc ah ((ei (k:=λm ad H=>l2 G N m (ad 0) (ad 2) (ad 3) H) ah (λad H=>ah) (λm=>Li G N (l2 G N m)))))))) (aH _))) (aH _))) (by delta ga;generalize l2 G N N=a;revert a;refine id ?_;intro a;kernel_rfl)) h
def kt(G:ay)(N:Nat)(H:ae):O:=some ((I J 0),H)
def LI(G:ay)(N:Nat):∀ad H,bo P G N (ak (ak (ak (ak (ak (bs Tryd.f70)))))) (bh Tryd.f70) [] (bh Tryd.f70) ad H=kt G N H:=by
 refine bK (aH _) λad H=> ?_
 delta kt;kernel_rfl
def nA(G:ay)(N:Nat)(e:aa->aa->aa->aa->aa->ae->O)(ag d:aa)(c bp a:aa)(H:ae):O:=j (cc P 131 c ag) λh=>j (an P H 50 h) λi=>bf P .len [50] [i] H λk=>j (aq P .lss 3 U a k) λl=>aW (D l) (j (cc P 131 c ag) λn=>j (an P H 50 n) λo=>j (cc P 50 o a) λp=>j (an P H 9 p) λq=>j (aK P 61 d 1) λs=>j (an P H 9 s) λu=>j (aq P .eql 9 U q u) λv=>aW (D v) (j (cc P 132 bp ag) λw=>j (an P H 51 w) λx=>j (cc P 51 x a) λy=>j (an P H 3 y) λz=>D (z,H)) (j (aq P .add 3 X a (I J 1)) λm=>e ag d c bp m H)) (kt G N H)
def ku(G:ay)(N:Nat):Nat->aa->aa->aa->aa->aa->ae->O
 |0,_,_,_,_,_,_=>Z
 |n+1,ag,a,c,bp,d,H=>nA G N (ku G N n) ag a c bp d H
def LH(G:ay)(N:Nat)(c:aa->aa->aa->aa->aa->ae->O):∀ad H,bo P G N (a6 (a6 (ak (a6 (ak (ak (ak (ak (bs Tryd.f70))))))))) (λad H=>c (ad 0) (ad 3) (ad 5) (ad 6) (ad 7) H) [(0,(λad H=>kt G N H))] (bh Tryd.f70) ad H=nA G N c (ad 0) (ad 3) (ad 5) (ad 6) (ad 7) H:=by
 refine bK (aH _) λad H=> ?_
 delta nA;generalize kt G N=a;revert a;refine id ?_;intro a;kernel_rfl
def l7(G:ay)(N:Nat)(ag av:aa)(H:ae):O:=bS H (dS (H).next av) λq a=>j (aK P 61 q 0) λM=>j (an P a 3 M) λQ=>j (aq P .neq 3 X Q (I J 4)) λu=>aW (D u) (D ((I J 0),a)) (bS a (D (.aA (a).next 0 1 1 (D 1),.row U 1 [[Y [124,124]]])) λv h=>bS h (D (.aA (h).next 0 1 1 (D 1),.row U 1 [[Y [38,38]]])) λw i=>bS i (D (.aA (i).next 0 4 1 (D 4),.row U 1 [[Y [60]],[Y [60,61]],[Y [61,61]],[Y [33,61]]])) λx k=>bS k (D (.aA (k).next 0 2 1 (D 2),.row U 1 [[Y [43]],[Y [45]]])) λy l=>bS l (D (.aA (l).next 0 3 1 (D 3),.row U 1 [[Y [42]],[Y [47]],[Y [37]]])) λz m=>bS m (bV P (m).next 131 5 [(0,v),(1,w),(2,x),(3,y),(4,z)]) λbz n=>bS n (D (.aA (n).next 0 1 1 (D 1),.row U 1 [[I J 24]])) λA o=>bS o (D (.aA (o).next 0 1 1 (D 1),.row U 1 [[I J 23]])) λB p=>bS p (D (.aA (p).next 0 4 1 (D 4),.row U 1 [[I J 19],[I J 20],[I J 21],[I J 22]])) λE c=>bS c (D (.aA (c).next 0 2 1 (D 2),.row U 1 [[I J 14],[I J 15]])) λF d=>bS d (D (.aA (d).next 0 3 1 (D 3),.row U 1 [[I J 16],[I J 17],[I J 18]])) λK e=>bS e (bV P (e).next 132 5 [(0,A),(1,B),(2,E),(3,F),(4,K)]) λL s=>ku G N N ag q bz L (I J 0) s)
def J7(N:Nat){ag av:aa}{H:ae}{r:aa×ae}(h:l7 (aC P az) N ag av H=D r):aC P az 70 [ag,av] H=D r:=cO N (S:=λG=>l7 G N ag av H) Tryd.func70 (λG=>dN ((aP ah ((aP ah ((aP ah ((aP ah ((aP ah (LI G N) ((aP ah ((dc ah ((ei (k:=λm ad H=>ku G N m (ad 0) (ad 3) (ad 5) (ad 6) (ad 7) H) ah (λad H=>ah) (λm=>LH G N (ku G N m)))))) (aH _))))) (aH _))) (aH _))) (aH _))) (aH _))) (by delta l7;generalize ku G N N=a;revert a;refine id ?_;intro a;kernel_rfl)) h
def nj(G:ay)(N:Nat)(c e:aa)(H:ae):O:=j (an P H 45 e) λd=>a7 H (aV P H 45 c d) λa=>j (an P a 45 c) λr=>D (r,a)
def KZ(G:ay)(N:Nat):∀ad H,bo P G N (ak (ak (ak (ak (bs Tryd.f40))))) (bh Tryd.f40) [] (bh Tryd.f40) ad H=nj G N (ad 4) (ad 5) H:=by
 refine bK (aH _) λad H=> ?_
 delta nj;kernel_rfl
def h8(a:aa->aa->aa->aa->ae->O)(ag av:aa)(d e:aa)(c:ae):O:=a ag av d e c
def qL(G:ay)(N:Nat)(A:aa->aa->aa->aa->ae->O)(ag av:aa)(z e:aa)(H:ae):O:=aI H (G 21 [ag] H) λd B=>aQ d X B (ca av) λQ K=>aQ d X K (ca ag) λR m=>aQ d X m (λq=>eJ m (G 22 [R] m) q) λS n=>aQ d X n (λq=>eJ n (G 70 [Q,S] n) q) λT L=>aQ d X L (bA (aq P .neq 3 X T (I J 0))) λV o=>j (cB d (D V) (D (.bool U))) λW=>aW (D W) (aI o (G 22 [ag] o) λab M=>cg M [I J 0,Y [],I J 0,I J 0] λbp x=>a7 x (aV P x 61 bp ab) λp=>j (bW ag) λad=>j (aK P 59 ad 1) λaf=>j (an P p 3 af) λah=>j (aq P .add 3 X ah (I J 1)) λai=>j (bW ag) λaj=>j (aK P 59 aj 1) λak=>a7 p (aV P p 3 ak ai) λv=>j (aq P .add 3 X av (I J 1)) λal=>aI v (G 40 [ag,al] v) λam E=>cg E [I J 0,I J 0,Y [],Y [],I J 0,aa.ar,I J 0,I J 0,I J 0,I J 0,I J 0] λl w=>a7 w (aV P w 45 l am) λa=>j (an P a 61 bp) λy=>aI a (G 70 [av,y] a) λao c=>j (an P c 45 e) λs=>j (an P c 45 l) λu=>bS c (bV P (c).next 41 2 [(0,s),(1,u)]) λap h=>j (aK P 61 bp 3) λi=>j (an P h 3 i) λk=>j (cj P 45 [(0,ao),(4,ap),(5,k)]) λau=>a7 h (aV P h 45 e au) λF=>bif ((bj (an P a 61 bp) y&&X)&&((bj (an P a 45 e) s&&(bj (an P c 45 e) s&&X))&&((bj (an P a 45 l) u&&(bj (an P c 45 l) u&&X))&&((bj (an P a 3 i) k&&(bj (an P c 3 i) k&&(bj (an P h 3 i) k&&X)))&&X))))then(h8 A ag av z e F)else Z) (nj G N z e o)
def nk(G:ay)(N:Nat):Nat->aa->aa->aa->aa->ae->O
 |0,_,_,_,_,_=>Z
 |n+1,ag,av,a,c,H=>qL G N (nk G N n) ag av a c H
def KY(G:ay)(N:Nat)(c:aa->aa->aa->aa->ae->O):∀ad H,bo P G N (a6 (a6 (a6 (ak (ak (ak (bs Tryd.f40))))))) (λad H=>c (ad 0) (ad 1) (ad 4) (ad 5) H) [(0,(λad H=>nj G N (ad 4) (ad 5) H))] (bh Tryd.f40) ad H=qL G N c (ad 0) (ad 1) (ad 4) (ad 5) H:=by
 refine bK (aH _) λad H=> ?_
 delta qL h8;generalize nj G N=a;revert a;refine id ?_;intro a;kernel_rfl
def hQ(G:ay)(N:Nat)(ag av:aa)(c d:aa)(a:ae):O:=nk G N N ag av c d a
def hR(G:ay)(N:Nat)(d ag:aa)(av e c:aa)(a:ae):O:=a7 a (aV P a 45 c d) (hQ G N ag av e c)
def hS(G:ay)(N:Nat)(ag av:aa)(d c:aa)(a:ae):O:=cg a [I J 0,I J 0,Y [],Y [],I J 0,aa.ar,I J 0,I J 0,I J 0,I J 0,I J 0] (hR G N c ag av d)
def hP(G:ay)(N:Nat)(ag av:aa)(H:ae):O:=cg H [I J 0,I J 0,Y [],Y [],I J 0,aa.ar,I J 0,I J 0,I J 0,I J 0,I J 0] λc a=>j (aq P .eql 3 X av (I J 5)) λk=>aW (D k) (aI a (G 69 [ag] a) λh d=>a7 d (aV P d 45 c h) λe=>j (an P e 45 c) λr=>D (r,e)) (j (aq P .add 3 X av (I J 1)) λi=>aI a (G 40 [ag,i] a) (hS G N ag av c))
def JL(N:Nat){ag av:aa}{H:ae}{r:aa×ae}(h:hP (aC P az) N ag av H=D r):aC P az 40 [ag,av] H=D r:=cO N (S:=λG=>hP G N ag av H) Tryd.func40 (λG=>dN ((aP ah ((aP ah ((aP ah ((aP ah (KZ G N) ((dc ah ((ei (k:=λm ad H=>nk G N m (ad 0) (ad 1) (ad 4) (ad 5) H) ah (λad H=>ah) (λm=>KY G N (nk G N m)))))))) (aH _))) (aH _))) (aH _))) (by delta hP hS hR hQ;generalize nk G N N=a;revert a;refine id ?_;intro a;kernel_rfl)) h
def la(G:ay)(ag k:aa)(l K:aa)(H:ae):O:=j (aK P 61 l 1) λo=>j (an P H 9 o) λp=>aI H (G 77 [ag,p] H) λL e=>aI e (G 40 [ag,I J 5] e) λq n=>cg n [I J 0,I J 0,Y [],Y [],I J 0,aa.ar,I J 0,I J 0,I J 0,I J 0,I J 0] λm h=>a7 h (aV P h 45 m q) λa=>j (bW ag) λs=>j (aK P 59 s 2) λu=>j (an P a 3 u) λv=>j (aq P .sub 3 X v (I J 1)) λw=>j (bW ag) λx=>j (aK P 59 x 2) λy=>a7 a (aV P a 3 y w) λc=>j (an P c 45 m) λz=>bS c (bV P (c).next 41 1 [(0,z)]) λA d=>j (aK P 61 l 3) λB=>j (an P d 3 B) λE=>j (cj P 45 [(0,K),(4,A),(5,E)]) λF=>a7 d (aV P d 45 k F) λi=>j (an P i 45 k) λr=>D (r,i)
def LC(G:ay)(N:Nat):∀ad H,bo P G N (ak (ak (ak (ak (bs Tryd.f69))))) (bh Tryd.f69) [] (bh Tryd.f69) ad H=la G (ad 0) (ad 2) (ad 3) (ad 4) H:=by
 refine bK (aH _) λad H=> ?_
 delta la;kernel_rfl
def iL(G:ay)(ag a:aa)(h:ae):O:=aI h (G 22 [ag] h) λv o=>cg o [I J 0,Y [],I J 0,I J 0] λe i=>a7 i (aV P i 61 e v) λk=>aI k (G 23 [ag,Y [45]] k) λs c=>aW (D s) (la G ag a e (I J 12) c) (aI c (G 23 [ag,Y [33]] c) λu d=>aW (D u) (la G ag a e (I J 13) d) (aI d (G 83 [ag] d) λp l=>aI l (G 82 [ag,p] l) λq m=>a7 m (aV P m 45 a q) λn=>j (an P n 45 a) λr=>D (r,n)))
def h9(G:ay)(ag:aa)(H:ae):O:=cg H [I J 0,I J 0,Y [],Y [],I J 0,aa.ar,I J 0,I J 0,I J 0,I J 0,I J 0] (iL G ag)
def J6(N:Nat){ag:aa}{H:ae}{r:aa×ae}(h:h9 (aC P az) ag H=D r):aC P az 69 [ag] H=D r:=cO N (S:=λG=>h9 G ag H) Tryd.func69 (λG=>dN ((aP ah ((aP ah ((aP ah ((aP ah (LC G N) (aH _))) (aH _))) (aH _))) (aH _))) (by delta h9 iL;generalize la G=a;revert a;refine id ?_;intro a;kernel_rfl)) h
def nD(G:ay)(N:Nat)(d c:aa)(H:ae):O:=j (an P H 45 d) λe=>a7 H (aV P H 45 c e) λa=>j (an P a 45 c) λr=>D (r,a)
def LP(G:ay)(N:Nat):∀ad H,bo P G N (ak (ak (bs Tryd.f82))) (bh Tryd.f82) [] (bh Tryd.f82) ad H=nD G N (ad 3) (ad 4) H:=by
 refine bK (aH _) λad H=> ?_
 delta nD;kernel_rfl
def je(a:aa->aa->aa->ae->O)(ag d e:aa)(c:ae):O:=a ag d e c
def kx(a:aa->aa->aa->ae->O)(ag d e:aa)(c:ae):O:=a ag d e c
def h_(G:ay)(p:aa->aa->aa->ae->O)(ag a:aa)(u s:aa)(q:ae):O:=aI q (G 23 [ag,Y [46]] q) λbz h=>aW (D bz) (j (bW ag) λv=>j (aK P 59 v 1) λw=>j (an P h 3 w) λx=>j (aq P .add 3 X x (I J 1)) λy=>j (bW ag) λz=>j (aK P 59 z 1) λA=>a7 h (aV P h 3 A y) λd=>aI d (G 55 [ag] d) λB e=>j (an P e 45 a) λo=>bS e (bV P (e).next 41 1 [(0,o)]) λE c=>j (aK P 61 u 3) λl=>j (an P c 3 l) λm=>j (cj P 45 [(0,(I J 5)),(2,B),(4,E),(5,m)]) λF=>a7 c (aV P c 45 a F) λi=>bif ((bj (an P d 45 a) o&&(bj (an P e 45 a) o&&X))&&((bj (an P d 3 l) m&&(bj (an P e 3 l) m&&(bj (an P c 3 l) m&&X)))&&X))then(je p ag a s i)else Z) (aI h (G 77 [ag,Y [91]] h) λS d=>aI d (G 40 [ag,I J 0] d) λH e=>cg e [I J 0,I J 0,Y [],Y [],I J 0,aa.ar,I J 0,I J 0,I J 0,I J 0,I J 0] λbp c=>a7 c (aV P c 45 bp H) λi=>aI i (G 79 [ag,Y [93]] i) λT k=>j (an P k 45 a) λK=>j (an P k 45 bp) λL=>bS k (bV P (k).next 41 2 [(0,K),(1,L)]) λM n=>j (aK P 61 u 3) λN=>j (an P n 3 N) λQ=>j (cj P 45 [(0,(I J 6)),(4,M),(5,Q)]) λR=>a7 n (aV P n 45 a R) (kx p ag a s))
def ia(G:ay)(d:aa->aa->aa->ae->O)(e ag:aa)(h i c:aa)(a:ae):O:=a7 a (aV P a 61 c e) (h_ G d ag h c i)
def ib(G:ay)(a:aa->aa->aa->ae->O)(ag e:aa)(h d:aa)(c:ae):O:=cg c [I J 0,Y [],I J 0,I J 0] (ia G a d ag e h)
def jP(G:ay)(c:aa->aa->aa->ae->O)(a:ae)(ag d e:aa):O:=aI a (G 22 [ag] a) (ib G c ag d e)
def qQ(G:ay)(N:Nat)(i:aa->aa->aa->ae->O)(ag e h:aa)(H:ae):O:=aI H (G 23 [ag,Y [46]] H) λc k=>aQ c U k (ca ag) λl a=>aQ c U a (λq=>eJ a (G 23 [l,Y [91]] a) q) λm d=>j (cB c (D (.bool X)) (D m)) λn=>aW (D n) (jP G i d ag e h) (nD G N e h d)
def l8(G:ay)(N:Nat):Nat->aa->aa->aa->ae->O
 |0,_,_,_,_=>Z
 |n+1,ag,a,c,H=>qQ G N (l8 G N n) ag a c H
def LO(G:ay)(N:Nat)(c:aa->aa->aa->ae->O):∀ad H,bo P G N (a6 (a6 (a6 (ak (bs Tryd.f82))))) (λad H=>c (ad 0) (ad 3) (ad 4) H) [(0,(λad H=>nD G N (ad 3) (ad 4) H))] (bh Tryd.f82) ad H=qQ G N c (ad 0) (ad 3) (ad 4) H:=by
 refine bK (aH _) λad H=> ?_
 delta qQ jP ib ia h_ kx je;generalize nD G N=a;revert a;refine id ?_;intro a;kernel_rfl
def ic(G:ay)(N:Nat)(ag c d:aa)(a:ae):O:=l8 G N N ag c d a
def ie(G:ay)(N:Nat)(ag c:aa)(a:ae):O:=cg a [I J 0,I J 0,Y [],Y [],I J 0,aa.ar,I J 0,I J 0,I J 0,I J 0,I J 0] (ic G N ag c)
def hU(G:ay)(N:Nat)(ag av:aa)(H:ae):O:=bS H (dS (H).next av) (ie G N ag)
def Kb(N:Nat){ag av:aa}{H:ae}{r:aa×ae}(h:hU (aC P az) N ag av H=D r):aC P az 82 [ag,av] H=D r:=cO N (S:=λG=>hU G N ag av H) Tryd.func82 (λG=>dN ((aP ah ((aP ah (LP G N) ((dc ah ((ei (k:=λm ad H=>l8 G N m (ad 0) (ad 3) (ad 4) H) ah (λad H=>ah) (λm=>LO G N (l8 G N m)))))))) (aH _))) (by delta hU ie ic;generalize l8 G N N=a;revert a;refine id ?_;intro a;kernel_rfl)) h
def nF(G:ay)(ag:aa)(H:ae):O:=cg H [I J 0,I J 0,Y [],Y [],I J 0,aa.ar,I J 0,I J 0,I J 0,I J 0,I J 0] λk c=>aI c (G 77 [ag,Y [40]] c) λp d=>aI d (G 40 [ag,I J 0] d) λo m=>cg m [I J 0,I J 0,Y [],Y [],I J 0,aa.ar,I J 0,I J 0,I J 0,I J 0,I J 0] λl e=>a7 e (aV P e 45 l o) λh=>aI h (G 79 [ag,Y [41]] h) λq a=>j (an P a 45 l) λn=>a7 a (aV P a 45 k n) λi=>j (an P i 45 k) λr=>D (r,i)
def Kg(N:Nat){ag:aa}{H:ae}{r:aa×ae}(h:nF (aC P az) ag H=D r):aC P az 92 [ag] H=D r:=cO N (S:=λG=>nF G ag H) Tryd.func92 (λ_=>by delta nF;kernel_rfl) h
def ky(G:ay)(ag d m:aa)(H:ae):O:=aI H (G 55 [ag] H) λl i=>aI i (G 23 [ag,Y [40]] i) λn c=>j (e2 .not n) λo=>aW (D o) (j (aK P 61 m 3) λp=>j (an P c 3 p) λq=>j (cj P 45 [(0,(I J 4)),(2,l),(5,q)]) λs=>a7 c (aV P c 45 d s) λa=>j (an P a 45 d) λr=>D (r,a)) (aI c (G 93 [ag] c) λu a=>j (aK P 61 m 3) λe=>j (an P a 3 e) λh=>j (cj P 45 [(0,(I J 7)),(2,l),(4,u),(5,h)]) λv=>a7 a (aV P a 45 d v) λk=>bif ((bj (an P c 3 e) h&&(bj (an P a 3 e) h&&X))&&X)then(j (an P k 45 d) λr=>D (r,k))else Z)
def LQ(G:ay)(N:Nat):∀ad H,bo P G N (ak (ak (ak (bs Tryd.f83)))) (bh Tryd.f83) [] (bh Tryd.f83) ad H=ky G (ad 0) (ad 2) (ad 3) H:=by
 refine bK (aH _) λad H=> ?_
 delta ky;kernel_rfl
def fS(ag:aa)(c:ae)(h e:aa):O:=j (bW ag) λi=>j (aK P 59 i 1) λk=>j (an P c 3 k) λl=>j (aq P .add 3 X l (I J 1)) λm=>j (bW ag) λn=>j (aK P 59 n 1) λo=>a7 c (aV P c 3 o m) λa=>j (aK P 61 h 2) λp=>j (an P a 3 p) λq=>j (aK P 61 h 3) λs=>j (an P a 3 s) λu=>j (cj P 45 [(0,(I J 1)),(1,q),(5,u)]) λv=>a7 a (aV P a 45 e v) λd=>j (an P d 45 e) λr=>D (r,d)
def nE(G:ay)(c d e:aa)(H:ae):O:=j (aK P 61 d 3) λh=>j (an P H 3 h) λi=>j (cj P 45 [(0,(I J 2)),(1,e),(5,i)]) λk=>a7 H (aV P H 45 c k) λa=>j (an P a 45 c) λr=>D (r,a)
def LS(G:ay)(N:Nat):∀ad H,bo P G N (ak (ak (ak (a6 (ak (ak (ak (a6 (a6 (ak (ak (bs Tryd.f83)))))))))))) (λad H=>ky G (ad 0) (ad 2) (ad 3) H) [(0,(λad H=>ky G (ad 0) (ad 2) (ad 3) H))] (bh Tryd.f83) ad H=nE G (ad 2) (ad 3) (ad 4) H:=by
 refine bK (aH _) λad H=> ?_
 delta nE;kernel_rfl
def fT(G:ay)(ag:aa)(H:ae)(c d:aa):O:=j (bW ag) λe=>j (aK P 59 e 1) λh=>j (an P H 3 h) λi=>j (aq P .add 3 X i (I J 1)) λk=>j (bW ag) λl=>j (aK P 59 l 1) λm=>a7 H (aV P H 3 m k) λa=>j (aK P 61 c 1) λn=>j (an P a 9 n) λo=>j (aq P .eql 9 X o (Y [116,114,117,101])) λp=>aW (D p) (nE G d c (I J 1) a) (nE G d c (I J 0) a)
def fU(G:ay)(ag:aa)(c:ae)(l k:aa):O:=j (bW ag) λm=>j (aK P 59 m 1) λn=>j (an P c 3 n) λo=>j (aq P .add 3 X o (I J 1)) λp=>j (bW ag) λq=>j (aK P 59 q 1) λs=>a7 c (aV P c 3 s p) λd=>aI d (G 53 [ag] d) λu a=>j (aK P 61 l 3) λe=>j (an P a 3 e) λh=>j (cj P 45 [(0,(I J 3)),(3,u),(5,h)]) λv=>a7 a (aV P a 45 k v) λi=>bif ((bj (an P d 3 e) h&&(bj (an P a 3 e) h&&X))&&X)then(j (an P i 45 k) λr=>D (r,i))else Z
def fV(G:ay)(ag:aa)(a:ae)(i h:aa):O:=j (bW ag) λk=>j (aK P 59 k 1) λl=>j (an P a 3 l) λm=>j (aq P .add 3 X m (I J 1)) λn=>j (bW ag) λo=>j (aK P 59 o 1) λp=>a7 a (aV P a 3 p n) λc=>j (aK P 61 i 3) λq=>j (an P c 3 q) λs=>aI c (G 91 [ag,s] c) λu d=>a7 d (aV P d 45 h u) λe=>j (an P e 45 h) λr=>D (r,e)
def fW(G:ay)(ag:aa)(e:ae)(m l:aa):O:=j (bW ag) λn=>j (aK P 59 n 1) λo=>j (an P e 3 o) λp=>j (aq P .add 3 X p (I J 1)) λq=>j (bW ag) λs=>j (aK P 59 s 1) λu=>a7 e (aV P e 3 u q) λh=>aI h (G 92 [ag] h) λv i=>bS i (bV P (i).next 41 1 [(0,v)]) λw a=>j (aK P 61 m 3) λc=>j (an P a 3 c) λd=>j (cj P 45 [(0,(I J 10)),(4,w),(5,d)]) λx=>a7 a (aV P a 45 l x) λk=>bif ((bj (an P h 3 c) d&&(bj (an P i 3 c) d&&(bj (an P a 3 c) d&&X)))&&X)then(j (an P k 45 l) λr=>D (r,k))else Z
def fG(G:ay)(ag:aa)(a:ae)(p i:aa):O:=j (bW ag) λq=>j (aK P 59 q 1) λs=>j (an P a 3 s) λu=>j (aq P .add 3 X u (I J 1)) λv=>j (bW ag) λk=>j (aK P 59 k 1) λl=>a7 a (aV P a 3 l v) λd=>aI d (G 77 [ag,Y [40]] d) λw e=>aI e (G 79 [ag,Y [41]] e) λx c=>j (aK P 61 p 3) λm=>j (an P c 3 m) λn=>j (cj P 45 [(0,(I J 11)),(5,n)]) λo=>a7 c (aV P c 45 i o) λh=>j (an P h 45 i) λr=>D (r,h)
def fq(G:ay)(a:ae)(ag e:aa):O:=aI a (G 92 [ag] a) λh c=>a7 c (aV P c 45 e h) λd=>j (an P d 45 e) λr=>D (r,d)
def fH(G:ay)(ag c d:aa)(a:ae):O:=ky G ag c d a
def fr(G:ay)(ag c:aa)(e d:aa)(a:ae):O:=aW (D d) (fq G a ag c) (fH G ag c e a)
def fI(G:ay)(a:ae)(ag c d:aa):O:=aI a (G 23 [ag,Y [40]] a) (fr G ag c d)
def fs(G:ay)(ag d:aa)(c e:aa)(a:ae):O:=aW (D e) (fG G ag a d c) (fI G a ag c d)
def fJ(G:ay)(a:ae)(ag d c:aa):O:=aI a (G 23 [ag,Y [114,101,97,100]] a) (fs G ag d c)
def ft(G:ay)(ag d:aa)(c e:aa)(a:ae):O:=aW (D e) (fW G ag a d c) (fJ G a ag d c)
def fK(G:ay)(a:ae)(ag d c:aa):O:=aI a (G 23 [ag,Y [108,101,110]] a) (ft G ag d c)
def fu(G:ay)(ag d:aa)(c e:aa)(a:ae):O:=aW (D e) (fV G ag a d c) (fK G a ag d c)
def fL(G:ay)(a:ae)(ag d c:aa):O:=aI a (G 23 [ag,Y [110,101,119]] a) (fu G ag d c)
def fv(G:ay)(ag d:aa)(c e:aa)(a:ae):O:=aW (D e) (fU G ag a d c) (fL G a ag d c)
def fw(G:ay)(H:ae)(ag c a:aa):O:=aI H (G 23 [ag,Y [110,117,108,108]] H) (fv G ag c a)
def l9(G:ay)(ag a:aa)(c d:aa)(H:ae):O:=aW (D d) (fT G ag H c a) (fw G H ag c a)
def LR(G:ay)(N:Nat):∀ad H,bo P G N (ak (ak (ak (a6 (a6 (ak (ak (bs Tryd.f83)))))))) (λad H=>ky G (ad 0) (ad 2) (ad 3) H) [(0,(λad H=>ky G (ad 0) (ad 2) (ad 3) H))] (bh Tryd.f83) ad H=l9 G (ad 0) (ad 2) (ad 3) (ad 28) H:=by
 refine bK ((dt ah ((aP ah ((aP ah ((aP ah (LS G N) (aH _))) (aH _))) (aH _))) (aH _))) λad H=> ?_
 delta l9 fw fv fL fu fK ft fJ fs fI fr fH fq fG fW fV fU fT;generalize ky G=a;generalize nE G=c;revert a c;refine id ?_;intro a c;kernel_rfl
def fM(G:ay)(ag c:aa)(d e:aa)(a:ae):O:=l9 G ag c d e a
def fx(G:ay)(ag c:aa)(d e:aa)(a:ae):O:=l9 G ag c d e a
def fN(G:ay)(a:ae)(ag c d:aa):O:=aI a (G 23 [ag,Y [102,97,108,115,101]] a) (fx G ag c d)
def fy(G:ay)(ag c:aa)(d e:aa)(a:ae):O:=aW (D e) (fM G ag c d e a) (fN G a ag c d)
def fz(G:ay)(a:ae)(ag c d:aa):O:=aI a (G 23 [ag,Y [116,114,117,101]] a) (fy G ag c d)
def e5(G:ay)(ag:aa)(a:ae)(d c e:aa):O:=aW (D e) (fS ag a d c) (fz G a ag c d)
def e6(G:ay)(c ag:aa)(h e d:aa)(a:ae):O:=j (cB c (D d) (D (.bool U))) (e5 G ag a h e)
def e7(G:ay)(a ag:aa)(h e d:aa)(c:ae):O:=aQ a X c (bA (aq P .eql 3 X d (I J 2))) (e6 G a ag h e)
def e8(G:ay)(c ag:aa)(h e d:aa)(a:ae):O:=aQ c X a (qr (an P a 3 d)) (e7 G c ag h e)
def e9(G:ay)(c ag:aa)(e a:aa)(d:ae):O:=aQ a X d (bA (aK P 61 c 0)) (e8 G a ag c e)
def fO(G:ay)(ag d c:aa)(a:ae):O:=aI a (G 21 [ag] a) (e9 G d ag c)
def fP(G:ay)(e ag:aa)(d c:aa)(a:ae):O:=a7 a (aV P a 61 c e) (fO G ag c d)
def fQ(G:ay)(ag c d:aa)(a:ae):O:=cg a [I J 0,Y [],I J 0,I J 0] (fP G d ag c)
def fR(G:ay)(ag c:aa)(a:ae):O:=aI a (G 22 [ag] a) (fQ G ag c)
def fp(G:ay)(ag:aa)(H:ae):O:=cg H [I J 0,I J 0,Y [],Y [],I J 0,aa.ar,I J 0,I J 0,I J 0,I J 0,I J 0] (fR G ag)
def Kc(N:Nat){ag:aa}{H:ae}{r:aa×ae}(h:fp (aC P az) ag H=D r):aC P az 83 [ag] H=D r:=cO N (S:=λG=>fp G ag H) Tryd.func83 (λG=>dN ((aP ah ((aP ah ((aP ah (LQ G N) ((dc ah ((aP ah ((dt ah (aH _) ((aP ah (LR G N) (aH _))))) (aH _))))))) (aH _))) (aH _))) (by delta fp fR fQ fP fO e9 e8 e7 e6 e5 fz fy fN fx fM fS;generalize l9 G=a;revert a;refine id ?_;intro a;kernel_rfl)) h
def kz(G:ay)(ag av:aa)(H:ae):O:=cg H [I J 0,I J 0,Y [],Y [],I J 0,aa.ar,I J 0,I J 0,I J 0,I J 0,I J 0] λk n=>aI n (G 23 [ag,Y [91]] n) λL a=>j (e2 .not L) λM=>aW (D M) (aI a (G 55 [ag] a) λs c=>j (cj P 40 [(0,s)]) λu=>j (cj P 45 [(0,(I J 8)),(3,u),(5,av)]) λv=>a7 c (aV P c 45 k v) λe=>j (an P e 45 k) λr=>D (r,e)) (j (bW ag) λw=>j (aK P 59 w 1) λbz=>j (an P a 3 bz) λx=>j (aq P .add 3 X x (I J 1)) λy=>j (bW ag) λz=>j (aK P 59 z 1) λA=>a7 a (aV P a 3 A y) λc=>aI c (G 53 [ag] c) λB e=>cg e [Y [],I J 0] λd p=>a7 p (aV P p 40 d B) λq=>aI q (G 27 [ag,Y [93]] q) λN l=>aI l (G 92 [ag] l) λE h=>j (an P h 40 d) λi=>bS h (bV P (h).next 41 1 [(0,E)]) λF m=>j (cj P 45 [(0,(I J 9)),(3,i),(4,F),(5,av)]) λK=>a7 m (aV P m 45 k K) λo=>bif ((bj (an P l 40 d) i&&(bj (an P h 40 d) i&&(bj (an P m 40 d) i&&X)))&&X)then(j (an P o 45 k) λr=>D (r,o))else Z)
def Kf(N:Nat){ag av:aa}{H:ae}{r:aa×ae}(h:kz (aC P az) ag av H=D r):aC P az 91 [ag,av] H=D r:=cO N (S:=λG=>kz G ag av H) Tryd.func91 (λ_=>by delta kz;kernel_rfl) h
def hz(G:ay)(N:Nat)(ag c:aa)(H:ae):O:=aI H (G 79 [ag,Y [41]] H) λd a=>D (c,a)
def LY(G:ay)(N:Nat):∀ad H,bo P G N (ak (ak (ak (ak (ak (ak (bs Tryd.f93))))))) (bh Tryd.f93) [] (bh Tryd.f93) ad H=hz G N (ad 0) (ad 3) H:=by
 refine bK (aH _) λad H=> ?_
 delta hz;kernel_rfl
def nG(G:ay)(N:Nat)(i:aa->aa->ae->O)(ag h:aa)(H:ae):O:=aI H (G 23 [ag,Y [44]] H) λbz a=>aW (D bz) (j (bW ag) λl=>j (aK P 59 l 1) λm=>j (an P a 3 m) λn=>j (aq P .add 3 X n (I J 1)) λo=>j (bW ag) λp=>j (aK P 59 p 1) λq=>a7 a (aV P a 3 q o) λc=>aI c (G 40 [ag,I J 0] c) λs d=>bS d (bV P (d).next 41 1 [(0,s)]) λu e=>aI e (cQ P e [41,41] h u) λv k=>i ag v k) (hz G N ag h a)
def nH(G:ay)(N:Nat):Nat->aa->aa->ae->O
 |0,_,_,_=>Z
 |n+1,ag,a,H=>nG G N (nH G N n) ag a H
def LX(G:ay)(N:Nat)(c:aa->aa->ae->O):∀ad H,bo P G N (a6 (a6 (a6 (ak (ak (ak (ak (ak (bs Tryd.f93))))))))) (λad H=>c (ad 0) (ad 3) H) [(0,(λad H=>hz G N (ad 0) (ad 3) H))] (bh Tryd.f93) ad H=nG G N c (ad 0) (ad 3) H:=by
 refine bK (aH _) λad H=> ?_
 delta nG;generalize hz G N=a;revert a;refine id ?_;intro a;kernel_rfl
def hV(G:ay)(N:Nat)(ag:aa)(H:ae):O:=aI H (G 77 [ag,Y [40]] H) λm d=>aI d (G 23 [ag,Y [41]] d) λl a=>aW (D l) (aI a (G 79 [ag,Y [41]] a) λn c=>D (aa.ar,c)) (aI a (G 40 [ag,I J 0] a) λi c=>bS c (bV P (c).next 41 1 [(0,i)]) λj e=>aI e (cQ P e [41,41] aa.ar j) λk h=>nH G N N ag k h)
def Kh(N:Nat){ag:aa}{H:ae}{r:aa×ae}(h:hV (aC P az) N ag H=D r):aC P az 93 [ag] H=D r:=cO N (S:=λG=>hV G N ag H) Tryd.func93 (λG=>dN ((aP ah ((aP ah ((aP ah ((aP ah ((aP ah ((aP ah (LY G N) ((dc ah ((ei (k:=λm ad H=>nH G N m (ad 0) (ad 3) H) ah (λad H=>ah) (λm=>LX G N (nH G N m)))))))) (aH _))) (aH _))) (aH _))) (aH _))) (aH _))) (by delta hV;generalize nH G N N=a;revert a;refine id ?_;intro a;kernel_rfl)) h
