/-
  Texts of one proof, laid together: T4 T5 U6 U7 Qb Qc Qd Qe Qf Qg Qh Lz Qi Ra Rb Rc Rd.
-/
import Derived.Test.YtghmbpmaafnodaaDoorMO
set_option linter.unusedVariables false
set_option linter.unusedSimpArgs false
set_option linter.defProp false
open Option renaming some→D,none→Z
open Bool renaming true→X,false→U
open Go.cn.ad renaming int→I,str→Y,bool→C
open Go.IntKind renaming i64→J
namespace Go.Proofs.YtghmbpmaafnodaaDoor
open Go.cn
def hv(T:List Tok)(s x y:an):Prop:=dL x y/\(x.ak=0->x.a8=s.a8/\x.bD=s.bD/\left T x<=left T s)
def fw{α:Type}(T:List Tok)(s:an)(x y:α×an):Prop:=cB x y/\(x.2.ak=0->x.2.a8=s.a8/\x.2.bD=s.bD/\left T x.2<=left T s)
def cB.eq{α:Type}{p q:α×an}(h:cB p q)(a:p.2.ak=0):q=p:=by
 rcases h with h|h
 ·exact h.2
 ·exact absurd a h.1
def cB.g_{α:Type}{p q:α×an}(h:cB p q):dL p.2 q.2:=by
 rcases h with⟨h,rfl⟩|⟨a,c,d⟩
 ·exact .inl ⟨h,rfl⟩
 ·exact .inr ⟨a,c,d⟩
def cB.hn{α:Type}{p q:α×an}(h:dL p.2 q.2)(i:p.2.ak=0->q.1=p.1):cB p q:=by
 rcases h with⟨h,e⟩|⟨a,c,d⟩
 ·exact .inl ⟨h,Prod.ext (i h) e⟩
 ·exact .inr ⟨a,c,d⟩
def fw.st{α:Type}{T:List Tok}{s:an}{x y:α×an}(h:fw T s x y):hv T s x.2 y.2:=⟨h.1.g_,h.2⟩
def dL.eq{x y:an}(h:dL x y)(a:x.ak=0):y=x:=by
 rcases h with h|h
 ·exact h.2
 ·exact absurd a h.1
def dL.ne{x y:an}(h:dL x y)(a:x.ak≠0):y.ak≠0:=by
 rcases h with h|h
 ·exact absurd h.1 a
 ·rw[h.2.1];exact a
section
variable {T:List Tok}(aw:T.length<=20000000)
include aw
theorem sY{s x y:an}(h:hv T s x y){z:aG}(e:kw z=4):hv T s (bR T z x).2 (a_ T z y):=by
 refine⟨qU h.1 e,λd=> ?_⟩;obtain⟨aQ,a2,a3⟩:=dj.kI z x d;obtain⟨a,c,b3⟩:=h.2 aQ;exact⟨a2.trans a,a3.trans c,Nat.le_trans (p2 af x z) b3⟩
theorem P5{x:an}{z:aG}(c:(bR T z x).2.ak=0):left T (bR T z x).2+1<=left T x:=by
 cases a:bo T x 4 z with
 |true=>
  have:(bR T z x).2=av x:=by simp[bR,a]
  rw[this];exact jN af bk a
 |false=>
  have:(bR T z x).2=bE T 2 x:=by simp[bR,a]
  rw[this]at c;exact(iJ bk c).elim
theorem mH{α:Type}{s x y:an}(h:hv T s x y){v c:α}(d:x.ak=0->c=v):fw T s (v,(bR T [59] x).2) (c,a_ T [59] y)/\((bR T [59] x).2.ak=0->left T (bR T [59] x).2+1<=left T s):=by
 have hw:=sY aw h (z:=[59]) bk;refine⟨⟨cB.hn hw.1 λa=>d (dj.kI [59] x a).1,hw.2⟩,λa=> ?_⟩;have:=P5 aw a;have:=(h.2 (dj.kI [59] x a).1).2.2;omega
omit aw in
theorem FQ{x:an}(a:x.ak=0)(c:x.bD=0)(d:0<=x.a8):lE x.at_ x.a8=x:=by
 cases x;simp only at a c d;subst a c;simp only[lE];rw[if_neg af]
theorem n9{s x y:an}(h:hv T s x y)(E:s.bD=0)(u:0<=s.a8):fw T s (c6 T x) (bG T y):=by
 by_cases a:x.ak=0
 ·obtain rfl:=h.1.eq a;obtain⟨d,m,b3⟩:=h.2 a;obtain⟨p,q,j,v,c,w⟩:=xS (T:=T) af T.length y (tt _ _) 0 800000000 800000000 af af af;have l:bG T y=q:=by simp only[bG,v]
  rw[l];have aB:=FQ a (m.trans E) (by rw[d];exact u);by_cases aC:p.2.ak=0
  ·obtain⟨-,e⟩:=(DO T 800000000).row 0 y p j aC;obtain⟨n,o⟩:=e (by rw[d];exact u);have k:c6 T y=p:=by
    unfold c6;rw[if_neg (by simp[a]),aB,j];simp only[aC,if_true];refine Prod.ext rfl ?_;rw[show p.2=⟨p.2.at_,p.2.a8,p.2.ak,p.2.bD⟩from rfl,n,o,aC,<-a]
   rw[k];exact⟨c,λ_=>⟨n.trans d,o.trans m,Nat.le_trans w b3⟩⟩
  ·have k:c6 T y=(.zero,{y with ak:=p.2.ak,bD:=p.2.bD}):=by
    unfold c6;rw[if_neg (by simp[a]),aB,j];simp only[aC,if_false]
   rw[k];rcases c with c|⟨z,A,B⟩
   ·exact absurd c.1 aC
   ·exact⟨.inr ⟨z,A,B⟩,λh=>absurd h aC⟩
 ·have F:=h.1.ne a;have aC:c6 T x=(.zero,x):=by simp[c6,a]
  have l:bG T y=(mM T y,y):=by simp only[bG,pO F 800000000 0 af af]
  rw[aC,l];refine⟨cB.hn h.1 λi=>absurd i a,λi=>absurd i a⟩
omit aw in
theorem G3(x:aG)(o:Int):∀(n:Nat) (s:an),iX T x n {s with a8:=o}={iX T x n s with a8:=o}
 |0,s=>rfl
 |n+1,s=>by
  have:(bR T x {s with a8:=o}).2={(bR T x s).2 with a8:=o}:=by
   have a:bo T {s with a8:=o} 4 x=bo T s 4 x:=rfl;simp only[bR,a];cases bo T s 4 x with
   |true=>rfl
   |false=>
    simp only[aK,bE];split<;>rfl
  simp only[YtghmbpmaafnodaaDoor.iX,this];exact G3 x o n _
omit aw in
theorem D7(o:Int):∀(n:Nat) (d:Int) (s:an),fF T n d {s with a8:=o}=match fF T n d s with
  | .inl p=> .inl (p.1,{p.2 with a8:=o})
  | .inr s'=> .inr {s' with a8:=o}
 |0,d,s=>by
  have a:bo T {s with a8:=o} 4 [91]=bo T s 4 [91]:=rfl;simp only[fF,a];cases bo T s 4 [91]with
  |true=>simp only[aR,bE];split<;>rfl
  |false=>rfl
 |n+1,d,s=>by
  have a:bo T {s with a8:=o} 4 [91]=bo T s 4 [91]:=rfl;simp only[fF,a];cases bo T s 4 [91]with
  |true=>exact D7 o n (d+1) (av s)
  |false=>rfl
omit aw in
theorem La(o:Int)(s:an):dD T {s with a8:=o}=((dD T s).1,{(dD T s).2 with a8:=o}):=by
 unfold dD;rw[D7];cases fF T 3 0 s with
 |inr s'=>rfl
 |inl p=>
  have a:∀x,bo T {p.2 with a8:=o} 3 x=bo T p.2 3 x:=λ_=>rfl
  simp only[iO,a];cases((al T p.2.at_).kind != 1&&(!bo T p.2 3 [105,110,116]&& !bo T p.2 3 [98,111,111,108]))with
  |true=>simp only[aR,bE];split<;>rfl
  |false=>
   simp only[aK];exact Prod.ext rfl (G3 [93] o p.1.toNat (av p.2))
omit aw in
theorem rX{y:an}(h:y.ak≠0):cO T y=(([],0),y):=by
 simp only[cO,gH,dP h,aK,fm,Bool.or_self,tK h];rfl
theorem vH{s x:an}(c:x.ak=0)(h:x.a8=s.a8/\x.bD=s.bD/\left T x<=left T s)(i:s.bD=0):fw T s (mX T x) (cO T x):=by
 obtain⟨l,d,b3⟩:=h;have o:x={(⟨x.at_,0,0,0⟩:an)with a8:=x.a8}:=by
  cases x;simp only at c d ⊢;rw[c,d,i]
 have k:=La (T:=T) x.a8 ⟨x.at_,0,0,0⟩;rw[<-o]at k;have aB:=of_same T x;rw[k]at aB;unfold mX;by_cases a:(dD T ⟨x.at_,0,0,0⟩).2.ak=0
 ·obtain⟨-,p,j⟩:=dj.of (T:=T) ⟨x.at_,0,0,0⟩ a;rw[if_pos a];have e:({x with at_:=(dD T ⟨x.at_,0,0,0⟩).2.at_}:an)={(dD T ⟨x.at_,0,0,0⟩).2 with a8:=x.a8}:=by
   have m:(dD T ⟨x.at_,0,0,0⟩).2.bD=0:=j;show _=(⟨(dD T ⟨x.at_,0,0,0⟩).2.at_,x.a8,(dD T ⟨x.at_,0,0,0⟩).2.ak,(dD T ⟨x.at_,0,0,0⟩).2.bD⟩:an);rw[c,a,m,d,i]
  rw[e];have n:=wZ (T:=T) af ⟨x.at_,0,0,0⟩;refine⟨aB,λ_=>⟨l,?_,?_⟩⟩
  ·show(dD T ⟨x.at_,0,0,0⟩).2.bD=s.bD;rw[i];exact j
  ·refine Nat.le_trans (Nat.le_trans n ?_) b3;unfold left;simp[c]
 ·rw[if_neg a];rcases aB with aB|⟨g1,g2,g3⟩
  ·exact absurd aB.1 a
  ·exact⟨.inr ⟨g1,g2,g3⟩,λh=>absurd h a⟩
theorem vI{s x:an}(l:x.ak=0)(h:x.a8=s.a8/\x.bD=s.bD/\left T x<=left T s)(m:s.bD=0):fw T s (iC T x) (df T x):=by
 have n:(x.ak==0)=true:=by simp[l]
 have base:hv T s (av (bif (al T x.at_).kind != 1 then bE T 2 x else x)) (bq T x).2/\((av (bif (al T x.at_).kind != 1 then bE T 2 x else x)).ak=0->(bq T x).1=(al T x.at_).text):=by
  by_cases d:(al T x.at_).kind=1
  ·have i:((al T x.at_).kind != 1)=false:=by simp[d]
   have j:((al T x.at_).kind==1)=true:=by simp[d]
   simp only[i,aK,bq,n,j,Bool.and_self,aR];have q:=jM (T:=T) af l (by rw[d];decide);exact⟨⟨dL.refl _,λ_=>⟨h.1,h.2.1,af⟩⟩,λ_=>trivial⟩
  ·have i:((al T x.at_).kind != 1)=true:=by simpa using d
   have j:((al T x.at_).kind==1)=false:=by simpa using d
   simp only[i,aR,bq,j,Bool.and_false,aK];have a:(bE T 2 x).ak≠0:=λc=>iJ bk c
   exact⟨⟨.inr ⟨a,rfl,rfl⟩,λc=>absurd c a⟩,λc=>absurd c a⟩
 have e:hv T s (colonS T x) (a_ T [58] (bq T x).2):=sY aw base.1 (z:=[58]) bk;unfold iC df;by_cases a:(colonS T x).ak=0
 ·rw[if_neg (by simp[a])];have o:=base.2 (dj.kI [58] _ a).1;rw[e.1.eq a,o];have k:=vH aw a (e.2 a) m;exact⟨cB.hn k.1.g_ λc=>by rw[k.1.eq c],k.2⟩
 ·rw[if_pos a];have p:=e.1.ne a;rw[rX p];exact⟨cB.hn e.1 λc=>absurd c a,λc=>absurd c a⟩
def n4{α:Type}(T:List Tok)(s:an)(p:α×an):Prop:=p.2.ak=0->left T p.2+1<=left T s
theorem HU{s x:an}(e:x.ak=0)(h:x.a8=s.a8/\x.bD=s.bD/\left T x<=left T s)(d:s.bD=0):fw T s (Af T x) (pM T x):=by
 have a:=vI aw e h d;exact(mH aw a.st λc=>by rw[a.1.eq c]).1
theorem HV{s x:an}(k:x.ak=0)(h:x.a8=s.a8/\x.bD=s.bD/\left T x<=left T s)(d:s.bD=0)(l:0<=s.a8):fw T s (C9 T x) (p4 T x):=by
 have e:=vI aw k h d;have he:=n9 aw (sY aw e.st (z:=[61]) bk) d l;refine(mH aw he.st λa=> ?_).1;have i:(bR T [61] (iC T x).2).2.ak=0:=by
  by_cases c:(bR T [61] (iC T x).2).2.ak=0
  ·exact c
  ·rw[show c6 T (bR T [61] (iC T x).2).2=(.zero,(bR T [61] (iC T x).2).2) by simp[c6,c]]at a;exact absurd a c
 have j:=(dj.kI [61] _ i).1;rw[he.1.eq a,e.1.eq j]
theorem HY{s x:an}(h:hv T s x x)(c:s.bD=0)(d:0<=s.a8):fw T s (Ex T x) (tX T x):=by
 have he:=n9 aw h c d;exact(mH aw he.st λa=>by rw[he.1.eq a]).1
omit aw in
theorem mR(s:an)(x:aG)(h:kw x=4):aZ T s x=bo T s 4 x:=by rw[aZ,h]
theorem HZ{s x:an}(h:hv T s x x)(c:s.bD=0)(d:0<=s.a8):fw T s (uf T x) (sh T x):=by
 unfold uf sh;rw[mR x [59] bk];cases bo T x 4 [59]with
 |true=>exact(mH aw h λ_=>rfl).1
 |false=>
  have he:=n9 aw h c d;exact(mH aw he.st λa=>by rw[he.1.eq a]).1
theorem H2{s x:an}(h:hv T s x x)(e:aJ)(c:s.bD=0)(i:0<=s.a8):fw T s (u0 T e x) (uZ T e x)/\n4 T s (u0 T e x):=by
 have d:hv T s (bif hB e then bE T 2 x else x) (bif hB e then bE T 2 x else x):=by
  cases hB e with
  |false=>exact h
  |true=>exact⟨dL.refl _,λa=>(iJ (T:=T) (s:=x) (e:=2) bk a).elim⟩
 have he:=n9 aw (sY aw d (z:=[61]) bk) c i;exact mH aw he.st λa=>by rw[show bG T (hR T e x)=c6 T (jj T e x)from he.1.eq a]
theorem HX{s x:an}(h:hv T s x x)(d:s.bD=0)(i:0<=s.a8):fw T s (m_ T x) (jv T x)/\n4 T s (m_ T x):=by
 have he:=n9 aw h d i;unfold m_ jv;rw[mR _ [61] bk,mR _ [59] bk];by_cases a:(c6 T x).2.ak=0
 ·rw[he.1.eq a];have j:hv T s (c6 T x).2 (c6 T x).2:=⟨dL.refl _,he.2⟩;cases bo T (c6 T x).2 4 [61]with
  |true=>exact H2 aw j _ d i
  |false=>
   refine mH aw ?_ λ_=>rfl
   cases(bo T (c6 T x).2 4 [59]&&(c6 T x).1.kind != 7)with
   |false=>exact j
   |true=>exact⟨dL.refl _,λc=>(iJ (T:=T) (s:=(c6 T x).2) (e:=2) bk c).elim⟩
 ·have k:=he.1.g_.ne a;simp only[gS a,gS k,aK,Bool.false_and];exact mH aw he.st λc=>absurd c a
end
section
set_option linter.unusedSectionVars false
def sU(T:List Tok)(k:Nat):Prop:=∀s:an,s.ak=0->s.bD=0->0<=s.a8->left T s<=k->∀n a,10*k+10<=n->10*k+10<=a->∃p q,sD T n s=D p/\nQ T a s=D q/\fw T s p q/\n4 T s p
def vh(T:List Tok)(k:Nat):Prop:=∀s x y:an,hv T s x y->s.bD=0->0<=s.a8->left T x<=k->∀n a,10*k+5<=n->10*k+5<=a->∃p q,kV T n x=D p/\gC T a y=D q/\fw T s p q/\n4 T x p
section
variable {T:List Tok}(aw:T.length<=20000000)
def u7{x:an}(h:x.ak≠0)(n:Nat)(l:List br):lF T (n+1) l x=D (l,x):=by
 have a:(x.ak==0)=false:=by simpa using h
 simp[lF,a]
def rQ{x:an}(h:x.ak≠0)(n:Nat)(l:List br):iN T (n+1) l x=D (l,x):=by
 have a:(x.ak==0)=false:=by simpa using h
 simp[iN,a]
include aw
theorem HW{K:Nat}(H:∀j,j<=K->sU T j):∀(c:Nat),c<=K->∀(s x y:an),hv T s x y->s.bD=0->0<=s.a8->left T x<=c->∀n e,10*c+12<=n->10*c+12<=e->∀l l',(x.ak=0->l'=l)->
  ∃p q,lF T n l x=D p/\iN T e l' y=D q/\fw T s p q:=by
 intro c
 induction c with
 |zero=>
  intro G s x y h v w F n e N O l l' he;obtain⟨n,rfl⟩:∃m,n=m+2:=⟨n-2,af⟩;obtain⟨e,rfl⟩:∃m,e=m+2:=⟨e-2,af⟩;by_cases a:x.ak=0
  ·obtain rfl:=h.1.eq a;rw[he a];obtain⟨o,u,b3⟩:=h.2 a;have E:(y.ak==0)=true:=by simp[a]
   simp only[lF,iN,E,mR y [125] bk,Bool.true_and];cases bo T y 4 [125]with
   |true=>exact⟨_,_,rfl,rfl,.inl ⟨a,rfl⟩,h.2⟩
   |false=>
    simp only[Bool.not_false,aR];obtain⟨p,q,z,A,i,B⟩:=H 0 af y a (u.trans v) (by rw[o];exact w) F (n+1) (e+1) af af;rw[z,A];simp only[Option.bind_some];have aC:p.2.ak≠0:=λd=>by have:=B d;omega
    have k:=i.1.g_.ne aC;have L:=u7 (T:=T) aC n (l++[p.1]);have M:=rQ (T:=T) k e (l++[q.1]);simp only[lF]at L;simp only[iN]at M;rw[L,M];exact⟨_,_,rfl,rfl,cB.hn i.1.g_ λd=>absurd d aC,λd=>absurd d aC⟩
  ·exact⟨_,_,u7 a _ _,rQ (h.1.ne a) _ _,cB.hn h.1 λd=>absurd d a,λd=>absurd d a⟩
 |succ c P=>
  intro G s x y h v w F n e N O l l' he;obtain⟨n,rfl⟩:∃m,n=m+2:=⟨n-2,af⟩;obtain⟨e,rfl⟩:∃m,e=m+2:=⟨e-2,af⟩;by_cases a:x.ak=0
  ·obtain rfl:=h.1.eq a;rw[he a];obtain⟨o,u,b3⟩:=h.2 a;have E:(y.ak==0)=true:=by simp[a]
   rw[lF,iN];simp only[E,mR y [125] bk,Bool.true_and];cases bo T y 4 [125]with
   |true=>exact⟨_,_,rfl,rfl,.inl ⟨a,rfl⟩,h.2⟩
   |false=>
    simp only[Bool.not_false,aR];obtain⟨p,q,z,A,i,B⟩:=H (c+1) G y a (u.trans v) (by rw[o];exact w) F (n+1) (e+1) af af;rw[z,A];simp only[Option.bind_some];by_cases aC:p.2.ak=0
    ·have k:=i.1.eq aC;have Q:=B aC;obtain⟨d1,d2,d3⟩:=i.2 aC;rw[k];exact P af s p.2 p.2 ⟨dL.refl _,λ_=>⟨d1.trans o,d2.trans u,Nat.le_trans d3 b3⟩⟩ v w af (n+1) (e+1) af af _ _ λ_=>rfl
    ·have k:=i.1.g_.ne aC;exact⟨_,_,u7 aC _ _,rQ k _ _,cB.hn i.1.g_ λd=>absurd d aC,λd=>absurd d aC⟩
  ·exact⟨_,_,u7 a _ _,rQ (h.1.ne a) _ _,cB.hn h.1 λd=>absurd d a,λd=>absurd d a⟩
theorem vG{s x y:an}{e:Int}(he:e≠0)(c:Nat)(h:dL (bE T e x) (ct T [123] y))(k:2<=c):
  ∃p q,D (([]:List br),bE T e x)=D p/\gC T c y=D q/\fw T s p q/\n4 T x p:=by
 obtain⟨c,rfl⟩:∃m,c=m+2:=⟨c-2,af⟩;have d:(bE T e x).ak≠0:=λa=>iJ he a
 have i:=h.ne d;rw[gC,rQ i,Option.bind_some];have j:dm T [125] (ct T [123] y)=dQ (ct T [123] y):=by
  simp only[dm,a_,dP i,aK,eF i]
 refine⟨_,_,rfl,rfl,⟨?_,λa=>absurd a d⟩,λa=>absurd a d⟩;simp only[j];rcases h with h|⟨g1,g2,g3⟩
 ·exact absurd h.1 d
 ·exact .inr ⟨g1,g2,g3⟩
theorem y2{k:Nat}(R:∀j,j<k->sU T j):vh T k:=by
 intro s x y h L P W n c ab ad;obtain⟨n,rfl⟩:∃m,n=m+1:=⟨n-1,af⟩;rw[kV];by_cases d:x.ak=0
 ·obtain rfl:=h.1.eq d;obtain⟨u,w,b3⟩:=h.2 d;cases e:bo T y 4 [123]with
  |false=>
   refine vG aw bk c ?_ af;have:ct T [123] y=eB (bE T 2 y):=by simp[ct,a_,mR y [123] bk,e]
   rw[this];exact .inr ⟨λa=>iJ bk a,rfl,rfl⟩
  |true=>
   simp only[aR];by_cases l:50<=y.a8
   ·rw[if_pos l];refine vG aw bk c ?_ af;have:ct T [123] y=bE T 4 y:=by simp[ct,mR y [123] bk,e,l]
    rw[this];exact .refl _
   ·rw[if_neg l];have Q:ct T [123] y={y with at_:=eH (y.at_+1),a8:=eH (y.a8+1)}:=by
     simp only[ct,a_,mR y [123] bk,e,l,decide_false,Bool.and_false,aK,aR];rfl
    have V:1<=k:=by
     have:=jN (T:=T) af (s:=y) bk e;omega
    have O:=jN (T:=T) af (s:=y) bk e;obtain⟨c,rfl⟩:∃m,c=m+1:=⟨c-1,af⟩;rw[gC,Q];obtain⟨z,F⟩:=u9 (o:=y.a8) (by rw[u];exact P) af;have aa:left T {y with at_:=eH (y.at_+1),a8:=eH (y.a8+1)}+1<=left T y:=O;obtain⟨p,q,v,H,i⟩:=HW aw (K:=k-1) (λj S=>R j af) (k-1) (bm _) {y with at_:=eH (y.at_+1),a8:=eH (y.a8+1)} _ _ ⟨dL.refl _,λ_=>⟨rfl,rfl,bm _⟩⟩ (w.trans L) (by show(0:Int)<=eH (y.a8+1);rw[z,u];omega) af n c af af [] [] λ_=>rfl
    rw[v,H];simp only[Option.bind_some];have M:=lP (T:=T) i.1.g_ (x:=[125]) bk;have N:dL (bR T [125] (dQ p.2)).2 (dm T [125] q.2):=M;refine⟨_,_,rfl,rfl,⟨cB.hn N λa=> ?_,λa=> ?_⟩,λa=> ?_⟩
    ·have:=(dj.kI [125] _ a).1;rw[i.1.eq this]
    ·obtain⟨d1,d2,d3⟩:=dj.kI [125] _ a;obtain⟨A,B,G⟩:=i.2 d1;refine⟨?_,d3.trans (B.trans w),?_⟩
     ·rw[d2];show eH (p.2.a8-1)=s.a8;rw[A];show eH (eH (y.a8+1)-1)=s.a8;rw[z,F,u]
     ·have hw:=p2 (T:=T) af (dQ p.2) [125];rw[w1]at hw;have aB:left T (bR T [125] (dQ p.2)).2<=left T s:=af;exact aB
    ·obtain⟨d1,d2,d3⟩:=dj.kI [125] _ a;obtain⟨A,B,G⟩:=i.2 d1;have hw:=p2 (T:=T) af (dQ p.2) [125];rw[w1]at hw;have aB:left T (bR T [125] (dQ p.2)).2+1<=left T y:=af;exact aB
 ·rw[gS d,aK];refine vG aw bk c ?_ af;have E:=h.1.ne d;have:ct T [123] y=eB y:=by simp[ct,a_,dP E,eF E]
  rw[this,eF d];rcases h.1 with v|⟨g1,g2,g3⟩
  ·exact absurd v.1 d
  ·exact .inr ⟨g1,g2,g3⟩
omit aw in
theorem oz{s:an}(a:s.ak=0){x:aG}(c:kw x=3):aZ T s x=((al T s.at_).kind==3&&(al T s.at_).text==x):=by
 simp[aZ,c,bo,a]
theorem y1{s:an}{p q:br×an}(pos:Int)(h:fw T s p q):fw T s (p.1.at pos,p.2) (q.1.at pos,q.2):=⟨cB.hn h.1.g_ λa=>by rw[h.1.eq a],h.2⟩
theorem H3{k:Nat}(A:∀j,j<k->vh T j):sU T k:=by
 intro s d c i W n l aa ab;obtain⟨n,rfl⟩:∃m,n=m+2:=⟨n-2,af⟩;obtain⟨l,rfl⟩:∃m,l=m+2:=⟨l-2,af⟩;have self:hv T s s s:=⟨dL.refl _,λ_=>⟨rfl,rfl,bm _⟩⟩;rw[sD,nQ];simp only[oz d (x:=[118,97,114]) bk,oz d (x:=[108,101,116]) bk,oz d (x:=[105,102]) bk,oz d (x:=[119,104,105,108,101]) bk,oz d (x:=[114,101,116,117,114,110]) bk,oz d (x:=[112,114,105,110,116]) bk];have plain:∃p q,(D (m_ T s)).bind (λp=>D (p.1.at (al T s.at_).pos,p.2))=D p/\(D (jv T s)).bind (λp=>D (p.1.at (al T s.at_).pos,p.2))=D q/\fw T s p q/\n4 T s p:=by
  obtain⟨o,u⟩:=HX aw self c i;exact⟨_,_,rfl,rfl,y1 aw _ o,u⟩
 cases Q:(al T s.at_).kind==3 with
 |false=>
  simp only[aK,Bool.false_and,Bool.or_self];exact plain
 |true=>
  simp only[aR,Bool.true_and];have R:(al T s.at_).kind=3:=by simpa using Q
  have S:=jM (T:=T) af d (by rw[R];decide);have gs:hv T (av s) (av s) (av s):=⟨dL.refl _,λ_=>⟨rfl,rfl,bm _⟩⟩;have up:∀{p q:br×an},fw T (av s) p q->∃B L,(D p).bind (λp=>D (p.1.at (al T s.at_).pos,p.2))=D B/\(D q).bind (λp=>D (p.1.at (al T s.at_).pos,p.2))=D L/\fw T s B L/\n4 T s B:=λ{p q} h=>by
   refine⟨_,_,rfl,rfl,y1 aw _ ⟨h.1,λa=> ?_⟩,λa=> ?_⟩
   ·obtain⟨E,F,N⟩:=h.2 a;exact⟨E,F,af⟩
   ·obtain⟨E,F,N⟩:=h.2 a;show left T p.2+1<=left T s;omega
  have G:=gs.2 d;cases t1:(al T s.at_).text==[118,97,114]with
  |true=>
   have t2:((al T s.at_).text==[108,101,116])=false:=by
    have:(al T s.at_).text=[118,97,114]:=by simpa using t1
    rw[this];rfl
   simp only[aR,Bool.true_or,t2,aK];exact up (HU aw d G c)
  |false=>
   simp only[aK,Bool.false_or];cases t2:(al T s.at_).text==[108,101,116]with
   |true=>
    simp only[aR];exact up (HV aw d G c i)
   |false=>
    simp only[aK];cases t3:(al T s.at_).text==[105,102]with
    |true=>
     simp only[aR];have he:=n9 aw gs c i;rw[s9];have hle:left T (c6 T (av s)).2<=k-1:=by
      by_cases a:(c6 T (av s)).2.ak=0
      ·have:=(he.2 a).2.2;omega
      ·rw[jL a];omega
     obtain⟨p,q,o,u,e,v⟩:=A (k-1) af (av s) _ _ he.st c i hle n (l+1) af af;rw[o,u];simp only[Option.bind_some];by_cases aC:p.2.ak=0
     ·have y:=e.1.eq aC;have z:=v aC;have w:(c6 T (av s)).2.ak=0:=by
       by_cases a:(c6 T (av s)).2.ak=0
       ·exact a
       ·rw[jL a]at z;omega
      rw[y,he.1.eq w,oz aC (x:=[101,108,115,101]) bk];have O:bo T p.2 3 [101,108,115,101]=((al T p.2.at_).kind==3&&(al T p.2.at_).text==[101,108,115,101]):=by simp[bo,aC]
      rw[<-O];cases P:bo T p.2 3 [101,108,115,101]with
      |false=>
       simp only[aK];exact up ⟨.inl ⟨aC,rfl⟩,e.2⟩
      |true=>
       simp only[aR];have V:=jN (T:=T) af (s:=p.2) bk P;obtain⟨f1,f2,f3⟩:=e.2 aC;obtain⟨K,M,g1,g2,g3,g4⟩:=A (k-1) af (av s) (av p.2) (av p.2) ⟨dL.refl _,λ_=>⟨f1,f2,af⟩⟩ c i af n (l+1) af af;rw[g1,g2];simp only[Option.bind_some];refine up (p:=(br.mk {kind:=5} [(c6 T (av s)).1] p.1 K.1,K.2)) (q:=(br.mk {kind:=5} [(c6 T (av s)).1] p.1 M.1,M.2)) ?_;exact⟨cB.hn g3.1.g_ λa=>by simp only[g3.1.eq a],g3.2⟩
     ·have y:=e.1.g_.ne aC;rw[gS aC,dP y];simp only[aK];exact up ⟨cB.hn e.1.g_ λa=>absurd a aC,λa=>absurd a aC⟩
    |false=>
     simp only[aK];cases t4:(al T s.at_).text==[119,104,105,108,101]with
     |true=>
      simp only[aR];have he:=n9 aw gs c i;rw[ud];have hle:left T (c6 T (av s)).2<=k-1:=by
       by_cases a:(c6 T (av s)).2.ak=0
       ·have:=(he.2 a).2.2;omega
       ·rw[jL a];omega
      obtain⟨p,q,o,u,e,v⟩:=A (k-1) af (av s) _ _ he.st c i hle n (l+1) af af;rw[o,u];simp only[Option.bind_some];refine up (p:=(br.mk {kind:=6} [(c6 T (av s)).1] p.1 [],p.2)) (q:=(br.mk {kind:=6} [(bG T (av s)).1] q.1 [],q.2)) ?_;refine⟨cB.hn e.1.g_ λa=> ?_,e.2⟩;have z:=v a;have w:(c6 T (av s)).2.ak=0:=by
       by_cases H:(c6 T (av s)).2.ak=0
       ·exact H
       ·rw[jL H]at z;omega
      simp only[e.1.eq a,he.1.eq w]
     |false=>
      simp only[aK];cases t5:(al T s.at_).text==[114,101,116,117,114,110]with
      |true=>
       simp only[aR];exact up (HZ aw gs c i)
      |false=>
       simp only[aK];cases t6:(al T s.at_).text==[112,114,105,110,116]with
       |true=>
        simp only[aR];exact up (HY aw gs c i)
       |false=>
        simp only[aK];exact plain
theorem Pz:∀k,sU T k:=by
 intro k
 induction k using Nat.strongRecOn with
 |_ k a=>exact H3 aw λj d=>y2 aw λi c=>a i af
theorem IV(k:Nat):vh T k:=y2 aw λj _=>Pz aw j
theorem I1(at_ a8:Int):∃p q,kV T 800000000 (lE at_ a8)=D p/\gC T 800000000 (lE at_ a8)=D q/\jS q.1 q.2=jS p.1 p.2/\fw T (lE at_ a8) p q:=by
 have j:(0:Int)<=(lE at_ a8).a8:=by
  show(0:Int)<=if a8<0 then 0 else a8
  split<;>omega
 obtain⟨p,q,d,e,a,-⟩:=IV aw T.length (lE at_ a8) _ _ ⟨dL.refl _,λ_=>⟨rfl,rfl,bm _⟩⟩ rfl j (tt _ _) 800000000 800000000 af af;refine⟨p,q,d,e,?_,a⟩;rcases a.1 with⟨h,rfl⟩|⟨h,c,i⟩
 ·rfl
 ·have a1:¬q.2.ak=0:=by rw[c];exact h
  simp only[jS,if_neg h,if_neg a1,c,i]
end
end
structure gQ(T:List Tok):Prop where
 n:T.length<=20000000
 g:Good T ((T.length:Int)-1)
def k8(au bw bA bu:ad)(s:an):bW:= .row U 7 [[au,I J s.at_,bw,bA,bu,I J s.ak,I J s.bD]]
structure fz(H:ae)(r:Nat)(T:List Tok)(au bw bA bu:ad)(s:an):Prop where
 rd:H.get r=some (k8 au bw bA bu s)
 bL:fe H au T
 a0:0<=s.at_
 aQ:s.at_<T.length
 n:T.length<=20000000
 z:s.ak=0->s.bD=0
 o:s.a8=0
 one:bw.one=true/\bA.one=true/\bu.one=true
section
variable {H H':ae}{r:Nat}{T:List Tok}{au bw bA bu:ad}{s s':an}
def fz.lt(h:fz H r T au bw bA bu s):r<H.next:=ae.aV h.rd
def fz.aL(h:fz H r T au bw bA bu s)(p:aP H H'):fz H' r T au bw bA bu s:=⟨p.get h.rd,h.bL.aL p,h.a0,h.aQ,h.n,h.z,h.o,h.one⟩
def fz.Gl(h:fz H r T au bw bA bu s)(m:ca r H H'):fe H' au T:=h.bL.aW λl ro els e=>m.get e (by
 rintro rfl;rw[h.rd]at e;simp only[k8,aS,bW.row.injEq]at e;omega)
def fz.set(h:fz H r T au bw bA bu s)(s':an)(a0:0<=s'.at_)(aQ:s'.at_<T.length)(z:s'.ak=0->s'.bD=0)(o:s'.a8=0):ca r H (H.set r (k8 au bw bA bu s'))/\fz (H.set r (k8 au bw bA bu s')) r T au bw bA bu s':=by
 have m:ca r H (H.set r (k8 au bw bA bu s')):=c7.cW (S:=(· =r)) (c7.refl _ _) (.inl rfl) _;exact⟨m,ae.get_set_same h.lt,h.Gl m,a0,aQ,h.n,z,o,h.one⟩
def fz.fin(h:fz H r T au bw bA bu s)(m:ca r H H')(a:H'.get r=D (k8 au bw bA bu s'))(a0:0<=s'.at_)(aQ:s'.at_<T.length)(z:s'.ak=0->s'.bD=0)(o:s'.a8=0):fz H' r T au bw bA bu s':=⟨a,h.Gl m,a0,aQ,h.n,z,o,h.one⟩
def gQ.next(aw:gQ T)(h:(al T s.at_).kind≠0):s.at_+1<T.length:=by have:=aw.g.lt _ h;omega
def fe.rd(h:fe H au T):bh (D au) au=true:=by
 rcases h with⟨rfl,_⟩|⟨l,i,cap,rfl,_⟩
 ·rfl
 ·exact l1 _ _ _ _ _
def eC(T:List Tok)(b:Bool)(a c:Int)(s:an):an:=bif b&&decide (c<=a)then bE T 4 s else s
def eP(T:List Tok)(s:an):Tok×an:=bif (al T s.at_).kind != 1 then(.none,bE T 2 s)else(al T s.at_,av s)
def th(at_ e a:Int)(s:an):an:=if e≠0 then {s with ak:=e,bD:=a}else {s with at_:=at_}
def mW(T:List Tok)(s:an):(aG×Int)×an:=if s.ak≠0 then(([],0),s)else mX T s
end
def bF.cells(p:bF):List ad:=[Y p.name,Y p.cp,I J p.c2,I J p.pos]
def e5:hd bF:=⟨4,λ_ _ p cs=>cs=p.cells,λh=>by rw[h];exact⟨rfl,rfl⟩,λ_ h=>h⟩
def rS:kN 23 68 4:=⟨ah,yn,⟨_,(by kernel_rfl:hO P 68=D 48),bk⟩,⟨_,(by kernel_rfl:eU P 68=D (.agg [Y [],Y [],I J 0,I J 0])),rfl,rfl⟩,bk⟩
def fW(T:List Tok)(s:an):bF×an:=(⟨(eP T s).1.text,(mW T (bR T [58] (eP T s).2).2).1.1,(mW T (bR T [58] (eP T s).2).2).1.2,(eP T s).1.pos⟩,(mW T (bR T [58] (eP T s).2).2).2)
section
variable {H H':ae}{r:Nat}{T:List Tok}{au bw bA bu:ad}{s s':an}
def c_.pm{ok:Nat->Prop}{l:List bF}{v:ad}(h:c_ e5 ok H l v)(p:bF)(q:ok (H.next+1))(o:l.length<=1000000000):
  ∃e H',c0 P (H.push (.row U 4 [p.cells])) [23,23] v (.aD H.next 0 1 4 (D 1))=D (e,H')/\c_ e5 ok H' (l++[p]) e/\H.next+1<=H'.next/\(∀k,k<H.next->¬ok k->H'.get k=H.get k):=by
 obtain⟨e,H',a,b,c,d⟩:=c_.app (K:=e5) (ok':=ok) rS h (okE:=λ_=>False) (a:=p) (cs:=p.cells) rfl (λ_ _ i=>i.elim) (λ_ _ i _=>i) q o;refine⟨e,H',a,b,c,λk n s=>d k n ?_⟩;rintro L j rfl;rcases h with⟨rfl,_⟩|⟨L',els,rfl,m,_⟩
 ·cases j
 ·cases j;exact s m
def c_.k2{ok:Nat->Prop}{l:List bF}{v:ad}(h:c_ e5 ok H l v)(H':ae):cg P H' .len [23] [v]=D (I J l.length):=by
 rcases h with⟨rfl,rfl⟩|⟨L,els,rfl,_⟩
 ·exact tC
 ·exact rO
def c_.rd{α:Type}{K:hd α}{ok:Nat->Prop}{l:List α}{v:ad}(h:c_ K ok H l v):bh (D v) v=true:=by
 rcases h with⟨rfl,_⟩|⟨L,els,rfl,_⟩
 ·rfl
 ·exact l1 _ _ _ _ _
end
def mP(T:List Tok):Nat->List bF->an->aa (List bF)
 |0,_,_=>Z
 |n+1,l,s=>bif s.ak==0&& !bo T s 4 [125]then
  mP T n (l++[(fW T (eC T ((al T s.at_).kind==1) l.length 8 s)).1]) (bR T [59] (fW T (eC T ((al T s.at_).kind==1) l.length 8 s)).2).2
  else D (l,s)
abbrev iE(r n:Nat):ae->ae->Prop:=c7 λk=>k=r\/n<=k
section
variable {H H':ae}{r:Nat}{T:List Tok}{au bw bA bu:ad}{s s':an}
def fz.ov{H1:ae}{s0:an}(h:fz H1 r T au bw bA bu s0)(m:iE r H1.next H1 H')(a:H'.get r=D (k8 au bw bA bu s'))(a0:0<=s'.at_)(aQ:s'.at_<T.length)(z:s'.ak=0->s'.bD=0)(o:s'.a8=0):fz H' r T au bw bA bu s':=
 ⟨a,h.bL.aW λl ro els e=>m.get e (by
  have:=ae.aV e;rintro(rfl|c)
  ·rw[h.rd]at e;simp only[k8,aS,bW.row.injEq]at e;omega
  ·omega),a0,aQ,h.n,z,o,h.one⟩
def ca.tJ{n:Nat}(m:ca r H H'):iE r n H H':=⟨m.1,λl a aB=>m.2 l a λe=>aB (.inl e)⟩
structure fk(H1 H:ae)(r c n2 esz:Nat)(T:List Tok)(au bw bA bu:ad)(x:ad)(rest:List ad)(l:List bF)(v:ad)(s:an):Prop where
 cP:fz H r T au bw bA bu s
 cell:H.get c=some (.row false esz [x::v::rest])
 gR:c_ e5 (bn n2) H l v
 m:iE r H1.next H1 H
 bz:r<H1.next
 bH:H1.next<=c
 bZ:c<n2
 dF:n2<=H.next
def fk.mut{H1:ae}{c n2 esz:Nat}{x:ad}{rest:List ad}{l:List bF}{v:ad}(h:fk H1 H r c n2 esz T au bw bA bu x rest l v s)(m:ca r H H')(cP:fz H' r T au bw bA bu s'):fk H1 H' r c n2 esz T au bw bA bu x rest l v s':=by
 have bz:=h.bz;have bH:=h.bH;have bZ:=h.bZ;have dF:=h.dF;exact⟨cP,m.get h.cell af,h.gR.aW (cY.mut m λk a=>by unfold bn at a;omega),h.m.trans m.tJ,bz,bH,bZ,by have:=m.1;omega⟩
def fk.add{H1:ae}{c n2 esz:Nat}{x:ad}{rest:List ad}{l:List bF}{v:ad}(u:fz H1 r T au bw bA bu s')(h:fk H1 H r c n2 esz T au bw bA bu x rest l v s)(w:l.length<=1000000000)(p:bF):
  ∃i H',c0 P (H.push (.row U 4 [p.cells])) [23,23] v (.aD H.next 0 1 4 (D 1))=D (i,H')/\H.next+1<=H'.next/\i.one=X/\H'.get c=D (.row U esz [x::v::rest])/\(H.push (.row U 4 [p.cells])).get c=D (.row U esz [x::v::rest])/\fk H1 (H'.set c (.row U esz [x::i::rest])) r c n2 esz T au bw bA bu x rest (l++[p]) i s:=by
 have bz:=h.bz;have bH:=h.bH;have bZ:=h.bZ;have dF:=h.dF;obtain⟨i,H',a,b,q,d⟩:=h.gR.pm p (by unfold bn;omega) w;have gc:H'.get c=D (.row U esz [x::v::rest]):=by rw[d c af (by unfold bn;omega)];exact h.cell
 have lc:=ae.aV gc;have n:iE r H1.next H1 (H'.set c (.row U esz [x::i::rest])):=h.m.trans ⟨by simp;omega,λk j aB=>by
  have y:k≠r:=λe=>aB (.inl e)
  have A:¬H1.next<=k:=λe=>aB (.inr e)
  rw[ae.get_set_other af,d k j (by unfold bn;omega)]⟩
 refine⟨i,H',a,q,b.one,gc,(aP.push _ _).get h.cell,?_,ae.get_set_same lc,b.aW λk x j g=>⟨j,by unfold bn at j;rw[ae.get_set_other af];exact g⟩,n,bz,bH,bZ,by simp;omega⟩;exact u.ov n (by rw[ae.get_set_other af,d r af (by unfold bn;omega)];exact h.cP.rd) h.cP.a0 h.cP.aQ h.cP.z h.cP.o
end
def hV:hd e9:=⟨3,λH ok x cs=>∃v,cs=[Y x.name,v,I J x.pos]/\dw e5 H ok x.fields v,λ⟨v,h,k⟩=>by rw[h];exact⟨rfl,by simp only[List.all_cons,List.all_nil,h0,hF,k.one,Bool.and_self]⟩,λp ⟨v,h,k⟩=>⟨v,h,k.aW p⟩⟩
def gF:hd Fn:=⟨7,λH ok x cs=>∃v w,cs=[Y x.name,v,C x.has,Y x.dB,I J x.rd,w,I J x.pos]/\dw e5 H ok x.params v/\da H ok x.body w,λ⟨v,w,h,k,q⟩=>by rw[h];exact⟨rfl,by simp only[List.all_cons,List.all_nil,h0,hF,rZ,k.one,q.eb,Bool.and_self]⟩,λp ⟨v,w,h,k,q⟩=>⟨v,w,h,k.aW p,q.aW p.s⟩⟩
def DK:kN 22 65 3:=⟨ah,ym,⟨_,(by kernel_rfl:hO P 65=D 48),bk⟩,⟨_,(by kernel_rfl:eU P 65=D (.agg [Y [],.az,I J 0])),rfl,rfl⟩,bk⟩
def DJ:kN 24 73 7:=⟨ah,yo,⟨_,(by kernel_rfl:hO P 73=D 104),bk⟩,⟨_,(by kernel_rfl:eU P 73=D (.agg [Y [],.az,C U,Y [],I J 0,.az,I J 0])),rfl,rfl⟩,bk⟩
section
variable {H H' H1:ae}{r:Nat}{T:List Tok}{au bw bA bu:ad}{s s':an}
def c_.tv{ok:Nat->Prop}{l:List e9}{v:ad}(h:c_ hV ok H l v)(H':ae):cg P H' .len [22] [v]=D (I J l.length):=by
 rcases h with⟨rfl,rfl⟩|⟨L,els,rfl,_⟩
 ·exact tB
 ·exact rN
def c_.tw{ok:Nat->Prop}{l:List Fn}{v:ad}(h:c_ gF ok H l v)(H':ae):cg P H' .len [24] [v]=D (I J l.length):=by
 rcases h with⟨rfl,rfl⟩|⟨L,els,rfl,_⟩
 ·exact tD
 ·exact rP
def grow{α:Type}{K:hd α}{t e:Nat}(y:kN t e K.esz){i:Nat->Prop}{l:List α}{v:ad}(q:c_ K i H1 l v)(m:iE r H1.next H1 H)(p:∀k,i k->r<k)(G:r<H1.next){a:α}{cs:List ad}{n2:Nat}(he:K.V H (bn n2) a cs)(F:H1.next<=n2)(u:l.length<=1000000000):
  ∃j H',c0 P (H.push (.row U K.esz [cs])) [t,t] v (.aD H.next 0 1 K.esz (D 1))=D (j,H')/\j.one=X/\(∀b,c_ K (λk=>i k\/H1.next<=k) (H'.set r b) (l++[a]) j)/\H.next+1<=H'.next/\H'.get r=H.get r/\
   (∀k x,¬i k->k<H1.next->k≠r->H1.get k=D x->∀b,(H'.set r b).get k=D x)/\∀b,c7 (λk=>r<=k) H1 (H'.set r b):=by
 have hm:=m.1;have z:cY H1 i H i:=λk x d g=>by
  have:=ae.aV g;have:=p k d;exact⟨d,m.get g af⟩
 have s:=q.aW z;have o:∀L n c,v= .aD L 0 n K.esz c->i L/\L<H1.next:=by
  intro L n c h;rcases q with⟨rfl,_⟩|⟨L',els,rfl,aT,A,_⟩
  ·cases h
  ·cases h;exact⟨aT,ae.aV A⟩
 obtain⟨j,H',aQ,a2,a3,a4⟩:=s.app y (ok':=λk=>i k\/H1.next<=k) he (λk x d g=>⟨.inr (by unfold bn at d;omega),λL h=>by have:=(o L _ _ h).2;unfold bn at d;omega⟩) (λk x d _=> .inl d) (.inr af) u;refine⟨j,H',aQ,a2.one,λb=>a2.aW λk x d g=>⟨d,?_⟩,a3,a4 r af (λL h=>by have:=p L (o L _ _ h).1;omega),λk x d E w g b=> ?_,λb=>⟨by simp only[ae.dz];omega,λk d aB=> ?_⟩⟩
 ·rw[ae.get_set_other]
  ·exact g
  ·rintro rfl;rcases d with d|d
   ·have:=p _ d;omega
   ·omega
 ·rw[ae.get_set_other (Ne.symm w),a4 k af (λL h e=>d (e▸(o L _ _ h).1))];exact m.get g af
 ·have B:k<r:=by simpa using aB
  rw[ae.get_set_other af,a4 k af (λL h e=>by have:=p L (o L _ _ h).1;omega)];exact m.2 k d af
def yR(H:ae)(r:Nat)(T:List Tok)(au:ad)(g:cj)(s:an):Prop:=∃bw bA bu,∃h d a:Nat->Prop,fz H r T au bw bA bu s/\(∀l i n e c,au= .aD l i n e c->l<r)/\c_ hV h H g.cm bw/\c_ e5 d H g.globals bA/\c_ gF a H g.funcs bu/\(∀k,h k->r<k/\¬d k/\¬a k)/\(∀k,d k->r<k/\¬a k)/\∀k,a k->r<k
def yR.mut{g:cj}{bw bA bu:ad}{j h d:Nat->Prop}(v:∀l i n e c,au= .aD l i n e c->l<r)(s:c_ hV j H g.cm bw)(u:c_ e5 h H g.globals bA)(b3:c_ gF d H g.funcs bu)(o:∀k,j k->r<k/\¬h k/\¬d k)(p:∀k,h k->r<k/\¬d k)(q:∀k,d k->r<k)(m:ca r H H')(cP:fz H' r T au bw bA bu s'):yR H' r T au g s':=
 ⟨bw,bA,bu,j,h,d,cP,v,s.aW (cY.mut m λk a=>by have:=(o k a).1;omega),u.aW (cY.mut m λk a=>by have:=(p k a).1;omega),b3.aW (cY.mut m λk a=>by have:=q k a;omega),o,p,q⟩
def qf(T:List Tok)(n:Nat)(g:cj)(s:an):aa cj:=(mP T n [] (bR T [123] (eP T (av (eC T X g.cm.length 12 s))).2).2).bind λp=>D ({g with cm:=g.cm++[⟨(eP T (av (eC T X g.cm.length 12 s))).1.text,p.1,(eP T (av (eC T X g.cm.length 12 s))).1.pos⟩]},(bR T [125] p.2).2)
def ik(T:List Tok)(g:cj)(s:an):cj×an:=({g with globals:=g.globals++[(fW T (av (eC T X g.globals.length 8 s))).1]},(bR T [59] (fW T (av (eC T X g.globals.length 8 s))).2).2)
end
section
variable {H H' H1:ae}{r:Nat}{T:List Tok}{au bw bA bu:ad}{s s':an}
def iP(T:List Tok)(l:List bF)(s:an):List bF×an:=(l++[(fW T (eC T ((al T s.at_).kind==1) l.length 6 s)).1],(fW T (eC T ((al T s.at_).kind==1) l.length 6 s)).2)
end
def jR(T:List Tok):Nat->List bF->an->aa (List bF)
 |0,_,_=>Z
 |n+1,l,s=>bif (e_ T 4 [44] s).1 then jR T n (iP T l (e_ T 4 [44] s).2).1 (iP T l (e_ T 4 [44] s).2).2 else D (l,(e_ T 4 [44] s).2)
def kf(T:List Tok)(s:an):List br×an:=match kV T 800000000 (lE s.at_ 0)with
 |some p=>((jS p.1 p.2).1,th (jS p.1 p.2).2.1 (jS p.1 p.2).2.2.1 (jS p.1 p.2).2.2.2 s)
 |none=>([],s)
def pR(T:List Tok)(g:cj)(cq:aG)(a:Int)(l:List bF)(q:Bool×aG×Int)(s:an):cj×an:=if s.ak≠0 then(g,s)else({g with funcs:=g.funcs++[⟨cq,l,q.1,q.2.1,q.2.2,(kf T s).1,a⟩]},(kf T s).2)
def ki(T:List Tok)(s:an):(Bool×aG×Int)×an:=bif (e_ T 4 [58] (bR T [41] s).2).1 then((X,(mW T (e_ T 4 [58] (bR T [41] s).2).2).1),(mW T (e_ T 4 [58] (bR T [41] s).2).2).2)else((U,[],0),(e_ T 4 [58] (bR T [41] s).2).2)
def pS(T:List Tok)(n:Nat)(s:an):aa (List bF):=bif bo T s 4 [41]then D ([],s)else jR T n (iP T [] s).1 (iP T [] s).2
def pU(T:List Tok)(n:Nat)(g:cj)(s:an):aa cj:=(pS T n (bR T [40] (eP T (av (eC T X g.funcs.length 16 s))).2).2).bind λp=>D (pR T g (eP T (av (eC T X g.funcs.length 16 s))).1.text (eP T (av (eC T X g.funcs.length 16 s))).1.pos p.1 (ki T p.2).1 (ki T p.2).2)
section
variable {H H' H1:ae}{r:Nat}{T:List Tok}{au bw bA bu:ad}{s s':an}
def y7(aw:T.length<=20000000):nY T:=λs=>by
 obtain⟨p,q,-,a,-,-⟩:=xS (T:=T) af T.length s (tt _ _) 0 800000000 800000000 af af af;exact⟨q,a⟩
def fk.rest{c n2 esz:Nat}{x:ad}{rest a:List ad}{l:List bF}{v:ad}{s0:an}(i:fz H1 r T au bw bA bu s0)(h:fk H1 H r c n2 esz T au bw bA bu x rest l v s):fk H1 (H.set c (.row U esz [x::v::a])) r c n2 esz T au bw bA bu x a l v s:=by
 have bz:=h.bz;have bH:=h.bH;have bZ:=h.bZ;have dF:=h.dF;have e:iE r H1.next H1 (H.set c (.row U esz [x::v::a])):=h.m.cW (.inl (.inr bH)) _
 exact⟨i.ov e (by rw[ae.get_set_other af];exact h.cP.rd) h.cP.a0 h.cP.aQ h.cP.z h.cP.o,ae.get_set_same af,h.gR.aW λk x d g=>⟨d,by unfold bn at d;rw[ae.get_set_other af];exact g⟩,e,bz,bH,bZ,by simp;omega⟩
end
section
variable {H H' H1:ae}{r:Nat}{T:List Tok}{au bw bA bu:ad}{s s':an}
end
def Dd:∀(n:Nat) (rest:aG) (p:Nat) (l:List Tok),gT n rest p= .inr l->l.length<=rest.length+1
 |0,_,_,_,h=>by simp[gT]at h
 |n+1,[],p,l,h=>by simp[gT]at h;subst h;simp
 |n+1,c::r,p,l,h=>by
  rw[gT]at h;cases d:hZ (c::r)with
  |none=>rw[d]at h;simp at h
  |some q=>
   obtain⟨k,t,z,b⟩:=q;obtain⟨j,i⟩:=Eb d;rw[d]at h;simp only at h;cases a:gT n (((c::r).drop b).drop (dc U ((c::r).drop b))) (p+b+dc U ((c::r).drop b))with
   |inl e=>rw[a]at h;cases h
   |inr l'=>
    rw[a]at h;cases h;have:=Dd n _ _ l' a;simp only[List.length_drop,List.length_cons]at this i ⊢;omega
def Gp(s:aG):(dI s).1.length<=s.length+1:=by
 unfold dI;split
 ·simp
 ·cases h:rM s with
  |inl e=>simp
  |inr l=>
   have:=Dd _ _ _ l h;simp only[List.length_drop]at this;simp only
   omega
def Dc:∀(n:Nat) (s:aG) (p:Nat) (l:List Tok),gT n s p= .inr l->∃L q,l=L++[⟨0,[],0,q⟩]
 |0,_,_,_,h=>by cases h
 |n+1,[],p,l,h=>by cases h;exact⟨[],_,rfl⟩
 |n+1,c::r,p,l,h=>by
  rw[gT]at h;split at h
  ·cases h
  ·rename_i k t v m d;split at h
   ·cases h
   ·rename_i l' a;cases h;obtain⟨L,q,rfl⟩:=Dc n _ _ _ a;exact⟨⟨k,t,v,p⟩::L,q,rfl⟩
def yk{s:aG}(h:(dI s).2.1=0):gQ (dI s).1/\1<=(dI s).1.length:=by
 have d:=Gp s;have i:= @Gq s;have n:s.length<=6000:=by
  unfold dI at h;split at h
  ·simp at h
  ·omega
 obtain⟨L,q,e⟩:∃L q,(dI s).1=L++[⟨0,[],0,q⟩]:=by
  unfold dI at h ⊢;rw[if_neg af]at h ⊢;cases j:rM s with
  |inl e=>rw[j]at h;simp at h
  |inr l=>exact Dc _ _ _ _ j
 rw[e]at d i ⊢;simp only[List.length_append,List.length_cons,List.length_nil]at d ⊢;refine⟨⟨by simp;omega,by simp;omega,λa c=> ?_,i⟩,af⟩;have m:=yi c;simp only[List.length_append,List.length_cons,List.length_nil]at m ⊢;by_cases o:a<L.length
 ·omega
 ·exfalso;have k:a.toNat=L.length:=af;apply c;unfold al;rw[if_neg (by simp;omega),k,List.getElem?_append_right (bm _),Nat.sub_self];rfl
def jT(T:List Tok)(N:Nat):Nat->cj->an->aa cj
 |0,_,_=>Z
 |n+1,g,s=>bif s.ak==0&&(al T s.at_).kind != 0 then
  (bif bo T s 3 [114,101,99,111,114,100]then(qf T N g s).bind λp=>jT T N n p.1 p.2
  else bif bo T s 3 [103,108,111,98,97,108]then jT T N n (ik T g s).1 (ik T g s).2
  else bif bo T s 3 [102,117,110,99]then(pU T N g s).bind λp=>jT T N n p.1 p.2
  else jT T N n g (bE T 2 s))
  else D (g,s)
section
variable {H H' H1:ae}{r:Nat}{T:List Tok}{au bw bA bu:ad}{s s':an}
def LI{n:Nat}{g g':cj}(h:qf T n g s=D (g',s')):g'.cm.length=g.cm.length+1/\g'.globals.length=g.globals.length/\g'.funcs.length=g.funcs.length:=by
 obtain⟨p,-,g2⟩:=ew h;cases g2;simp
def JU{n:Nat}{g g':cj}(h:pU T n g s=D (g',s')):g'.cm.length=g.cm.length/\g'.globals.length=g.globals.length/\g'.funcs.length<=g.funcs.length+1:=by
 obtain⟨p,-,g2⟩:=ew h;simp only[aS]at g2;have a:=congrArg Prod.fst g2;unfold pR at a;split at a
 ·simp only at a;rw[<-a];simp
 ·simp only at a;rw[<-a];simp
end
section
variable {T:List Tok}{s:an}
def iY{x:aG}(a:kw x=4):(bR T x s).2=a_ T x s:=by
 unfold bR a_ aZ;rw[a];cases bo T s 4 x<;>rfl
def kJ(h:s.ak≠0)(x:aG):(bR T x s).2=s:=by
 unfold bR;rw[gS h,aK];exact eF h 2
def kF(h:s.ak≠0)(x:aG):a_ T x s=s:=by
 unfold a_;rw[dP h,aK];exact eF h 2
def Gj(h:s.ak≠0)(k:Int)(x:aG):e_ T k x s=(U,s):=by unfold e_;rw[gS h,aK]
def DV(h:s.ak≠0)(b:Bool)(x y:Int):eC T b x y s=s:=by
 unfold eC;cases b&&decide (y<=x)
 ·rfl
 ·rw[aR];exact eF h 4
def tN(h:s.ak≠0):mW T s=(([],0),s):=if_pos h
def xk(h:s.ak≠0):(eP T s).2.ak=s.ak/\(eP T s).2.bD=s.bD:=by
 unfold eP;cases((al T s.at_).kind != 1)
 ·exact⟨rfl,rfl⟩
 ·rw[aR,eF h];exact⟨rfl,rfl⟩
def sJ(h:s.ak≠0):(fW T s).2.ak=s.ak/\(fW T s).2.bD=s.bD:=by
 obtain⟨a,b⟩:=xk (T:=T) h;have c:(eP T s).2.ak≠0:=by rw[a];exact h
 unfold fW;simp only[kJ c,tN c];exact⟨a,b⟩
def ou(h:s.ak≠0)(n:Nat)(l:List bF):mP T (n+1) l s=D (l,s):=by
 have a:(s.ak==0)=false:=by simpa using h
 rw[mP,a];rfl
def Bt(h:s.ak≠0)(n:Nat)(l:List bF):kX T (n+1) l s=D (l,s):=by
 have a:(s.ak==0)=false:=by simpa using h
 rw[kX,a];rfl
def r8(h:s.ak≠0)(n:Nat)(l:List bF):jR T (n+1) l s=D (l,s):=by
 rw[jR,Gj h];rfl
def tV(h:s.ak≠0)(n:Nat)(l:List bF):il T (n+1) l s=D (l,s):=by
 have a:(s.ak==0)=false:=by simpa using h
 rw[il,a];rfl
def Jc(h:s.ak≠0):jg T s=s:=by
 unfold jg;rw[kF h,dP h];rfl
structure dR(T:List Tok)(s:an):Prop where
 f:s.ak=0
 a:0<=s.at_
 b:s.at_<T.length
 o:s.a8=0
 z:s.bD=0
def dR.in(g:dR T s):In ((T.length:Int)-1) s:=⟨g.a,by have:=g.b;omega,by rw[g.o];omega,by rw[g.o];omega⟩
def dR.hj{s':an}{k:Int}(g:dR T s)(h:bY ((T.length:Int)-1) s s' k)(d:0<=k)(c:s'.bD=s.bD):dR T s':=⟨h.jm,by have:=h.a;have:=g.a;omega,by have:=h.b;omega,by rw[h.o];exact g.o,by rw[c];exact g.z⟩
def dR.take(aw:gQ T)(g:dR T s){x:aG}(e:(a_ T x s).ak=0):dR T (a_ T x s)/\s.at_+1<=(a_ T x s).at_:=by
 obtain⟨h,d,c⟩:=eR aw.g (λ_=>g.in) e;exact⟨g.hj c af (by rw[d];rfl),c.a⟩
def dR.go(aw:gQ T)(g:dR T s)(d:(al T s.at_).kind≠0):dR T (av s)/\s.at_+1<=(av s).at_:=by
 obtain⟨e,c⟩:=go_ok aw.g g.in g.f d;exact⟨g.hj c af rfl,c.a⟩
def dR.typed(aw:gQ T)(g:dR T s)(d:(df T s).2.ak=0):dR T (df T s).2/\s.at_+3<=(df T s).2.at_:=by
 obtain⟨-,-,hj⟩:=ys aw.g (λ_=>g.in) d;have h:=vI aw.n (s:=s) (x:=s) g.f ⟨rfl,rfl,bm _⟩ g.z;have j:(df T s).2.bD=s.bD:=by
  rcases h.1 with⟨c,e⟩|⟨c,i,-⟩
  ·rw[e];exact(h.2 c).2.1
  ·rw[i]at d;exact absurd d c
 exact⟨g.hj hj af j,hj.a⟩
def yr(aw:gQ T)(g:dR T s):cB (fW T s) (c9 T s):=by
 have k:(s.ak==0)=true:=by rw[g.f];rfl
 unfold fW c9 df eP bq;rw[k,Bool.true_and];cases d:(al T s.at_).kind==1 with
 |true=>
  have e:((al T s.at_).kind != 1)=false:=by rw[bne,d];rfl
  have l:(al T s.at_).kind≠0:=by
   have a:(al T s.at_).kind=1:=by simpa using d
   omega
  simp only[e,aK,aR];rw[iY bk];have g1:=(g.go aw l).1;by_cases c:(a_ T [58] (av s)).ak=0
  ·have g2:=(g1.take aw c).1;rw[show mW T (a_ T [58] (av s))=mX T (a_ T [58] (av s))from if_neg (λh=>h c)];have i:=(vH aw.n (s:=a_ T [58] (av s)) (x:=a_ T [58] (av s)) c ⟨rfl,rfl,bm _⟩ g2.z).1;exact cB.hn i.g_ λj=>by rw[i.eq j]
  ·rw[tN c,rX c];exact .inr ⟨c,rfl,rfl⟩
 |false=>
  have e:((al T s.at_).kind != 1)=true:=by rw[bne,d];rfl
  have a:(bE T 2 s).ak≠0:=dU bk;simp only[e,aK,aR];rw[kJ a,tN a,kF a,rX a];exact .inr ⟨a,rfl,rfl⟩
def kk(s:an){x:aG}(h:kw x=4):aZ T s x=bo T s 4 x:=by unfold aZ;rw[h]
def wP(s:an){x:aG}(h:kw x=3):aZ T s x=bo T s 3 x:=by unfold aZ;rw[h]
def Bu(aw:gQ T):∀(k:Nat) (s:an) (l:List bF),(s.ak=0->dR T s/\(T.length:Int)-s.at_<=k/\l.length<=8)->∀n u,k+1<=n->k+1<=u->∃p q,mP T n l s=D p/\kX T u l s=D q/\cB p q/\(p.2.ak=0->dR T p.2/\s.at_<=p.2.at_)
 |k,s,l,h,0,_,B,_=>af
 |k,s,l,h,_,0,_,B=>af
 |k,s,l,h,n+1,u+1,B,P=>by
  by_cases o:s.ak=0
  ·obtain⟨g,M,N⟩:=h o;have A:(s.ak==0)=true:=by rw[o];rfl
   rw[mP,kX,A,kk s bk];cases Q:bo T s 4 [125]with
   |true=>exact⟨_,_,rfl,rfl,.inl ⟨o,rfl⟩,λ_=>⟨g,Int.le_refl _⟩⟩
   |false=>
    simp only[Bool.not_false,Bool.and_true,aR];have L:=g.b;have K:=g.a;obtain⟨n,rfl⟩:∃m,n=m+1:=⟨n-1,af⟩;obtain⟨u,rfl⟩:∃m,u=m+1:=⟨u-1,af⟩;cases hm:((al T s.at_).kind==1&&l.length==8)with
    |true=>
     simp only[Bool.and_eq_true,beq_iff_eq]at hm;have w:eC T ((al T s.at_).kind==1) l.length 8 s=bE T 4 s:=by
      unfold eC;rw[show((al T s.at_).kind==1)=X by simpa using hm.1,show decide ((8:Int)<=(l.length:Int))=X by rw[hm.2];rfl];rfl
     have d:(bE T 4 s).ak≠0:=dU bk;rw[w,aR];obtain⟨aQ,a2⟩:=sJ (T:=T) d;have j:(fW T (bE T 4 s)).2.ak≠0:=by rw[aQ];exact d
     rw[kJ j,ou j];exact⟨_,_,rfl,rfl,.inr ⟨j,aQ.symm,a2.symm⟩,λi=>absurd i j⟩
    |false=>
     have w:eC T ((al T s.at_).kind==1) l.length 8 s=s:=by
      unfold eC;cases F:(al T s.at_).kind==1 with
      |false=>rfl
      |true=>
       rw[F,Bool.true_and]at hm;have:l.length≠8:=by simpa using hm
       rw[show decide ((8:Int)<=(l.length:Int))=U from decide_eq_false af];rfl
     rw[w,aK];rcases yr aw g with⟨d,e⟩|⟨d,j,E⟩
     ·rw[<-e,<-iY (x:=[59]) bk];rw[<-e]at d;obtain⟨g2,H⟩:=g.typed aw (show(df T s).2.ak=0 from d);have y:(c9 T s).2=(df T s).2:=rfl;have G:(al T s.at_).kind=1:=by
       have v:(bq T s).2.ak=0:=by
        by_cases c:(bq T s).2.ak=0
        ·exact c
        ·exfalso;have:(df T s).2.ak≠0:=by
          unfold df;simp only[kF c,rX c];exact c
         exact this d
       unfold bq at v;rw[A,Bool.true_and]at v;cases c:(al T s.at_).kind==1 with
       |true=>simpa using c
       |false=>rw[c,aK]at v;exact absurd v (dU bk)
      have O:l.length≠8:=by
       rw[G]at hm;simpa using hm
      obtain⟨p,q,f1,f2,f3,f4⟩:=Bu aw (k-1) ((bR T [59] (c9 T s).2).2) (l++[(c9 T s).1]) (λc=>by
       rw[iY bk]at c ⊢;rw[y]at c ⊢;obtain⟨g3,b3⟩:=g2.take aw c;exact⟨g3,af,by simp;omega⟩) (n+1) (u+1) af af
      refine⟨p,q,f1,f2,f3,λi=> ?_⟩;obtain⟨g4,cK⟩:=f4 i;refine⟨g4,?_⟩;have c:(bR T [59] (c9 T s).2).2.ak=0:=by
       by_cases c:(bR T [59] (c9 T s).2).2.ak=0
       ·exact c
       ·rw[ou c]at f1;cases f1;exact absurd i c
      rw[iY bk,y]at c cK;have:=(g2.take aw c).2;omega
     ·have z:(c9 T s).2.ak≠0:=by rw[j];exact d
      rw[kJ d,ou d,kF z,Bt z];exact⟨_,_,rfl,rfl,.inr ⟨d,j,E⟩,λi=>absurd i d⟩
  ·rw[ou o,Bt o];exact⟨_,_,rfl,rfl,.inr ⟨o,rfl,rfl⟩,λi=>absurd i o⟩
end
section
variable {T:List Tok}{s:an}
def PO(e:(df T s).2.ak=0):s.ak=0/\(al T s.at_).kind=1:=by
 have c:(bq T s).2.ak=0:=by
  by_cases a:(bq T s).2.ak=0
  ·exact a
  ·exfalso;have:(df T s).2.ak≠0:=by
    unfold df;simp only[kF a,rX a];exact a
   exact this e
 have d:s.ak=0:=by
  by_cases a:s.ak=0
  ·exact a
  ·rw[tK a]at c;exact c
 have h:(s.ak==0)=true:=by rw[d];rfl
 refine⟨d,?_⟩;unfold bq at c;rw[h,Bool.true_and]at c;cases a:(al T s.at_).kind==1 with
 |true=>simpa using a
 |false=>rw[a,aK]at c;exact absurd c (dU bk)
def K2(h:(al T s.at_).kind=1){n:Nat}{m:Int}(hm:m<=n):eC T ((al T s.at_).kind==1) n m s=bE T 4 s:=by
 unfold eC;rw[show((al T s.at_).kind==1)=X by simpa using h,show decide (m<=(n:Int))=X from decide_eq_true hm];rfl
def rT{b:Bool}{n:Nat}{m:Int}(hm:b=X->(n:Int)<m):eC T b n m s=s:=by
 unfold eC;cases b with
 |false=>rfl
 |true=>
  rw[show decide (m<=(n:Int))=U from decide_eq_false (by have:=hm rfl;omega)];rfl
def tj{k:Int}{x y:aG}(h:bo T s k x=X)(e:x≠y):bo T s k y=false:=by
 obtain⟨-,-,a⟩:=k0 h;cases d:bo T s k y with
 |false=>rfl
 |true=>obtain⟨-,-,c⟩:=k0 d;exact absurd (a.symm.trans c) e
def CJ{k:Int}{x:aG}(h:bo T s k x=X)(a:k≠0):(al T s.at_).kind≠0:=by rw[(k0 h).2.1];exact a
def mB(T:List Tok)(p q:List bF×an):Prop:=cB (p.1,(bR T [41] p.2).2) (q.1,a_ T [41] q.2)
def mB.failed{p q:List bF×an}(a:p.2.ak≠0)(c:q.2.ak=p.2.ak)(d:q.2.bD=p.2.bD):mB T p q:=by
 unfold mB;rw[kJ a,kF (by rw[c];exact a)];exact .inr ⟨a,c,d⟩
def cB.rfl'{α:Type}(p:α×an):cB p p:=by
 by_cases h:p.2.ak=0
 ·exact .inl ⟨h,rfl⟩
 ·exact .inr ⟨h,rfl,rfl⟩
def El(aw:gQ T):∀(k:Nat) (t:an) (l:List bF),(t.ak=0->dR T t/\(T.length:Int)-t.at_<=k/\l.length<=6/\bo T t 4 [41]=U)->∀n s,k+1<=n->k+2<=s->∃p q,jR T n (iP T l t).1 (iP T l t).2=D p/\il T s l t=D q/\mB T p q/\(p.2.ak=0->t.ak=0/\dR T p.2/\t.at_<=p.2.at_)
 |k,t,l,h,0,_,G,_=>af
 |k,t,l,h,_,0,_,G=>af
 |k,t,l,h,n+1,s+1,G,ah=>by
  by_cases o:t.ak=0
  ·obtain⟨g,ad,ae,W⟩:=h o;have R:(t.ak==0)=true:=by rw[o];rfl
   have ab:=g.b;have aa:=g.a;rw[il,R,kk t bk,W];simp only[Bool.not_false,Bool.and_true,aR];obtain⟨s,rfl⟩:∃m,s=m+1:=⟨s-1,af⟩;unfold iP;cases hm:((al T t.at_).kind==1&&l.length==6)with
   |true=>
    simp only[Bool.and_eq_true,beq_iff_eq]at hm;rw[K2 hm.1 (by rw[hm.2];decide),aR];have d:(bE T 4 t).ak≠0:=dU bk;obtain⟨aQ,a2⟩:=sJ (T:=T) d;have i:(fW T (bE T 4 t)).2.ak≠0:=by rw[aQ];exact d
    rw[r8 i];exact⟨_,_,rfl,rfl,.failed i aQ.symm a2.symm,λj=>absurd j i⟩
   |false=>
    have L:eC T ((al T t.at_).kind==1) l.length 6 t=t:=rT λx=>by
     rw[x,Bool.true_and]at hm;have:l.length≠6:=by simpa using hm
     omega
    rw[L,aK];rcases yr aw g with⟨d,e⟩|⟨d,i,P⟩
    ·rw[<-e];rw[<-e]at d;have B:(df T t).2.ak=0:=d;obtain⟨g2,H⟩:=g.typed aw B;have ag:l.length≠6:=by
      have V:((al T t.at_).kind==1)=true:=by simpa using(PO B).2
      rw[V,Bool.true_and]at hm;simpa using hm
     have K:(c9 T t).2=(df T t).2:=rfl;rw[K];generalize (df T t).2=s2 at B g2 H;generalize (c9 T t).1=w;cases v:bo T s2 4 [44]with
     |true=>
      have Q:bo T s2 4 [41]=false:=tj v bk;have z:jR T (n+1) (l++[w]) s2=jR T n (iP T (l++[w]) (av s2)).1 (iP T (l++[w]) (av s2)).2:=by
       rw[jR];unfold e_;rw[v];rfl
      rw[z,kk s2 bk,Q,aK];obtain⟨g3,b3⟩:=g2.go aw (CJ v bk);have A:a_ T [44] s2=av s2:=by unfold a_;rw[kk s2 bk,v];rfl
      unfold jg;rw[A,kk (av s2) bk];cases u:bo T (av s2) 4 [41]with
      |true=>
       rw[aR];have c:(bE T 2 (av s2)).ak≠0:=dU bk;have F:(al T (av s2).at_).kind=4:=(k0 u).2.1;have M:eC T ((al T (av s2).at_).kind==1) (l++[w]).length 6 (av s2)=av s2:=rT λx=>by
        rw[F]at x;exact absurd x bk
       have y:(fW T (av s2)).2.ak=(bE T 2 (av s2)).ak/\(fW T (av s2)).2.bD=(bE T 2 (av s2)).bD:=by
        have S:eP T (av s2)=(.none,bE T 2 (av s2)):=by
         unfold eP;rw[F];rfl
        unfold fW;rw[S];simp only[kJ c,tN c,and_self]
       have E:(fW T (av s2)).2.ak≠0:=by rw[y.1];exact c
       obtain⟨n,rfl⟩:∃m,n=m+1:=⟨n-1,af⟩;unfold iP;rw[M,r8 E,tV c];exact⟨_,_,rfl,rfl,.failed E y.1.symm y.2.symm,λj=>absurd j E⟩
      |false=>
       rw[aK];obtain⟨p,q,f1,f2,f3,f4⟩:=El aw (k-1) (av s2) (l++[w]) (λ_=>⟨g3,af,by simp;omega,u⟩) n (s+1) af af;exact⟨p,q,f1,f2,f3,λj=>⟨o,(f4 j).2.1,by have:=(f4 j).2.2;omega⟩⟩
     |false=>
      have z:jR T (n+1) (l++[w]) s2=D (l++[w],s2):=by
       rw[jR];unfold e_;rw[v];rfl
      rw[z];cases u:bo T s2 4 [41]with
      |true=>
       rw[kk s2 bk,u,aR];have:il T (s+1) (l++[w]) s2=D (l++[w],s2):=by
        rw[il,kk s2 bk,u,Bool.not_true,Bool.and_false,aK]
       refine⟨_,_,rfl,this,?_,λ_=>⟨o,g2,by show t.at_<=s2.at_;omega⟩⟩;unfold mB;rw[iY bk];exact cB.rfl' _
      |false=>
       rw[kk s2 bk,u,aK];have c:(bE T 2 s2).ak≠0:=dU bk;have A:a_ T [44] s2=bE T 2 s2:=by unfold a_;rw[kk s2 bk,v];rfl
       have N:jg T s2=bE T 2 s2:=by unfold jg;rw[A,dP c];rfl
       rw[N,tV c];refine⟨_,_,rfl,rfl,?_,λ_=>⟨o,g2,by show t.at_<=s2.at_;omega⟩⟩;unfold mB;have O:(bR T [41] s2).2=bE T 2 s2:=by unfold bR;rw[u];rfl
       simp only[O,kF c];exact cB.rfl' _
    ·have c:(c9 T t).2.ak≠0:=by rw[i];exact d
     rw[r8 d,dP c,aK,Jc c,tV c];exact⟨_,_,rfl,rfl,.failed d i P,λj=>absurd j d⟩
  ·unfold iP;rw[DV o];obtain⟨aQ,a2⟩:=sJ (T:=T) o;have i:(fW T t).2.ak≠0:=by rw[aQ];exact o
   rw[r8 i,tV o];exact⟨_,_,rfl,rfl,.failed i aQ.symm a2.symm,λj=>absurd j i⟩
def JM(aw:gQ T)(t:an)(h:t.ak=0->dR T t):∃p q,pS T 800000000 t=D p/\il T 800000000 [] t=D q/\mB T p q/\(p.2.ak=0->t.ak=0/\dR T p.2/\t.at_<=p.2.at_):=by
 have e:=aw.n;unfold pS;cases c:bo T t 4 [41]with
 |true=>
  have g:=h (k0 c).1;rw[aR];have:il T 800000000 [] t=D ([],t):=by
   rw[show(800000000:Nat)=799999999+1 from rfl,il,kk t bk,c,Bool.not_true,Bool.and_false,aK]
  refine⟨_,_,rfl,this,?_,λ_=>⟨(k0 c).1,g,Int.le_refl _⟩⟩;unfold mB;rw[iY bk];exact cB.rfl' _
 |false=>
  rw[aK];exact El aw T.length t [] (λd=>⟨h d,by have:=(h d).a;omega,bk,c⟩) _ _ af af
def JO(aw:gQ T){p:an}{s':an}(h:dL (bR T [41] p).2 s')(j:(bR T [41] p).2.ak=0->dR T (bR T [41] p).2):cB (ki T p) (fI T s')/\((ki T p).2.ak=0->(bR T [41] p).2.ak=0/\dR T (ki T p).2/\(bR T [41] p).2.at_<=(ki T p).2.at_):=by
 unfold ki;generalize (bR T [41] p).2=w at h j;unfold fI e_;rcases h with⟨h,rfl⟩|⟨d,i,m⟩
 ·have g:=j h;rw[kk s' bk];cases o:bo T s' 4 [58]with
  |true=>
   simp only[aR];obtain⟨g2,q⟩:=g.go aw (CJ o bk);rw[show mW T (av s')=mX T (av s')from if_neg (λh=>h g2.f)];obtain⟨e,k⟩:=vH aw.n (s:=av s') (x:=av s') g2.f ⟨rfl,rfl,bm _⟩ g2.z;refine⟨cB.hn e.g_ λc=>by rw[e.eq c],λc=> ?_⟩;obtain⟨u,l,-⟩:=k c;have eq:=e.eq c;obtain⟨-,hj⟩:=oG aw.g (λ_=>g2.in) (show(cO T (av s')).2.ak=0 by rw[eq];exact c);rw[eq]at hj;exact⟨h,g2.hj hj af l,by have:=hj.a;show s'.at_<=(mX T (av s')).2.at_;omega⟩
  |false=>
   simp only[aK];exact⟨cB.rfl' _,λ_=>⟨h,g,Int.le_refl _⟩⟩
 ·have a1:s'.ak≠0:=by rw[i];exact d
  rw[gS d,dP a1];exact⟨.inr ⟨d,i,m⟩,λc=>absurd c d⟩
end
section
variable {T:List Tok}{s t:an}
def K5(aw:gQ T)(g:dR T t):(eP T t).2=(bq T t).2/\((bq T t).2.ak=0->(eP T t).1.text=(bq T t).1/\(eP T t).1.pos=(al T t.at_).pos/\dR T (bq T t).2/\t.at_+1<=(bq T t).2.at_):=by
 have e:(t.ak==0)=true:=by rw[g.f];rfl
 unfold eP bq;rw[e,Bool.true_and];cases a:(al T t.at_).kind==1 with
 |true=>
  have c:((al T t.at_).kind != 1)=false:=by rw[bne,a];rfl
  have h:(al T t.at_).kind≠0:=by
   have i:(al T t.at_).kind=1:=by simpa using a
   omega
  rw[c,aK,aR];exact⟨rfl,λ_=>⟨rfl,rfl,g.go aw h⟩⟩
 |false=>
  have c:((al T t.at_).kind != 1)=true:=by rw[bne,a];rfl
  rw[c,aR,aK];exact⟨rfl,λd=>absurd d (dU bk)⟩
def pn(x:aG)(h:(a_ T x s).ak=0):s.ak=0:=by
 by_cases aB:s.ak=0
 ·exact aB
 ·rw[kF aB]at h;exact h
def Ed(aw:gQ T)(g:dR T t){x:aG}(h:kw x=4):(bR T x (eP T t).2).2=a_ T x (bq T t).2/\((a_ T x (bq T t).2).ak=0->(eP T t).1.text=(bq T t).1/\(eP T t).1.pos=(al T t.at_).pos/\dR T (a_ T x (bq T t).2)/\t.at_+2<=(a_ T x (bq T t).2).at_):=by
 obtain⟨aQ,a2⟩:=K5 aw g;rw[iY h,aQ];refine⟨rfl,λa=> ?_⟩;obtain⟨c,d,e,i⟩:=a2 (pn x a);obtain⟨d1,d2⟩:=e.take aw a;exact⟨c,d,d1,af⟩
def LK(aw:gQ T)(g:cj)(gs:dR T s)(m:(al T s.at_).kind≠0)(v:g.cm.length<12):∃p q,qf T 800000000 g s=D p/\l2 T 800000000 (av s)=D q/\cB p ({g with cm:=g.cm++[q.1]},q.2)/\(p.2.ak=0->dR T p.2/\s.at_+1<=p.2.at_):=by
 have w:=aw.n;obtain⟨g1,o⟩:=gs.go aw m;have l:eC T X g.cm.length 12 s=s:=rT λ_=>af
 unfold qf l2;rw[l];obtain⟨aQ,a2⟩:=Ed aw g1 (x:=[123]) bk;rw[aQ];obtain⟨p,q,f1,f2,f3,f4⟩:=Bu aw T.length (a_ T [123] (bq T (av s)).2) [] (λe=>⟨(a2 e).2.2.1,by have:=(a2 e).2.2.1.a;omega,bk⟩) 800000000 800000000 af af;rw[f1,f2];refine⟨_,_,rfl,rfl,cB.hn (qU f3.g_ bk) λe=> ?_,λe=> ?_⟩
 ·have h:(bR T [125] p.2).2.ak=0:=e;have d:p.2.ak=0:=by rw[iY bk]at h;exact pn _ h
  obtain⟨g4,cK⟩:=f4 d;have i:(a_ T [123] (bq T (av s)).2).ak=0:=by
   by_cases c:(a_ T [123] (bq T (av s)).2).ak=0
   ·exact c
   ·rw[show(800000000:Nat)=799999999+1 from rfl,ou c]at f1;cases f1;exact absurd d c
  obtain⟨j,k,-,-⟩:=a2 i;rw[j,k,f3.eq d]
 ·have h:(bR T [125] p.2).2.ak=0:=e;rw[iY bk]at h;have d:p.2.ak=0:=pn _ h;obtain⟨g4,cK⟩:=f4 d;have i:(a_ T [123] (bq T (av s)).2).ak=0:=by
   by_cases c:(a_ T [123] (bq T (av s)).2).ak=0
   ·exact c
   ·rw[show(800000000:Nat)=799999999+1 from rfl,ou c]at f1;cases f1;exact absurd d c
  obtain⟨-,-,-,u⟩:=a2 i;obtain⟨d1,d2⟩:=g4.take aw h;simp only[iY (show kw [125]=4 by decide)];exact⟨d1,af⟩
def J4(aw:gQ T)(g:cj)(gs:dR T s)(j:(al T s.at_).kind≠0)(m:g.globals.length<8):cB (ik T g s) ({g with globals:=g.globals++[(c9 T (av s)).1]},a_ T [59] (c9 T (av s)).2)/\((ik T g s).2.ak=0->dR T (ik T g s).2/\s.at_+1<=(ik T g s).2.at_):=by
 obtain⟨g1,k⟩:=gs.go aw j;have i:eC T X g.globals.length 8 s=s:=rT λ_=>af
 unfold ik;rw[i];have c:=yr aw g1;refine⟨cB.hn (qU c.g_ bk) λd=> ?_,λd=> ?_⟩
 ·have a:(bR T [59] (fW T (av s)).2).2.ak=0:=d;rw[iY bk]at a;rw[c.eq (pn _ a)]
 ·have a:(bR T [59] (fW T (av s)).2).2.ak=0:=d;rw[iY bk]at a;have eq:=c.eq (pn _ a);simp only[iY (show kw [59]=4 by decide)];have e:=pn _ a;rw[<-eq]at a e ⊢;obtain⟨h,l⟩:=g1.typed aw (show(df T (av s)).2.ak=0 from e);obtain⟨d1,d2⟩:=h.take aw a;exact⟨d1,by show s.at_+1<=(a_ T [59] (df T (av s)).2).at_;omega⟩
def IX(h:s.ak≠0)(n:Nat):∃q,gC T (n+2) s=D q/\q.2.ak=s.ak/\q.2.bD=s.bD:=by
 have a:(eB s).ak≠0:=h;have d:((eB s).ak==0)=false:=by simpa using a
 have c:ct T [123] s=eB s:=by
  unfold ct;rw[dP h,kF h];rfl
 rw[gC,c,iN,d,Bool.false_and,aK,Option.bind_some];refine⟨_,rfl,?_,?_⟩
 ·unfold dm;rw[kF a];rfl
 ·unfold dm;rw[kF a];rfl
def IY(aw:gQ T)(g:dR T s):∃q,gC T 800000000 s=D q/\cB (kf T s) q/\((kf T s).2.ak=0->dR T (kf T s).2/\s.at_<=(kf T s).2.at_):=by
 have l:lE s.at_ 0=s:=by
  have:=FQ (x:=s) g.f g.z (by rw[g.o];exact Int.le_refl 0);rw[g.o]at this;exact this
 obtain⟨p,q,m,e,-,d⟩:=I1 aw.n s.at_ 0;rw[l]at e d;refine⟨q,e,?_⟩;unfold kf;rw[m];by_cases c:p.2.ak=0
 ·have eq:=d.1.eq c;obtain⟨k,j,-⟩:=d.2 c;have i:th p.2.at_ 0 0 s=p.2:=by
   unfold th;rw[if_neg (λh=>h rfl)];have:=g.f;have:=g.o;have:=g.z;cases s;cases aC:p.2;rw[aC]at c k j
   simp_all
  simp only[jS,if_pos c,i];obtain⟨hj,-,-⟩:=(xH aw.g (y7 aw.n) 800000000).block s q (λ_=>g.in) e (by rw[eq];exact c);rw[eq]at hj;exact⟨.inl ⟨c,eq⟩,λ_=>⟨g.hj hj af j,by have:=hj.a;omega⟩⟩
 ·simp only[jS,if_neg c];have i:th 0 p.2.ak p.2.bD s={s with ak:=p.2.ak,bD:=p.2.bD}:=if_pos c;rw[i];rcases d.1 with⟨h,-⟩|⟨-,u,v⟩
  ·exact absurd h c
  ·exact⟨.inr ⟨c,u,v⟩,λh=>absurd h c⟩
def JW(aw:gQ T)(g:cj)(gs:dR T s)(o:(al T s.at_).kind≠0)(F:g.funcs.length<16):∃p q,pU T 800000000 g s=D p/\lS T 800000000 (av s)=D q/\cB p ({g with funcs:=g.funcs++[q.1]},q.2)/\(p.2.ak=0->dR T p.2/\s.at_+1<=p.2.at_/\p.1.funcs.length=g.funcs.length+1):=by
 obtain⟨g1,A⟩:=gs.go aw o;have m:eC T X g.funcs.length 16 s=s:=rT λ_=>af
 unfold pU lS;rw[m];obtain⟨aQ,a2⟩:=Ed aw g1 (x:=[40]) bk;rw[aQ];obtain⟨p,q,f1,f2,f3,f4⟩:=JM aw (a_ T [40] (bq T (av s)).2) (λa=>(a2 a).2.2.1);rw[f1,f2];simp only[Option.bind_some];have hw:(bR T [41] p.2).2.ak=0->p.2.ak=0/\dR T (bR T [41] p.2).2/\p.2.at_<=(bR T [41] p.2).2.at_:=λa=>by
  rw[iY bk]at a ⊢;have d:=pn _ a;obtain⟨-,g4,-⟩:=f4 d;obtain⟨d1,d2⟩:=g4.take aw a;exact⟨d,d1,af⟩
 obtain⟨j,z⟩:=JO aw (p:=p.2) (s':=a_ T [41] q.2) f3.g_ λa=>(hw a).2.1
 by_cases c:(ki T p.2).2.ak=0
 ·obtain⟨i,u,G⟩:=z c;obtain⟨v,-,H⟩:=hw i;obtain⟨w,K,L⟩:=f4 v;obtain⟨k,l,B,E⟩:=a2 w;have eo:=j.eq c;have eq:q.1=p.1:=(Prod.ext_iff.1 (f3.eq i)).1;obtain⟨b,m1,m2,m3⟩:=IY aw u;rw[eo,m1];refine⟨_,_,rfl,rfl,?_⟩;unfold pR;rw[if_neg (λh=>h c)];refine⟨cB.hn m2.g_ λa=> ?_,λa=> ?_⟩
  ·rw[m2.eq a,k,l,eq]
  ·obtain⟨y,n2⟩:=m3 a;exact⟨y,by show s.at_+1<=(kf T (ki T p.2).2).2.at_;omega,by simp⟩
 ·rcases j with⟨h,-⟩|⟨-,e,n⟩
  ·exact absurd h c
  ·obtain⟨b,m1,m2,m3⟩:=IX (T:=T) (s:=(fI T (a_ T [41] q.2)).2) (by rw[e];exact c) 799999998;rw[show(800000000:Nat)=799999998+2 from rfl,m1];refine⟨_,_,rfl,rfl,?_⟩;unfold pR;rw[if_pos c];exact⟨.inr ⟨c,m2.trans e,m3.trans n⟩,λh=>absurd h c⟩
end
section
variable {T:List Tok}{s t:an}
def nc(h:s.ak≠0)(N n:Nat)(g:cj):jT T N (n+1) g s=D (g,s):=by
 have a:(s.ak==0)=false:=by simpa using h
 rw[jT,a,Bool.false_and,aK]
def nb(h:s.ak≠0)(N n:Nat)(g:cj):fi T N (n+1) g s=D (g,s):=by
 have a:(s.ak==0)=false:=by simpa using h
 rw[fi,a,Bool.false_and,aK]
def xj{n:Nat}{m:Int}(hm:m<=n):eC T X n m s=bE T 4 s:=by
 unfold eC;rw[show decide (m<=(n:Int))=X from decide_eq_true hm];rfl
def LJ(g:cj)(e:g.cm.length=12):∃p,qf T 800000000 g s=D p/\(s.ak=0->p.2.ak≠0/\(bE T 4 s).ak=p.2.ak/\(bE T 4 s).bD=p.2.bD):=by
 have d:(bE T 4 s).ak≠0:=dU bk;have c:(av (bE T 4 s)).ak≠0:=d;obtain⟨aQ,a2⟩:=xk (T:=T) c;have a:(eP T (av (bE T 4 s))).2.ak≠0:=by rw[aQ];exact c
 unfold qf;rw[xj (by rw[e];decide),kJ a,show(800000000:Nat)=799999999+1 from rfl,ou a];refine⟨_,rfl,λ_=> ?_⟩;simp only[kJ a];exact⟨a,aQ.symm,a2.symm⟩
def J3(g:cj)(e:g.globals.length=8):(ik T g s).2.ak≠0/\(bE T 4 s).ak=(ik T g s).2.ak/\(bE T 4 s).bD=(ik T g s).2.bD:=by
 have d:(bE T 4 s).ak≠0:=dU bk;have a:(av (bE T 4 s)).ak≠0:=d;obtain⟨aQ,a2⟩:=sJ (T:=T) a;have c:(fW T (av (bE T 4 s))).2.ak≠0:=by rw[aQ];exact a
 unfold ik;rw[xj (by rw[e];decide)];simp only[kJ c];exact⟨c,aQ.symm,a2.symm⟩
def JN(h:s.ak≠0):∃p,pS T 800000000 s=D p/\p.2.ak=s.ak/\p.2.bD=s.bD:=by
 unfold pS;rw[gS h,aK];unfold iP;rw[DV h];obtain⟨aQ,a2⟩:=sJ (T:=T) h;have a:(fW T s).2.ak≠0:=by rw[aQ];exact h
 rw[show(800000000:Nat)=799999999+1 from rfl,r8 a];exact⟨_,rfl,aQ,a2⟩
def JP(h:s.ak≠0):(ki T s).2=s:=by
 unfold ki;rw[kJ h,Gj h];rfl
def JV(g:cj)(k:g.funcs.length=16):∃p,pU T 800000000 g s=D p/\p.2.ak≠0/\(bE T 4 s).ak=p.2.ak/\(bE T 4 s).bD=p.2.bD:=by
 have j:(bE T 4 s).ak≠0:=dU bk;have h:(av (bE T 4 s)).ak≠0:=j;obtain⟨aQ,a2⟩:=xk (T:=T) h;have a:(eP T (av (bE T 4 s))).2.ak≠0:=by rw[aQ];exact h
 unfold pU;rw[xj (by rw[k];decide),kJ a];obtain⟨p,e,d,i⟩:=JN (T:=T) a;have c:p.2.ak≠0:=by rw[d];exact a
 rw[e];refine⟨_,rfl,?_⟩;rw[JP c];unfold pR;rw[if_pos c];exact⟨c,(d.trans aQ).symm,(i.trans a2).symm⟩
def tZ(aw:gQ T):∀(k:Nat) (s:an) (g:cj),(s.ak=0->dR T s/\(T.length:Int)-s.at_<=k/\g.cm.length<=12/\g.globals.length<=8/\g.funcs.length<=16)->∀n o,k+1<=n->k+1<=o->∃p q,jT T 800000000 n g s=D p/\fi T 800000000 o g s=D q/\cB p q
 |k,s,g,h,0,_,A,_=>af
 |k,s,g,h,_,0,_,A=>af
 |k,s,g,h,n+1,o+1,A,Q=>by
  by_cases w:s.ak=0
  ·obtain⟨gs,P,E,F,dH⟩:=h w;have H:(s.ak==0)=true:=by rw[w];rfl
   have N:=gs.b;have M:=gs.a;obtain⟨n,rfl⟩:∃m,n=m+1:=⟨n-1,af⟩;obtain⟨o,rfl⟩:∃m,o=m+1:=⟨o-1,af⟩;have v:∀e:Int,e≠0->(bE T e s).ak≠0:=λe he=>dU he
   rw[jT,fi,H,Bool.true_and];cases L:(al T s.at_).kind != 0 with
   |false=>exact⟨_,_,rfl,rfl,.rfl' _⟩
   |true=>
    have z:(al T s.at_).kind≠0:=by simpa using L
    rw[aR,aR];unfold isRec jK isFun;rw[wP s (x:=[114,101,99,111,114,100]) bk,wP s (x:=[103,108,111,98,97,108]) bk,wP s (x:=[102,117,110,99]) bk];cases B:bo T s 3 [114,101,99,111,114,100]with
    |true=>
     rw[tj B (y:=[103,108,111,98,97,108]) bk,tj B (y:=[102,117,110,99]) bk];simp only[Bool.true_and,Bool.false_and,Bool.or_false,aR];by_cases l:g.cm.length=12
     ·rw[show(g.cm.length==12)=X by simpa using l,aR,nb (v 4 bk)];obtain⟨p,e,G⟩:=LJ (T:=T) (s:=s) g l;obtain⟨c,d,j⟩:=G w;rw[e,Option.bind_some,nc c];exact⟨_,_,rfl,rfl,.inr ⟨c,d,j⟩⟩
     ·rw[show(g.cm.length==12)=U by simpa using l,aK];obtain⟨p,q,f1,f2,f3,f4⟩:=LK aw g gs z af;rw[f1,f2,Option.bind_some,Option.bind_some];rcases f3 with⟨c,d⟩|⟨c,d,j⟩
      ·obtain⟨g2,i⟩:=f4 c;rw[<-d]at c g2 i ⊢;exact tZ aw (k-1) q.2 {g with cm:=g.cm++[q.1]} (λ_=>⟨g2,by simp only at i;omega,by simp;omega,F,dH⟩) (n+1) (o+1) (by simp only at i;omega) (by simp only at i;omega)
      ·have u:q.2.ak≠0:=by rw[d];exact c
       rw[nc c,nb u];exact⟨_,_,rfl,rfl,.inr ⟨c,d,j⟩⟩
    |false=>
     cases K:bo T s 3 [103,108,111,98,97,108]with
     |true=>
      rw[tj K (y:=[102,117,110,99]) bk];simp only[Bool.true_and,Bool.false_and,Bool.or_false,Bool.false_or,aR,aK];by_cases l:g.globals.length=8
      ·rw[show(g.globals.length==8)=X by simpa using l,aR,nb (v 4 bk)];obtain⟨c,d,j⟩:=J3 (T:=T) (s:=s) g l;rw[nc c];exact⟨_,_,rfl,rfl,.inr ⟨c,d,j⟩⟩
      ·rw[show(g.globals.length==8)=U by simpa using l,aK];obtain⟨f3,f4⟩:=J4 aw g gs z af;rcases f3 with⟨c,d⟩|⟨c,d,j⟩
       ·obtain⟨g2,i⟩:=f4 c;rw[<-d]at c g2 i ⊢;exact tZ aw (k-1) (a_ T [59] (c9 T (av s)).2) {g with globals:=g.globals++[(c9 T (av s)).1]} (λ_=>⟨g2,by simp only at i;omega,E,by simp;omega,dH⟩) (n+1) (o+1) (by simp only at i;omega) (by simp only at i;omega)
       ·have u:(a_ T [59] (c9 T (av s)).2).ak≠0:=λh=>c (d.symm.trans h)
        rw[nc c,nb u];exact⟨_,_,rfl,rfl,.inr ⟨c,d,j⟩⟩
     |false=>
      cases O:bo T s 3 [102,117,110,99]with
      |true=>
       simp only[Bool.true_and,Bool.false_and,Bool.or_false,Bool.false_or,aR,aK];by_cases l:g.funcs.length=16
       ·rw[show(g.funcs.length==16)=X by simpa using l,aR,nb (v 4 bk)];obtain⟨p,e,c,d,j⟩:=JV (T:=T) (s:=s) g l;rw[e,Option.bind_some,nc c];exact⟨_,_,rfl,rfl,.inr ⟨c,d,j⟩⟩
       ·rw[show(g.funcs.length==16)=U by simpa using l,aK];obtain⟨p,q,f1,f2,f3,f4⟩:=JW aw g gs z af;rw[f1,f2,Option.bind_some,Option.bind_some];rcases f3 with⟨c,d⟩|⟨c,d,j⟩
        ·obtain⟨g2,i,-⟩:=f4 c;rw[<-d]at c g2 i ⊢;exact tZ aw (k-1) q.2 {g with funcs:=g.funcs++[q.1]} (λ_=>⟨g2,by simp only at i;omega,E,F,by simp;omega⟩) (n+1) (o+1) (by simp only at i;omega) (by simp only at i;omega)
        ·have u:q.2.ak≠0:=λh=>c (d.symm.trans h)
         rw[nc c,nb u];exact⟨_,_,rfl,rfl,.inr ⟨c,d,j⟩⟩
      |false=>
       simp only[Bool.false_and,Bool.or_false,aK];rw[nc (v 2 bk),nb (v 2 bk)];exact⟨_,_,rfl,rfl,.rfl' _⟩
  ·rw[nc w,nb w];exact⟨_,_,rfl,rfl,.rfl' _⟩
def Lz(aw:gQ T)(j:0<T.length):∃p q,jT T 800000000 800000000 .none ⟨0,0,0,0⟩=D p/\fi T 800000000 800000000 .none ⟨0,0,0,0⟩=D q/\na p.1 p.2=na q.1 q.2:=by
 have k:=aw.n;obtain⟨p,q,d,e,a⟩:=tZ aw T.length ⟨0,0,0,0⟩ .none (λ_=>⟨⟨rfl,Int.le_refl 0,by show(0:Int)<T.length;omega,rfl,rfl⟩,by show(T.length:Int)-0<=T.length;omega,bk,bk,bk⟩) 800000000 800000000 af af;refine⟨p,q,d,e,?_⟩;unfold na;rcases a with⟨a,rfl⟩|⟨a,c,i⟩
 ·rfl
 ·rw[if_neg a,if_neg (λh=>a (c.symm.trans h)),c,i]
