/-
  Texts of one proof, laid together: T4 T5 U6 U7 Qb Qc Qd Qe Qf Qg Qh Lz Qi Ra Rb Rc Rd.
-/
import Derived.Test.YtghmbpmaafnodaaDoorMO
set_option linter.unusedVariables false
set_option linter.unusedSimpArgs false
set_option linter.defProp false
open Option renaming some→D,none→C
open Bool renaming true→X,false→U
open Go.bn.aa renaming int→I,str→Z,bool→Y
open Go.IntKind renaming i64→J
namespace Go.Proofs.YtghmbpmaafnodaaDoor
open Go.bn
def iN(T:List Tok)(s x y:al):Prop:=ei x y/\(x.an=0->x.bk=s.bk/\x.bN=s.bN/\left T x<=left T s)
def gB{α:Type}(T:List Tok)(s:al)(x y:α×al):Prop:=cR x y/\(x.2.an=0->x.2.bk=s.bk/\x.2.bN=s.bN/\left T x.2<=left T s)
def cR.eq{α:Type}{p q:α×al}(h:cR p q)(a:p.2.an=0):q=p:=by
 rcases h with h|h
 ·exact h.2
 ·exact absurd a h.1
def cR.il{α:Type}{p q:α×al}(h:cR p q):ei p.2 q.2:=by
 rcases h with⟨h,rfl⟩|⟨a,c,d⟩
 ·exact .inl ⟨h,rfl⟩
 ·exact .inr ⟨a,c,d⟩
def cR.iD{α:Type}{p q:α×al}(h:ei p.2 q.2)(i:p.2.an=0->q.1=p.1):cR p q:=by
 rcases h with⟨h,e⟩|⟨a,c,d⟩
 ·exact .inl ⟨h,Prod.ext (i h) e⟩
 ·exact .inr ⟨a,c,d⟩
def gB.st{α:Type}{T:List Tok}{s:al}{x y:α×al}(h:gB T s x y):iN T s x.2 y.2:=⟨h.1.il,h.2⟩
def ei.eq{x y:al}(h:ei x y)(a:x.an=0):y=x:=by
 rcases h with h|h
 ·exact h.2
 ·exact absurd a h.1
def ei.ne{x y:al}(h:ei x y)(a:x.an≠0):y.an≠0:=by
 rcases h with h|h
 ·exact absurd h.1 a
 ·rw[h.2.1];exact a
section
variable {T:List Tok}(ay:T.length<=20000000)
include ay
theorem vf{s x y:al}(h:iN T s x y){z:aC}(e:kw z=4):iN T s (b8 T z x).2 (bh T z y):=by
 refine⟨s5 h.1 e,λd=> ?_⟩;obtain⟨aT,a2,a3⟩:=dC.lZ z x d;obtain⟨a,c,b3⟩:=h.2 aT;exact⟨a2.trans a,a3.trans c,Nat.le_trans (r3 ae x z) b3⟩
theorem Vj{x:al}{z:aC}(c:(b8 T z x).2.an=0):left T (b8 T z x).2+1<=left T x:=by
 cases a:bz T x 4 z with
 |true=>
  have:(b8 T z x).2=aw x:=by simp[b8,a]
  rw[this];exact kZ ae aK a
 |false=>
  have:(b8 T z x).2=bQ T 2 x:=by simp[b8,a]
  rw[this]at c;exact(jY aK c).elim
theorem oA{α:Type}{s x y:al}(h:iN T s x y){v c:α}(d:x.an=0->c=v):gB T s (v,(b8 T [59] x).2) (c,bh T [59] y)/\((b8 T [59] x).2.an=0->left T (b8 T [59] x).2+1<=left T s):=by
 have hw:=vf ay h (z:=[59]) aK;refine⟨⟨cR.iD hw.1 λa=>d (dC.lZ [59] x a).1,hw.2⟩,λa=> ?_⟩;have:=Vj ay a;have:=(h.2 (dC.lZ [59] x a).1).2.2;omega
omit ay in
theorem Jt{x:al}(a:x.an=0)(c:x.bN=0)(d:0<=x.bk):m_ x.at_ x.bk=x:=by
 cases x;simp only at a c d;subst a c;simp only[m_];rw[if_neg ae]
theorem pS{s x y:al}(h:iN T s x y)(A:s.bN=0)(n:0<=s.bk):gB T s (dm T x) (bJ T y):=by
 by_cases a:x.an=0
 ·obtain rfl:=h.1.eq a;obtain⟨d,m,b3⟩:=h.2 a;obtain⟨p,q,j,o,c,u⟩:=Aj (T:=T) ae T.length y (vN _ _) 0 800000000 800000000 ae ae ae;have l:bJ T y=q:=by simp only[bJ,o]
  rw[l];have ar:=Jt a (m.trans A) (by rw[d];exact n);by_cases aF:p.2.an=0
  ·obtain⟨-,e⟩:=(GL T 800000000).row 0 y p j aF;obtain⟨aq,aH⟩:=e (by rw[d];exact n);have k:dm T y=p:=by
    unfold dm;rw[if_neg (by simp[a]),ar,j];simp only[aF,if_true];refine Prod.ext rfl ?_;rw[show p.2=⟨p.2.at_,p.2.bk,p.2.an,p.2.bN⟩from rfl,aq,aH,aF,<-a]
   rw[k];exact⟨c,λ_=>⟨aq.trans d,aH.trans m,Nat.le_trans u b3⟩⟩
  ·have k:dm T y=(.zero,{y with an:=p.2.an,bN:=p.2.bN}):=by
    unfold dm;rw[if_neg (by simp[a]),ar,j];simp only[aF,if_false]
   rw[k];rcases c with c|⟨v,w,z⟩
   ·exact absurd c.1 aF
   ·exact⟨.inr ⟨v,w,z⟩,λh=>absurd h aF⟩
 ·have B:=h.1.ne a;have aF:dm T x=(.zero,x):=by simp[dm,a]
  have l:bJ T y=(oG T y,y):=by simp only[bJ,rL B 800000000 0 ae ae]
  rw[aF,l];refine⟨cR.iD h.1 λi=>absurd i a,λi=>absurd i a⟩
omit ay in
theorem KK(x:aC)(o:Int):∀(n:Nat) (s:al),kb T x n {s with bk:=o}={kb T x n s with bk:=o}
 |0,s=>rfl
 |n+1,s=>by
  have:(b8 T x {s with bk:=o}).2={(b8 T x s).2 with bk:=o}:=by
   have a:bz T {s with bk:=o} 4 x=bz T s 4 x:=rfl;simp only[b8,a];cases bz T s 4 x with
   |true=>rfl
   |false=>
    simp only[aN,bQ];split<;>rfl
  simp only[YtghmbpmaafnodaaDoor.kb,this];exact KK x o n _
omit ay in
theorem Hd(o:Int):∀(n:Nat) (d:Int) (s:al),gM T n d {s with bk:=o}=match gM T n d s with
  | .inl p=> .inl (p.1,{p.2 with bk:=o})
  | .inr s'=> .inr {s' with bk:=o}
 |0,d,s=>by
  have a:bz T {s with bk:=o} 4 [91]=bz T s 4 [91]:=rfl;simp only[gM,a];cases bz T s 4 [91]with
  |true=>simp only[aS,bQ];split<;>rfl
  |false=>rfl
 |n+1,d,s=>by
  have a:bz T {s with bk:=o} 4 [91]=bz T s 4 [91]:=rfl;simp only[gM,a];cases bz T s 4 [91]with
  |true=>exact Hd o n (d+1) (aw s)
  |false=>rfl
omit ay in
theorem PO(o:Int)(s:al):dT T {s with bk:=o}=((dT T s).1,{(dT T s).2 with bk:=o}):=by
 unfold dT;rw[Hd];cases gM T 3 0 s with
 |inr s'=>rfl
 |inl p=>
  have a:∀x,bz T {p.2 with bk:=o} 3 x=bz T p.2 3 x:=λ_=>rfl
  simp only[j1,a];cases((aj T p.2.at_).kind != 1&&(!bz T p.2 3 [105,110,116]&& !bz T p.2 3 [98,111,111,108]))with
  |true=>simp only[aS,bQ];split<;>rfl
  |false=>
   simp only[aN];exact Prod.ext rfl (KK [93] o p.1.toNat (aw p.2))
omit ay in
theorem uc{y:al}(h:y.an≠0):cM T y=(([],0),y):=by
 simp only[cM,fb,et h,aN,fz,Bool.or_self,v7 h];rfl
theorem x5{s x:al}(c:x.an=0)(h:x.bk=s.bk/\x.bN=s.bN/\left T x<=left T s)(i:s.bN=0):gB T s (oT T x) (cM T x):=by
 obtain⟨l,d,b3⟩:=h;have o:x={(⟨x.at_,0,0,0⟩:al)with bk:=x.bk}:=by
  cases x;simp only at c d ⊢;rw[c,d,i]
 have k:=PO (T:=T) x.bk ⟨x.at_,0,0,0⟩;rw[<-o]at k;have ar:=of_same T x;rw[k]at ar;unfold oT;by_cases a:(dT T ⟨x.at_,0,0,0⟩).2.an=0
 ·obtain⟨-,p,j⟩:=dC.of (T:=T) ⟨x.at_,0,0,0⟩ a;rw[if_pos a];have e:({x with at_:=(dT T ⟨x.at_,0,0,0⟩).2.at_}:al)={(dT T ⟨x.at_,0,0,0⟩).2 with bk:=x.bk}:=by
   have m:(dT T ⟨x.at_,0,0,0⟩).2.bN=0:=j;show _=(⟨(dT T ⟨x.at_,0,0,0⟩).2.at_,x.bk,(dT T ⟨x.at_,0,0,0⟩).2.an,(dT T ⟨x.at_,0,0,0⟩).2.bN⟩:al);rw[c,a,m,d,i]
  rw[e];have n:=zd (T:=T) ae ⟨x.at_,0,0,0⟩;refine⟨ar,λ_=>⟨l,?_,?_⟩⟩
  ·show(dT T ⟨x.at_,0,0,0⟩).2.bN=s.bN;rw[i];exact j
  ·refine Nat.le_trans (Nat.le_trans n ?_) b3;unfold left;simp[c]
 ·rw[if_neg a];rcases ar with ar|⟨g1,g2,g3⟩
  ·exact absurd ar.1 a
  ·exact⟨.inr ⟨g1,g2,g3⟩,λh=>absurd h a⟩
theorem x6{s x:al}(l:x.an=0)(h:x.bk=s.bk/\x.bN=s.bN/\left T x<=left T s)(m:s.bN=0):gB T s (jT T x) (dd T x):=by
 have n:(x.an==0)=true:=by simp[l]
 have base:iN T s (aw (bif (aj T x.at_).kind != 1 then bQ T 2 x else x)) (bA T x).2/\((aw (bif (aj T x.at_).kind != 1 then bQ T 2 x else x)).an=0->(bA T x).1=(aj T x.at_).text):=by
  by_cases d:(aj T x.at_).kind=1
  ·have i:((aj T x.at_).kind != 1)=false:=by simp[d]
   have j:((aj T x.at_).kind==1)=true:=by simp[d]
   simp only[i,aN,bA,n,j,Bool.and_self,aS];have q:=kY (T:=T) ae l (by rw[d];decide);exact⟨⟨ei.refl _,λ_=>⟨h.1,h.2.1,ae⟩⟩,λ_=>trivial⟩
  ·have i:((aj T x.at_).kind != 1)=true:=by simpa using d
   have j:((aj T x.at_).kind==1)=false:=by simpa using d
   simp only[i,aS,bA,j,Bool.and_false,aN];have a:(bQ T 2 x).an≠0:=λc=>jY aK c
   exact⟨⟨.inr ⟨a,rfl,rfl⟩,λc=>absurd c a⟩,λc=>absurd c a⟩
 have e:iN T s (colonS T x) (bh T [58] (bA T x).2):=vf ay base.1 (z:=[58]) aK;unfold jT dd;by_cases a:(colonS T x).an=0
 ·rw[if_neg (by simp[a])];have o:=base.2 (dC.lZ [58] _ a).1;rw[e.1.eq a,o];have k:=x5 ay a (e.2 a) m;exact⟨cR.iD k.1.il λc=>by rw[k.1.eq c],k.2⟩
 ·rw[if_pos a];have p:=e.1.ne a;rw[uc p];exact⟨cR.iD e.1 λc=>absurd c a,λc=>absurd c a⟩
def pP{α:Type}(T:List Tok)(s:al)(p:α×al):Prop:=p.2.an=0->left T p.2+1<=left T s
theorem LC{s x:al}(e:x.an=0)(h:x.bk=s.bk/\x.bN=s.bN/\left T x<=left T s)(d:s.bN=0):gB T s (C1 T x) (ko T x):=by
 have a:=x6 ay e h d;exact(oA ay a.st λc=>by rw[a.1.eq c]).1
theorem LD{s x:al}(k:x.an=0)(h:x.bk=s.bk/\x.bN=s.bN/\left T x<=left T s)(d:s.bN=0)(l:0<=s.bk):gB T s (F7 T x) (kE T x):=by
 have e:=x6 ay k h d;have he:=pS ay (vf ay e.st (z:=[61]) aK) d l;refine(oA ay he.st λa=> ?_).1;have i:(b8 T [61] (jT T x).2).2.an=0:=by
  by_cases c:(b8 T [61] (jT T x).2).2.an=0
  ·exact c
  ·rw[show dm T (b8 T [61] (jT T x).2).2=(.zero,(b8 T [61] (jT T x).2).2) by simp[dm,c]]at a;exact absurd a c
 have j:=(dC.lZ [61] _ i).1;rw[he.1.eq a,e.1.eq j]
theorem LH{s x:al}(h:iN T s x x)(c:s.bN=0)(d:0<=s.bk):gB T s (HT T x) (lI T x):=by
 have he:=pS ay h c d;exact(oA ay he.st λa=>by rw[he.1.eq a]).1
omit ay in
theorem oL(s:al)(x:aC)(h:kw x=4):aV T s x=bz T s 4 x:=by rw[aV,h]
theorem LI{s x:al}(h:iN T s x x)(c:s.bN=0)(d:0<=s.bk):gB T s (wH T x) (j4 T x):=by
 unfold wH j4;rw[oL x [59] aK];cases bz T x 4 [59]with
 |true=>exact(oA ay h λ_=>rfl).1
 |false=>
  have he:=pS ay h c d;exact(oA ay he.st λa=>by rw[he.1.eq a]).1
theorem LJ{s x:al}(h:iN T s x x)(e:aE)(c:s.bN=0)(i:0<=s.bk):gB T s (xl T e x) (mY T e x)/\pP T s (xl T e x):=by
 have d:iN T s (bif gn e then bQ T 2 x else x) (bif gn e then bQ T 2 x else x):=by
  cases gn e with
  |false=>exact h
  |true=>exact⟨ei.refl _,λa=>(jY (T:=T) (s:=x) (e:=2) aK a).elim⟩
 have he:=pS ay (vf ay d (z:=[61]) aK) c i;exact oA ay he.st λa=>by rw[show bJ T (hp T e x)=dm T (kr T e x)from he.1.eq a]
theorem LG{s x:al}(h:iN T s x x)(d:s.bN=0)(i:0<=s.bk):gB T s (o3 T x) (fW T x)/\pP T s (o3 T x):=by
 have he:=pS ay h d i;unfold o3 fW;rw[oL _ [61] aK,oL _ [59] aK];by_cases a:(dm T x).2.an=0
 ·rw[he.1.eq a];have j:iN T s (dm T x).2 (dm T x).2:=⟨ei.refl _,he.2⟩;cases bz T (dm T x).2 4 [61]with
  |true=>exact LJ ay j _ d i
  |false=>
   refine oA ay ?_ λ_=>rfl
   cases(bz T (dm T x).2 4 [59]&&(dm T x).1.kind != 7)with
   |false=>exact j
   |true=>exact⟨ei.refl _,λc=>(jY (T:=T) (s:=(dm T x).2) (e:=2) aK c).elim⟩
 ·have k:=he.1.il.ne a;simp only[h8 a,h8 k,aN,Bool.false_and];exact oA ay he.st λc=>absurd c a
end
section
set_option linter.unusedSectionVars false
def va(T:List Tok)(k:Nat):Prop:=∀s:al,s.an=0->s.bN=0->0<=s.bk->left T s<=k->∀n a,10*k+10<=n->10*k+10<=a->∃p q,uU T n s=D p/\hb T a s=D q/\gB T s p q/\pP T s p
def xK(T:List Tok)(k:Nat):Prop:=∀s x y:al,iN T s x y->s.bN=0->0<=s.bk->left T x<=k->∀n a,10*k+5<=n->10*k+5<=a->∃p q,ma T n x=D p/\ej T a y=D q/\gB T s p q/\pP T x p
section
variable {T:List Tok}(ay:T.length<=20000000)
def xu{x:al}(h:x.an≠0)(n:Nat)(l:List bf):nb T (n+1) l x=D (l,x):=by
 have a:(x.an==0)=false:=by simpa using h
 simp[nb,a]
def tW{x:al}(h:x.an≠0)(n:Nat)(l:List bf):fH T (n+1) l x=D (l,x):=by
 have a:(x.an==0)=false:=by simpa using h
 simp[fH,a]
include ay
theorem LF{K:Nat}(H:∀j,j<=K->va T j):∀(c:Nat),c<=K->∀(s x y:al),iN T s x y->s.bN=0->0<=s.bk->left T x<=c->∀n e,10*c+12<=n->10*c+12<=e->∀l l',(x.an=0->l'=l)->
  ∃p q,nb T n l x=D p/\fH T e l' y=D q/\gB T s p q:=by
 intro c
 induction c with
 |zero=>
  intro G s x y h v w F n e N O l l' he;obtain⟨n,rfl⟩:∃m,n=m+2:=⟨n-2,ae⟩;obtain⟨e,rfl⟩:∃m,e=m+2:=⟨e-2,ae⟩;by_cases a:x.an=0
  ·obtain rfl:=h.1.eq a;rw[he a];obtain⟨o,u,b3⟩:=h.2 a;have E:(y.an==0)=true:=by simp[a]
   simp only[nb,fH,E,oL y [125] aK,Bool.true_and];cases bz T y 4 [125]with
   |true=>exact⟨_,_,rfl,rfl,.inl ⟨a,rfl⟩,h.2⟩
   |false=>
    simp only[Bool.not_false,aS];obtain⟨p,q,z,A,i,B⟩:=H 0 ae y a (u.trans v) (by rw[o];exact w) F (n+1) (e+1) ae ae;rw[z,A];simp only[Option.bind_some];have aF:p.2.an≠0:=λd=>by have:=B d;omega
    have k:=i.1.il.ne aF;have L:=xu (T:=T) aF n (l++[p.1]);have M:=tW (T:=T) k e (l++[q.1]);simp only[nb]at L;simp only[fH]at M;rw[L,M];exact⟨_,_,rfl,rfl,cR.iD i.1.il λd=>absurd d aF,λd=>absurd d aF⟩
  ·exact⟨_,_,xu a _ _,tW (h.1.ne a) _ _,cR.iD h.1 λd=>absurd d a,λd=>absurd d a⟩
 |succ c P=>
  intro G s x y h v w F n e N O l l' he;obtain⟨n,rfl⟩:∃m,n=m+2:=⟨n-2,ae⟩;obtain⟨e,rfl⟩:∃m,e=m+2:=⟨e-2,ae⟩;by_cases a:x.an=0
  ·obtain rfl:=h.1.eq a;rw[he a];obtain⟨o,u,b3⟩:=h.2 a;have E:(y.an==0)=true:=by simp[a]
   rw[nb,fH];simp only[E,oL y [125] aK,Bool.true_and];cases bz T y 4 [125]with
   |true=>exact⟨_,_,rfl,rfl,.inl ⟨a,rfl⟩,h.2⟩
   |false=>
    simp only[Bool.not_false,aS];obtain⟨p,q,z,A,i,B⟩:=H (c+1) G y a (u.trans v) (by rw[o];exact w) F (n+1) (e+1) ae ae;rw[z,A];simp only[Option.bind_some];by_cases aF:p.2.an=0
    ·have k:=i.1.eq aF;have Q:=B aF;obtain⟨d1,d2,d3⟩:=i.2 aF;rw[k];exact P ae s p.2 p.2 ⟨ei.refl _,λ_=>⟨d1.trans o,d2.trans u,Nat.le_trans d3 b3⟩⟩ v w ae (n+1) (e+1) ae ae _ _ λ_=>rfl
    ·have k:=i.1.il.ne aF;exact⟨_,_,xu aF _ _,tW k _ _,cR.iD i.1.il λd=>absurd d aF,λd=>absurd d aF⟩
  ·exact⟨_,_,xu a _ _,tW (h.1.ne a) _ _,cR.iD h.1 λd=>absurd d a,λd=>absurd d a⟩
theorem x4{s x y:al}{e:Int}(he:e≠0)(c:Nat)(h:ei (bQ T e x) (cB T [123] y))(k:2<=c):
  ∃p q,D (([]:List bf),bQ T e x)=D p/\ej T c y=D q/\gB T s p q/\pP T x p:=by
 obtain⟨c,rfl⟩:∃m,c=m+2:=⟨c-2,ae⟩;have d:(bQ T e x).an≠0:=λa=>jY he a
 have i:=h.ne d;rw[ej,tW i,Option.bind_some];have j:dh T [125] (cB T [123] y)=dU (cB T [123] y):=by
  simp only[dh,bh,et i,aN,fm i]
 refine⟨_,_,rfl,rfl,⟨?_,λa=>absurd a d⟩,λa=>absurd a d⟩;simp only[j];rcases h with h|⟨g1,g2,g3⟩
 ·exact absurd h.1 d
 ·exact .inr ⟨g1,g2,g3⟩
theorem BR{k:Nat}(O:∀j,j<k->va T j):xK T k:=by
 intro s x y h F M R n c V W;obtain⟨n,rfl⟩:∃m,n=m+1:=⟨n-1,ae⟩;rw[ma];by_cases d:x.an=0
 ·obtain rfl:=h.1.eq d;obtain⟨u,w,b3⟩:=h.2 d;cases e:bz T y 4 [123]with
  |false=>
   refine x4 ay aK c ?_ ae;have:cB T [123] y=e0 (bQ T 2 y):=by simp[cB,bh,oL y [123] aK,e]
   rw[this];exact .inr ⟨λa=>jY aK a,rfl,rfl⟩
  |true=>
   simp only[aS];by_cases l:50<=y.bk
   ·rw[if_pos l];refine x4 ay aK c ?_ ae;have:cB T [123] y=bQ T 4 y:=by simp[cB,oL y [123] aK,e,l]
    rw[this];exact .refl _
   ·rw[if_neg l];have N:cB T [123] y={y with at_:=e8 (y.at_+1),bk:=e8 (y.bk+1)}:=by
     simp only[cB,bh,oL y [123] aK,e,l,decide_false,Bool.and_false,aN,aS];rfl
    have Q:1<=k:=by
     have:=kZ (T:=T) ae (s:=y) aK e;omega
    have L:=kZ (T:=T) ae (s:=y) aK e;obtain⟨c,rfl⟩:∃m,c=m+1:=⟨c-1,ae⟩;rw[ej,N];obtain⟨z,B⟩:=xv (o:=y.bk) (by rw[u];exact M) ae;have S:left T {y with at_:=e8 (y.at_+1),bk:=e8 (y.bk+1)}+1<=left T y:=L;obtain⟨p,q,v,E,i⟩:=LF ay (K:=k-1) (λj P=>O j ae) (k-1) (bo _) {y with at_:=e8 (y.at_+1),bk:=e8 (y.bk+1)} _ _ ⟨ei.refl _,λ_=>⟨rfl,rfl,bo _⟩⟩ (w.trans F) (by show(0:Int)<=e8 (y.bk+1);rw[z,u];omega) ae n c ae ae [] [] λ_=>rfl
    rw[v,E];simp only[Option.bind_some];have G:=nq (T:=T) i.1.il (x:=[125]) aK;have H:ei (b8 T [125] (dU p.2)).2 (dh T [125] q.2):=G;refine⟨_,_,rfl,rfl,⟨cR.iD H λa=> ?_,λa=> ?_⟩,λa=> ?_⟩
    ·have:=(dC.lZ [125] _ a).1;rw[i.1.eq this]
    ·obtain⟨d1,d2,d3⟩:=dC.lZ [125] _ a;obtain⟨aq,aH,bu⟩:=i.2 d1;refine⟨?_,d3.trans (aH.trans w),?_⟩
     ·rw[d2];show e8 (p.2.bk-1)=s.bk;rw[aq];show e8 (e8 (y.bk+1)-1)=s.bk;rw[z,B,u]
     ·have hw:=r3 (T:=T) ae (dU p.2) [125];rw[ze]at hw;have ar:left T (b8 T [125] (dU p.2)).2<=left T s:=ae;exact ar
    ·obtain⟨d1,d2,d3⟩:=dC.lZ [125] _ a;obtain⟨aq,aH,bu⟩:=i.2 d1;have hw:=r3 (T:=T) ae (dU p.2) [125];rw[ze]at hw;have ar:left T (b8 T [125] (dU p.2)).2+1<=left T y:=ae;exact ar
 ·rw[h8 d,aN];refine x4 ay aK c ?_ ae;have A:=h.1.ne d;have:cB T [123] y=e0 y:=by simp[cB,bh,et A,fm A]
  rw[this,fm d];rcases h.1 with v|⟨g1,g2,g3⟩
  ·exact absurd v.1 d
  ·exact .inr ⟨g1,g2,g3⟩
omit ay in
theorem qe{s:al}(a:s.an=0){x:aC}(c:kw x=3):aV T s x=((aj T s.at_).kind==3&&(aj T s.at_).text==x):=by
 simp[aV,c,bz,a]
theorem BQ{s:al}{p q:bf×al}(pos:Int)(h:gB T s p q):gB T s (p.1.at pos,p.2) (q.1.at pos,q.2):=⟨cR.iD h.1.il λa=>by rw[h.1.eq a],h.2⟩
theorem LK{k:Nat}(A:∀j,j<k->xK T j):va T k:=by
 intro s d c i R n l S V;obtain⟨n,rfl⟩:∃m,n=m+2:=⟨n-2,ae⟩;obtain⟨l,rfl⟩:∃m,l=m+2:=⟨l-2,ae⟩;have self:iN T s s s:=⟨ei.refl _,λ_=>⟨rfl,rfl,bo _⟩⟩;rw[uU,hb];simp only[qe d (x:=[118,97,114]) aK,qe d (x:=[108,101,116]) aK,qe d (x:=[105,102]) aK,qe d (x:=[119,104,105,108,101]) aK,qe d (x:=[114,101,116,117,114,110]) aK,qe d (x:=[112,114,105,110,116]) aK];have plain:∃p q,(D (o3 T s)).bind (λp=>D (p.1.at (aj T s.at_).pos,p.2))=D p/\(D (fW T s)).bind (λp=>D (p.1.at (aj T s.at_).pos,p.2))=D q/\gB T s p q/\pP T s p:=by
  obtain⟨o,u⟩:=LG ay self c i;exact⟨_,_,rfl,rfl,BQ ay _ o,u⟩
 cases N:(aj T s.at_).kind==3 with
 |false=>
  simp only[aN,Bool.false_and,Bool.or_self];exact plain
 |true=>
  simp only[aS,Bool.true_and];have O:(aj T s.at_).kind=3:=by simpa using N
  have P:=kY (T:=T) ae d (by rw[O];decide);have gs:iN T (aw s) (aw s) (aw s):=⟨ei.refl _,λ_=>⟨rfl,rfl,bo _⟩⟩;have up:∀{p q:bf×al},gB T (aw s) p q->∃B H,(D p).bind (λp=>D (p.1.at (aj T s.at_).pos,p.2))=D B/\(D q).bind (λp=>D (p.1.at (aj T s.at_).pos,p.2))=D H/\gB T s B H/\pP T s B:=λ{p q} h=>by
   refine⟨_,_,rfl,rfl,BQ ay _ ⟨h.1,λa=> ?_⟩,λa=> ?_⟩
   ·obtain⟨aq,aH,bu⟩:=h.2 a;exact⟨aq,aH,ae⟩
   ·obtain⟨aq,aH,bu⟩:=h.2 a;show left T p.2+1<=left T s;omega
  have E:=gs.2 d;cases t1:(aj T s.at_).text==[118,97,114]with
  |true=>
   have t2:((aj T s.at_).text==[108,101,116])=false:=by
    have:(aj T s.at_).text=[118,97,114]:=by simpa using t1
    rw[this];rfl
   simp only[aS,Bool.true_or,t2,aN];exact up (LC ay d E c)
  |false=>
   simp only[aN,Bool.false_or];cases t2:(aj T s.at_).text==[108,101,116]with
   |true=>
    simp only[aS];exact up (LD ay d E c i)
   |false=>
    simp only[aN];cases t3:(aj T s.at_).text==[105,102]with
    |true=>
     simp only[aS];have he:=pS ay gs c i;rw[vo];have hle:left T (dm T (aw s)).2<=k-1:=by
      by_cases a:(dm T (aw s)).2.an=0
      ·have:=(he.2 a).2.2;omega
      ·rw[kX a];omega
     obtain⟨p,q,o,u,e,v⟩:=A (k-1) ae (aw s) _ _ he.st c i hle n (l+1) ae ae;rw[o,u];simp only[Option.bind_some];by_cases aF:p.2.an=0
     ·have y:=e.1.eq aF;have z:=v aF;have w:(dm T (aw s)).2.an=0:=by
       by_cases a:(dm T (aw s)).2.an=0
       ·exact a
       ·rw[kX a]at z;omega
      rw[y,he.1.eq w,qe aF (x:=[101,108,115,101]) aK];have L:bz T p.2 3 [101,108,115,101]=((aj T p.2.at_).kind==3&&(aj T p.2.at_).text==[101,108,115,101]):=by simp[bz,aF]
      rw[<-L];cases M:bz T p.2 3 [101,108,115,101]with
      |false=>
       simp only[aN];exact up ⟨.inl ⟨aF,rfl⟩,e.2⟩
      |true=>
       simp only[aS];have Q:=kZ (T:=T) ae (s:=p.2) aK M;obtain⟨f1,f2,f3⟩:=e.2 aF;obtain⟨G,K,g1,g2,g3,g4⟩:=A (k-1) ae (aw s) (aw p.2) (aw p.2) ⟨ei.refl _,λ_=>⟨f1,f2,ae⟩⟩ c i ae n (l+1) ae ae;rw[g1,g2];simp only[Option.bind_some];refine up (p:=(bf.mk {kind:=5} [(dm T (aw s)).1] p.1 G.1,G.2)) (q:=(bf.mk {kind:=5} [(dm T (aw s)).1] p.1 K.1,K.2)) ?_;exact⟨cR.iD g3.1.il λa=>by simp only[g3.1.eq a],g3.2⟩
     ·have y:=e.1.il.ne aF;rw[h8 aF,et y];simp only[aN];exact up ⟨cR.iD e.1.il λa=>absurd a aF,λa=>absurd a aF⟩
    |false=>
     simp only[aN];cases t4:(aj T s.at_).text==[119,104,105,108,101]with
     |true=>
      simp only[aS];have he:=pS ay gs c i;rw[wF];have hle:left T (dm T (aw s)).2<=k-1:=by
       by_cases a:(dm T (aw s)).2.an=0
       ·have:=(he.2 a).2.2;omega
       ·rw[kX a];omega
      obtain⟨p,q,o,u,e,v⟩:=A (k-1) ae (aw s) _ _ he.st c i hle n (l+1) ae ae;rw[o,u];simp only[Option.bind_some];refine up (p:=(bf.mk {kind:=6} [(dm T (aw s)).1] p.1 [],p.2)) (q:=(bf.mk {kind:=6} [(bJ T (aw s)).1] q.1 [],q.2)) ?_;refine⟨cR.iD e.1.il λa=> ?_,e.2⟩;have z:=v a;have w:(dm T (aw s)).2.an=0:=by
       by_cases F:(dm T (aw s)).2.an=0
       ·exact F
       ·rw[kX F]at z;omega
      simp only[e.1.eq a,he.1.eq w]
     |false=>
      simp only[aN];cases t5:(aj T s.at_).text==[114,101,116,117,114,110]with
      |true=>
       simp only[aS];exact up (LI ay gs c i)
      |false=>
       simp only[aN];cases t6:(aj T s.at_).text==[112,114,105,110,116]with
       |true=>
        simp only[aS];exact up (LH ay gs c i)
       |false=>
        simp only[aN];exact plain
theorem UJ:∀k,va T k:=by
 intro k
 induction k using Nat.strongRecOn with
 |_ k a=>exact LK ay λj d=>BR ay λi c=>a i ae
theorem MC(k:Nat):xK T k:=BR ay λj _=>UJ ay j
theorem MI(at_ bk:Int):∃p q,ma T 800000000 (m_ at_ bk)=D p/\ej T 800000000 (m_ at_ bk)=D q/\k2 q.1 q.2=k2 p.1 p.2/\gB T (m_ at_ bk) p q:=by
 have j:(0:Int)<=(m_ at_ bk).bk:=by
  show(0:Int)<=if bk<0 then 0 else bk
  split<;>omega
 obtain⟨p,q,d,e,a,-⟩:=MC ay T.length (m_ at_ bk) _ _ ⟨ei.refl _,λ_=>⟨rfl,rfl,bo _⟩⟩ rfl j (vN _ _) 800000000 800000000 ae ae;refine⟨p,q,d,e,?_,a⟩;rcases a.1 with⟨h,rfl⟩|⟨h,c,i⟩
 ·rfl
 ·have a8:¬q.2.an=0:=by rw[c];exact h
  simp only[k2,if_neg h,if_neg a8,c,i]
end
end
structure h5(T:List Tok):Prop where
 n:T.length<=20000000
 g:Good T ((T.length:Int)-1)
def mx(ax bM bS bP:aa)(s:al):cb:= .row U 7 [[ax,I J s.at_,bM,bS,bP,I J s.an,I J s.bN]]
structure gE(H:af)(r:Nat)(T:List Tok)(ax bM bS bP:aa)(s:al):Prop where
 rd:H.get r=some (mx ax bM bS bP s)
 bW:ga H ax T
 a0:0<=s.at_
 aT:s.at_<T.length
 n:T.length<=20000000
 z:s.an=0->s.bN=0
 o:s.bk=0
 one:bM.one=true/\bS.one=true/\bP.one=true
section
variable {H H':af}{r:Nat}{T:List Tok}{ax bM bS bP:aa}{s s':al}
def gE.lt(h:gE H r T ax bM bS bP s):r<H.next:=af.a6 h.rd
def gE.aR(h:gE H r T ax bM bS bP s)(p:aU H H'):gE H' r T ax bM bS bP s:=⟨p.get h.rd,h.bW.aR p,h.a0,h.aT,h.n,h.z,h.o,h.one⟩
def gE.J2(h:gE H r T ax bM bS bP s)(m:cv r H H'):ga H' ax T:=h.bW.a1 λl ro els e=>m.get e (by
 rintro rfl;rw[h.rd]at e;simp only[mx,aZ,cb.row.injEq]at e;omega)
def gE.set(h:gE H r T ax bM bS bP s)(s':al)(a0:0<=s'.at_)(aT:s'.at_<T.length)(z:s'.an=0->s'.bN=0)(o:s'.bk=0):cv r H (H.set r (mx ax bM bS bP s'))/\gE (H.set r (mx ax bM bS bP s')) r T ax bM bS bP s':=by
 have m:cv r H (H.set r (mx ax bM bS bP s')):=dp.db (S:=(· =r)) (dp.refl _ _) (.inl rfl) _;exact⟨m,af.get_set_same h.lt,h.J2 m,a0,aT,h.n,z,o,h.one⟩
def gE.fin(h:gE H r T ax bM bS bP s)(m:cv r H H')(a:H'.get r=D (mx ax bM bS bP s'))(a0:0<=s'.at_)(aT:s'.at_<T.length)(z:s'.an=0->s'.bN=0)(o:s'.bk=0):gE H' r T ax bM bS bP s':=⟨a,h.J2 m,a0,aT,h.n,z,o,h.one⟩
def h5.next(ay:h5 T)(h:(aj T s.at_).kind≠0):s.at_+1<T.length:=by have:=ay.g.lt _ h;omega
def ga.rd(h:ga H ax T):bp (D ax) ax=true:=by
 rcases h with⟨rfl,_⟩|⟨l,i,cap,rfl,_⟩
 ·rfl
 ·exact nC _ _ _ _ _
def fk(T:List Tok)(b:Bool)(a c:Int)(s:al):al:=bif b&&decide (c<=a)then bQ T 4 s else s
def fy(T:List Tok)(s:al):Tok×al:=bif (aj T s.at_).kind != 1 then(.none,bQ T 2 s)else(aj T s.at_,aw s)
def vB(at_ e a:Int)(s:al):al:=if e≠0 then {s with an:=e,bN:=a}else {s with at_:=at_}
def oS(T:List Tok)(s:al):(aC×Int)×al:=if s.an≠0 then(([],0),s)else oT T s
end
def bB.cells(p:bB):List aa:=[Z p.name,Z p.b4,I J p.cy,I J p.pos]
def fv:jB bB:=⟨4,λ_ _ p cs=>cs=p.cells,λh=>by rw[h];exact⟨rfl,rfl⟩,λ_ h=>h⟩
def tY:l3 23 68 4:=⟨ah,A4,⟨_,(by kernel_rfl:je P 68=D 48),aK⟩,⟨_,(by kernel_rfl:fE P 68=D (.agg [Z [],Z [],I J 0,I J 0])),rfl,rfl⟩,aK⟩
def hf(T:List Tok)(s:al):bB×al:=(⟨(fy T s).1.text,(oS T (b8 T [58] (fy T s).2).2).1.1,(oS T (b8 T [58] (fy T s).2).2).1.2,(fy T s).1.pos⟩,(oS T (b8 T [58] (fy T s).2).2).2)
section
variable {H H':af}{r:Nat}{T:List Tok}{ax bM bS bP:aa}{s s':al}
def du.pm{ok:Nat->Prop}{l:List bB}{v:aa}(h:du fv ok H l v)(p:bB)(o:ok (H.next+1))(n:l.length<=1000000000):
  ∃e H',df P (H.push (.row U 4 [p.cells])) [23,23] v (.aG H.next 0 1 4 (D 1))=D (e,H')/\du fv ok H' (l++[p]) e/\H.next+1<=H'.next/\(∀k,k<H.next->¬ok k->H'.get k=H.get k):=by
 obtain⟨e,H',a,b,c,d⟩:=du.app (K:=fv) (ok':=ok) tY h (okE:=λ_=>False) (a:=p) (cs:=p.cells) rfl (λ_ _ i=>i.elim) (λ_ _ i _=>i) o n;refine⟨e,H',a,b,c,λk m q=>d k m ?_⟩;rintro L j rfl;rcases h with⟨rfl,_⟩|⟨L',els,rfl,aH,_⟩
 ·cases j
 ·cases j;exact q aH
def du.nv{ok:Nat->Prop}{l:List bB}{v:aa}(h:du fv ok H l v)(H':af):cx P H' .len [23] [v]=D (I J l.length):=by
 rcases h with⟨rfl,rfl⟩|⟨L,els,rfl,_⟩
 ·exact vS
 ·exact tT
def du.rd{α:Type}{K:jB α}{ok:Nat->Prop}{l:List α}{v:aa}(h:du K ok H l v):bp (D v) v=true:=by
 rcases h with⟨rfl,_⟩|⟨L,els,rfl,_⟩
 ·rfl
 ·exact nC _ _ _ _ _
end
def oJ(T:List Tok):Nat->List bB->al->ad (List bB)
 |0,_,_=>C
 |n+1,l,s=>bif s.an==0&& !bz T s 4 [125]then
  oJ T n (l++[(hf T (fk T ((aj T s.at_).kind==1) l.length 8 s)).1]) (b8 T [59] (hf T (fk T ((aj T s.at_).kind==1) l.length 8 s)).2).2
  else D (l,s)
abbrev jV(r n:Nat):af->af->Prop:=dp λk=>k=r\/n<=k
section
variable {H H':af}{r:Nat}{T:List Tok}{ax bM bS bP:aa}{s s':al}
def gE.p_{H1:af}{s0:al}(h:gE H1 r T ax bM bS bP s0)(m:jV r H1.next H1 H')(a:H'.get r=D (mx ax bM bS bP s'))(a0:0<=s'.at_)(aT:s'.at_<T.length)(z:s'.an=0->s'.bN=0)(o:s'.bk=0):gE H' r T ax bM bS bP s':=
 ⟨a,h.bW.a1 λl ro els e=>m.get e (by
  have:=af.a6 e;rintro(rfl|c)
  ·rw[h.rd]at e;simp only[mx,aZ,cb.row.injEq]at e;omega
  ·omega),a0,aT,h.n,z,o,h.one⟩
def cv.vZ{n:Nat}(m:cv r H H'):jV r n H H':=⟨m.1,λl a ar=>m.2 l a λe=>ar (.inl e)⟩
structure gl(H1 H:af)(r c n2 esz:Nat)(T:List Tok)(ax bM bS bP:aa)(x:aa)(rest:List aa)(l:List bB)(v:aa)(s:al):Prop where
 c1:gE H r T ax bM bS bP s
 cell:H.get c=some (.row false esz [x::v::rest])
 h7:du fv (bx n2) H l v
 m:jV r H1.next H1 H
 bO:r<H1.next
 b2:H1.next<=c
 cw:c<n2
 dN:n2<=H.next
def gl.mut{H1:af}{c n2 esz:Nat}{x:aa}{rest:List aa}{l:List bB}{v:aa}(h:gl H1 H r c n2 esz T ax bM bS bP x rest l v s)(m:cv r H H')(c1:gE H' r T ax bM bS bP s'):gl H1 H' r c n2 esz T ax bM bS bP x rest l v s':=by
 have bO:=h.bO;have b2:=h.b2;have cw:=h.cw;have dN:=h.dN;exact⟨c1,m.get h.cell ae,h.h7.a1 (cK.mut m λk a=>by unfold bx at a;omega),h.m.trans m.vZ,bO,b2,cw,by have:=m.1;omega⟩
def gl.add{H1:af}{c n2 esz:Nat}{x:aa}{rest:List aa}{l:List bB}{v:aa}(u:gE H1 r T ax bM bS bP s')(h:gl H1 H r c n2 esz T ax bM bS bP x rest l v s)(w:l.length<=1000000000)(p:bB):
  ∃i H',df P (H.push (.row U 4 [p.cells])) [23,23] v (.aG H.next 0 1 4 (D 1))=D (i,H')/\H.next+1<=H'.next/\i.one=X/\H'.get c=D (.row U esz [x::v::rest])/\(H.push (.row U 4 [p.cells])).get c=D (.row U esz [x::v::rest])/\gl H1 (H'.set c (.row U esz [x::i::rest])) r c n2 esz T ax bM bS bP x rest (l++[p]) i s:=by
 have bO:=h.bO;have b2:=h.b2;have cw:=h.cw;have dN:=h.dN;obtain⟨i,H',a,b,q,d⟩:=h.h7.pm p (by unfold bx;omega) w;have gc:H'.get c=D (.row U esz [x::v::rest]):=by rw[d c ae (by unfold bx;omega)];exact h.cell
 have lc:=af.a6 gc;have n:jV r H1.next H1 (H'.set c (.row U esz [x::i::rest])):=h.m.trans ⟨by simp;omega,λk j ar=>by
  have y:k≠r:=λe=>ar (.inl e)
  have A:¬H1.next<=k:=λe=>ar (.inr e)
  rw[af.get_set_other ae,d k j (by unfold bx;omega)]⟩
 refine⟨i,H',a,q,b.one,gc,(aU.push _ _).get h.cell,?_,af.get_set_same lc,b.a1 λk x j g=>⟨j,by unfold bx at j;rw[af.get_set_other ae];exact g⟩,n,bO,b2,cw,by simp;omega⟩;exact u.p_ n (by rw[af.get_set_other ae,d r ae (by unfold bx;omega)];exact h.c1.rd) h.c1.a0 h.c1.aT h.c1.z h.c1.o
end
def hQ:jB ep:=⟨3,λH ok x cs=>∃v,cs=[Z x.name,v,I J x.pos]/\dD fv H ok x.fields v,λ⟨v,h,k⟩=>by rw[h];exact⟨rfl,by simp only[List.all_cons,List.all_nil,hS,hs,k.one,Bool.and_self]⟩,λp ⟨v,h,k⟩=>⟨v,h,k.a1 p⟩⟩
def gg:jB Fn:=⟨7,λH ok x cs=>∃v w,cs=[Z x.name,v,Y x.has,Z x.c4,I J x.rd,w,I J x.pos]/\dD fv H ok x.params v/\dr H ok x.body w,λ⟨v,w,h,k,q⟩=>by rw[h];exact⟨rfl,by simp only[List.all_cons,List.all_nil,hS,hs,ue,k.one,q.eb,Bool.and_self]⟩,λp ⟨v,w,h,k,q⟩=>⟨v,w,h,k.a1 p,q.a1 p.s⟩⟩
def GG:l3 22 65 3:=⟨ah,A3,⟨_,(by kernel_rfl:je P 65=D 48),aK⟩,⟨_,(by kernel_rfl:fE P 65=D (.agg [Z [],.aA,I J 0])),rfl,rfl⟩,aK⟩
def GF:l3 24 73 7:=⟨ah,A5,⟨_,(by kernel_rfl:je P 73=D 104),aK⟩,⟨_,(by kernel_rfl:fE P 73=D (.agg [Z [],.aA,Y U,Z [],I J 0,.aA,I J 0])),rfl,rfl⟩,aK⟩
section
variable {H H' H1:af}{r:Nat}{T:List Tok}{ax bM bS bP:aa}{s s':al}
def du.r4{ok:Nat->Prop}{l:List ep}{v:aa}(h:du hQ ok H l v)(H':af):cx P H' .len [22] [v]=D (I J l.length):=by
 rcases h with⟨rfl,rfl⟩|⟨L,els,rfl,_⟩
 ·exact vR
 ·exact tS
def du.r5{ok:Nat->Prop}{l:List Fn}{v:aa}(h:du gg ok H l v)(H':af):cx P H' .len [24] [v]=D (I J l.length):=by
 rcases h with⟨rfl,rfl⟩|⟨L,els,rfl,_⟩
 ·exact vT
 ·exact tU
def grow{α:Type}{K:jB α}{t e:Nat}(y:l3 t e K.esz){i:Nat->Prop}{l:List α}{v:aa}(q:du K i H1 l v)(m:jV r H1.next H1 H)(p:∀k,i k->r<k)(G:r<H1.next){a:α}{cs:List aa}{n2:Nat}(he:K.V H (bx n2) a cs)(F:H1.next<=n2)(u:l.length<=1000000000):
  ∃j H',df P (H.push (.row U K.esz [cs])) [t,t] v (.aG H.next 0 1 K.esz (D 1))=D (j,H')/\j.one=X/\(∀b,du K (λk=>i k\/H1.next<=k) (H'.set r b) (l++[a]) j)/\H.next+1<=H'.next/\H'.get r=H.get r/\
   (∀k x,¬i k->k<H1.next->k≠r->H1.get k=D x->∀b,(H'.set r b).get k=D x)/\∀b,dp (λk=>r<=k) H1 (H'.set r b):=by
 have hm:=m.1;have z:cK H1 i H i:=λk x d g=>by
  have:=af.a6 g;have:=p k d;exact⟨d,m.get g ae⟩
 have s:=q.a1 z;have o:∀L n c,v= .aG L 0 n K.esz c->i L/\L<H1.next:=by
  intro L n c h;rcases q with⟨rfl,_⟩|⟨L',els,rfl,bb,A,_⟩
  ·cases h
  ·cases h;exact⟨bb,af.a6 A⟩
 obtain⟨j,H',aT,a2,a3,a4⟩:=s.app y (ok':=λk=>i k\/H1.next<=k) he (λk x d g=>⟨.inr (by unfold bx at d;omega),λL h=>by have:=(o L _ _ h).2;unfold bx at d;omega⟩) (λk x d _=> .inl d) (.inr ae) u;refine⟨j,H',aT,a2.one,λb=>a2.a1 λk x d g=>⟨d,?_⟩,a3,a4 r ae (λL h=>by have:=p L (o L _ _ h).1;omega),λk x d E w g b=> ?_,λb=>⟨by simp only[af.dK];omega,λk d ar=> ?_⟩⟩
 ·rw[af.get_set_other]
  ·exact g
  ·rintro rfl;rcases d with d|d
   ·have:=p _ d;omega
   ·omega
 ·rw[af.get_set_other (Ne.symm w),a4 k ae (λL h e=>d (e▸(o L _ _ h).1))];exact m.get g ae
 ·have B:k<r:=by simpa using ar
  rw[af.get_set_other ae,a4 k ae (λL h e=>by have:=p L (o L _ _ h).1;omega)];exact m.2 k d ae
def BA(H:af)(r:Nat)(T:List Tok)(ax:aa)(g:bE)(s:al):Prop:=∃bM bS bP,∃h d a:Nat->Prop,gE H r T ax bM bS bP s/\(∀l i n e c,ax= .aG l i n e c->l<r)/\du hQ h H g.b7 bM/\du fv d H g.globals bS/\du gg a H g.funcs bP/\(∀k,h k->r<k/\¬d k/\¬a k)/\(∀k,d k->r<k/\¬a k)/\∀k,a k->r<k
def BA.mut{g:bE}{bM bS bP:aa}{j h d:Nat->Prop}(v:∀l i n e c,ax= .aG l i n e c->l<r)(s:du hQ j H g.b7 bM)(u:du fv h H g.globals bS)(b3:du gg d H g.funcs bP)(o:∀k,j k->r<k/\¬h k/\¬d k)(p:∀k,h k->r<k/\¬d k)(q:∀k,d k->r<k)(m:cv r H H')(c1:gE H' r T ax bM bS bP s'):BA H' r T ax g s':=
 ⟨bM,bS,bP,j,h,d,c1,v,s.a1 (cK.mut m λk a=>by have:=(o k a).1;omega),u.a1 (cK.mut m λk a=>by have:=(p k a).1;omega),b3.a1 (cK.mut m λk a=>by have:=q k a;omega),o,p,q⟩
def sl(T:List Tok)(n:Nat)(g:bE)(s:al):ad bE:=(oJ T n [] (b8 T [123] (fy T (aw (fk T X g.b7.length 12 s))).2).2).bind λp=>D ({g with b7:=g.b7++[⟨(fy T (aw (fk T X g.b7.length 12 s))).1.text,p.1,(fy T (aw (fk T X g.b7.length 12 s))).1.pos⟩]},(b8 T [125] p.2).2)
def jH(T:List Tok)(g:bE)(s:al):bE×al:=({g with globals:=g.globals++[(hf T (aw (fk T X g.globals.length 8 s))).1]},(b8 T [59] (hf T (aw (fk T X g.globals.length 8 s))).2).2)
end
section
variable {H H' H1:af}{r:Nat}{T:List Tok}{ax bM bS bP:aa}{s s':al}
def j2(T:List Tok)(l:List bB)(s:al):List bB×al:=(l++[(hf T (fk T ((aj T s.at_).kind==1) l.length 6 s)).1],(hf T (fk T ((aj T s.at_).kind==1) l.length 6 s)).2)
end
def k1(T:List Tok):Nat->List bB->al->ad (List bB)
 |0,_,_=>C
 |n+1,l,s=>bif (fY T 4 [44] s).1 then k1 T n (j2 T l (fY T 4 [44] s).2).1 (j2 T l (fY T 4 [44] s).2).2 else D (l,(fY T 4 [44] s).2)
def lr(T:List Tok)(s:al):List bf×al:=match ma T 800000000 (m_ s.at_ 0)with
 |some p=>((k2 p.1 p.2).1,vB (k2 p.1 p.2).2.1 (k2 p.1 p.2).2.2.1 (k2 p.1 p.2).2.2.2 s)
 |none=>([],s)
def rO(T:List Tok)(g:bE)(cC:aC)(a:Int)(l:List bB)(q:Bool×aC×Int)(s:al):bE×al:=if s.an≠0 then(g,s)else({g with funcs:=g.funcs++[⟨cC,l,q.1,q.2.1,q.2.2,(lr T s).1,a⟩]},(lr T s).2)
def ly(T:List Tok)(s:al):(Bool×aC×Int)×al:=bif (fY T 4 [58] (b8 T [41] s).2).1 then((X,(oS T (fY T 4 [58] (b8 T [41] s).2).2).1),(oS T (fY T 4 [58] (b8 T [41] s).2).2).2)else((U,[],0),(fY T 4 [58] (b8 T [41] s).2).2)
def rP(T:List Tok)(n:Nat)(s:al):ad (List bB):=bif bz T s 4 [41]then D ([],s)else k1 T n (j2 T [] s).1 (j2 T [] s).2
def rR(T:List Tok)(n:Nat)(g:bE)(s:al):ad bE:=(rP T n (b8 T [40] (fy T (aw (fk T X g.funcs.length 16 s))).2).2).bind λp=>D (rO T g (fy T (aw (fk T X g.funcs.length 16 s))).1.text (fy T (aw (fk T X g.funcs.length 16 s))).1.pos p.1 (ly T p.2).1 (ly T p.2).2)
section
variable {H H' H1:af}{r:Nat}{T:List Tok}{ax bM bS bP:aa}{s s':al}
def yb(ay:T.length<=20000000):h3 T:=λs=>by
 obtain⟨p,q,-,a,-,-⟩:=Aj (T:=T) ae T.length s (vN _ _) 0 800000000 800000000 ae ae ae;exact⟨q,a⟩
def gl.rest{c n2 esz:Nat}{x:aa}{rest a:List aa}{l:List bB}{v:aa}{s0:al}(i:gE H1 r T ax bM bS bP s0)(h:gl H1 H r c n2 esz T ax bM bS bP x rest l v s):gl H1 (H.set c (.row U esz [x::v::a])) r c n2 esz T ax bM bS bP x a l v s:=by
 have bO:=h.bO;have b2:=h.b2;have cw:=h.cw;have dN:=h.dN;have e:jV r H1.next H1 (H.set c (.row U esz [x::v::a])):=h.m.db (.inl (.inr b2)) _
 exact⟨i.p_ e (by rw[af.get_set_other ae];exact h.c1.rd) h.c1.a0 h.c1.aT h.c1.z h.c1.o,af.get_set_same ae,h.h7.a1 λk x d g=>⟨d,by unfold bx at d;rw[af.get_set_other ae];exact g⟩,e,bO,b2,cw,by simp;omega⟩
end
section
variable {H H' H1:af}{r:Nat}{T:List Tok}{ax bM bS bP:aa}{s s':al}
end
def Gb:∀(n:Nat) (rest:aC) (p:Nat) (l:List Tok),gK n rest p= .inr l->l.length<=rest.length+1
 |0,_,_,_,h=>by simp[gK]at h
 |n+1,[],p,l,h=>by simp[gK]at h;subst h;simp
 |n+1,c::r,p,l,h=>by
  rw[gK]at h;cases d:hr (c::r)with
  |none=>rw[d]at h;simp at h
  |some q=>
   obtain⟨k,t,z,b⟩:=q;obtain⟨j,i⟩:=Hm d;rw[d]at h;simp only at h;cases a:gK n (((c::r).drop b).drop (cV U ((c::r).drop b))) (p+b+cV U ((c::r).drop b))with
   |inl e=>rw[a]at h;cases h
   |inr l'=>
    rw[a]at h;cases h;have:=Gb n _ _ l' a;simp only[List.length_drop,List.length_cons]at this i ⊢;omega
def AY(s:aC):(dB s).1.length<=s.length+1:=by
 unfold dB;split
 ·simp
 ·cases h:r9 s with
  |inl e=>simp
  |inr l=>
   have:=Gb _ _ _ l h;simp only[List.length_drop]at this;simp only
   omega
def Ga:∀(n:Nat) (s:aC) (p:Nat) (l:List Tok),gK n s p= .inr l->∃L q,l=L++[⟨0,[],0,q⟩]
 |0,_,_,_,h=>by cases h
 |n+1,[],p,l,h=>by cases h;exact⟨[],_,rfl⟩
 |n+1,c::r,p,l,h=>by
  rw[gK]at h;split at h
  ·cases h
  ·rename_i k t v m d;split at h
   ·cases h
   ·rename_i l' a;cases h;obtain⟨L,q,rfl⟩:=Ga n _ _ _ a;exact⟨⟨k,t,v,p⟩::L,q,rfl⟩
def AZ{s:aC}(h:(dB s).2.1=0):h5 (dB s).1/\1<=(dB s).1.length:=by
 have d:=AY s;have i:= @J6 s;have n:s.length<=6000:=by
  unfold dB at h;split at h
  ·simp at h
  ·omega
 obtain⟨L,q,e⟩:∃L q,(dB s).1=L++[⟨0,[],0,q⟩]:=by
  unfold dB at h ⊢;rw[if_neg ae]at h ⊢;cases j:r9 s with
  |inl e=>rw[j]at h;simp at h
  |inr l=>exact Ga _ _ _ _ j
 rw[e]at d i ⊢;simp only[List.length_append,List.length_cons,List.length_nil]at d ⊢;refine⟨⟨by simp;omega,by simp;omega,λa c=> ?_,i⟩,ae⟩;have m:=AX c;simp only[List.length_append,List.length_cons,List.length_nil]at m ⊢;by_cases o:a<L.length
 ·omega
 ·exfalso;have k:a.toNat=L.length:=ae;apply c;unfold aj;rw[if_neg (by simp;omega),k,List.getElem?_append_right (bo _),Nat.sub_self];rfl
def k3(T:List Tok)(N:Nat):Nat->bE->al->ad bE
 |0,_,_=>C
 |n+1,g,s=>bif s.an==0&&(aj T s.at_).kind != 0 then
  (bif bz T s 3 [114,101,99,111,114,100]then(sl T N g s).bind λp=>k3 T N n p.1 p.2
  else bif bz T s 3 [103,108,111,98,97,108]then k3 T N n (jH T g s).1 (jH T g s).2
  else bif bz T s 3 [102,117,110,99]then(rR T N g s).bind λp=>k3 T N n p.1 p.2
  else k3 T N n g (bQ T 2 s))
  else D (g,s)
section
variable {H H' H1:af}{r:Nat}{T:List Tok}{ax bM bS bP:aa}{s s':al}
def QB{n:Nat}{g g':bE}(h:sl T n g s=D (g',s')):g'.b7.length=g.b7.length+1/\g'.globals.length=g.globals.length/\g'.funcs.length=g.funcs.length:=by
 obtain⟨p,-,g2⟩:=fa h;cases g2;simp
def N1{n:Nat}{g g':bE}(h:rR T n g s=D (g',s')):g'.b7.length=g.b7.length/\g'.globals.length=g.globals.length/\g'.funcs.length<=g.funcs.length+1:=by
 obtain⟨p,-,g2⟩:=fa h;simp only[aZ]at g2;have a:=congrArg Prod.fst g2;unfold rO at a;split at a
 ·simp only at a;rw[<-a];simp
 ·simp only at a;rw[<-a];simp
end
section
variable {T:List Tok}{s:al}
def kd{x:aC}(a:kw x=4):(b8 T x s).2=bh T x s:=by
 unfold b8 bh aV;rw[a];cases bz T s 4 x<;>rfl
def l0(h:s.an≠0)(x:aC):(b8 T x s).2=s:=by
 unfold b8;rw[h8 h,aN];exact fm h 2
def lV(h:s.an≠0)(x:aC):bh T x s=s:=by
 unfold bh;rw[et h,aN];exact fm h 2
def J0(h:s.an≠0)(k:Int)(x:aC):fY T k x s=(U,s):=by unfold fY;rw[h8 h,aN]
def GZ(h:s.an≠0)(b:Bool)(x y:Int):fk T b x y s=s:=by
 unfold fk;cases b&&decide (y<=x)
 ·rfl
 ·rw[aS];exact fm h 4
def wc(h:s.an≠0):oS T s=(([],0),s):=if_pos h
def zz(h:s.an≠0):(fy T s).2.an=s.an/\(fy T s).2.bN=s.bN:=by
 unfold fy;cases((aj T s.at_).kind != 1)
 ·exact⟨rfl,rfl⟩
 ·rw[aS,fm h];exact⟨rfl,rfl⟩
def u1(h:s.an≠0):(hf T s).2.an=s.an/\(hf T s).2.bN=s.bN:=by
 obtain⟨a,b⟩:=zz (T:=T) h;have c:(fy T s).2.an≠0:=by rw[a];exact h
 unfold hf;simp only[l0 c,wc c];exact⟨a,b⟩
def p9(h:s.an≠0)(n:Nat)(l:List bB):oJ T (n+1) l s=D (l,s):=by
 have a:(s.an==0)=false:=by simpa using h
 rw[oJ,a];rfl
def Ej(h:s.an≠0)(n:Nat)(l:List bB):gp T (n+1) l s=D (l,s):=by
 have a:(s.an==0)=false:=by simpa using h
 rw[gp,a];rfl
def uh(h:s.an≠0)(n:Nat)(l:List bB):k1 T (n+1) l s=D (l,s):=by
 rw[k1,J0 h];rfl
def wq(h:s.an≠0)(n:Nat)(l:List bB):e6 T (n+1) l s=D (l,s):=by
 have a:(s.an==0)=false:=by simpa using h
 rw[e6,a];rfl
def MW(h:s.an≠0):iy T s=s:=by
 unfold iy;rw[lV h,et h];rfl
structure ev(T:List Tok)(s:al):Prop where
 f:s.an=0
 a:0<=s.at_
 b:s.at_<T.length
 o:s.bk=0
 z:s.bN=0
def ev.in(g:ev T s):In ((T.length:Int)-1) s:=⟨g.a,by have:=g.b;omega,by rw[g.o];omega,by rw[g.o];omega⟩
def ev.eZ{s':al}{k:Int}(g:ev T s)(h:cf ((T.length:Int)-1) s s' k)(d:0<=k)(c:s'.bN=s.bN):ev T s':=⟨h.ku,by have:=h.a;have:=g.a;omega,by have:=h.b;omega,by rw[h.o];exact g.o,by rw[c];exact g.z⟩
def ev.take(ay:h5 T)(g:ev T s){x:aC}(e:(bh T x s).an=0):ev T (bh T x s)/\s.at_+1<=(bh T x s).at_:=by
 obtain⟨h,d,c⟩:=fA ay.g (λ_=>g.in) e;exact⟨g.eZ c ae (by rw[d];rfl),c.a⟩
def ev.go(ay:h5 T)(g:ev T s)(d:(aj T s.at_).kind≠0):ev T (aw s)/\s.at_+1<=(aw s).at_:=by
 obtain⟨e,c⟩:=go_ok ay.g g.in g.f d;exact⟨g.eZ c ae rfl,c.a⟩
def ev.typed(ay:h5 T)(g:ev T s)(d:(dd T s).2.an=0):ev T (dd T s).2/\s.at_+3<=(dd T s).2.at_:=by
 obtain⟨-,-,eZ⟩:=A_ ay.g (λ_=>g.in) d;have h:=x6 ay.n (s:=s) (x:=s) g.f ⟨rfl,rfl,bo _⟩ g.z;have j:(dd T s).2.bN=s.bN:=by
  rcases h.1 with⟨c,e⟩|⟨c,i,-⟩
  ·rw[e];exact(h.2 c).2.1
  ·rw[i]at d;exact absurd d c
 exact⟨g.eZ eZ ae j,eZ.a⟩
def A9(ay:h5 T)(g:ev T s):cR (hf T s) (c7 T s):=by
 have k:(s.an==0)=true:=by rw[g.f];rfl
 unfold hf c7 dd fy bA;rw[k,Bool.true_and];cases d:(aj T s.at_).kind==1 with
 |true=>
  have e:((aj T s.at_).kind != 1)=false:=by rw[bne,d];rfl
  have l:(aj T s.at_).kind≠0:=by
   have a:(aj T s.at_).kind=1:=by simpa using d
   omega
  simp only[e,aN,aS];rw[kd aK];have g1:=(g.go ay l).1;by_cases c:(bh T [58] (aw s)).an=0
  ·have g2:=(g1.take ay c).1;rw[show oS T (bh T [58] (aw s))=oT T (bh T [58] (aw s))from if_neg (λh=>h c)];have i:=(x5 ay.n (s:=bh T [58] (aw s)) (x:=bh T [58] (aw s)) c ⟨rfl,rfl,bo _⟩ g2.z).1;exact cR.iD i.il λj=>by rw[i.eq j]
  ·rw[wc c,uc c];exact .inr ⟨c,rfl,rfl⟩
 |false=>
  have e:((aj T s.at_).kind != 1)=true:=by rw[bne,d];rfl
  have a:(bQ T 2 s).an≠0:=eA aK;simp only[e,aN,aS];rw[l0 a,wc a,lV a,uc a];exact .inr ⟨a,rfl,rfl⟩
def lA(s:al){x:aC}(h:kw x=4):aV T s x=bz T s 4 x:=by unfold aV;rw[h]
def y4(s:al){x:aC}(h:kw x=3):aV T s x=bz T s 3 x:=by unfold aV;rw[h]
def Ek(ay:h5 T):∀(k:Nat) (s:al) (l:List bB),(s.an=0->ev T s/\(T.length:Int)-s.at_<=k/\l.length<=8)->∀n u,k+1<=n->k+1<=u->∃p q,oJ T n l s=D p/\gp T u l s=D q/\cR p q/\(p.2.an=0->ev T p.2/\s.at_<=p.2.at_)
 |k,s,l,h,0,_,A,_=>ae
 |k,s,l,h,_,0,_,A=>ae
 |k,s,l,h,n+1,u+1,A,O=>by
  by_cases o:s.an=0
  ·obtain⟨g,L,M⟩:=h o;have z:(s.an==0)=true:=by rw[o];rfl
   rw[oJ,gp,z,lA s aK];cases P:bz T s 4 [125]with
   |true=>exact⟨_,_,rfl,rfl,.inl ⟨o,rfl⟩,λ_=>⟨g,Int.le_refl _⟩⟩
   |false=>
    simp only[Bool.not_false,Bool.and_true,aS];have K:=g.b;have H:=g.a;obtain⟨n,rfl⟩:∃m,n=m+1:=⟨n-1,ae⟩;obtain⟨u,rfl⟩:∃m,u=m+1:=⟨u-1,ae⟩;cases hm:((aj T s.at_).kind==1&&l.length==8)with
    |true=>
     simp only[Bool.and_eq_true,beq_iff_eq]at hm;have aq:fk T ((aj T s.at_).kind==1) l.length 8 s=bQ T 4 s:=by
      unfold fk;rw[show((aj T s.at_).kind==1)=X by simpa using hm.1,show decide ((8:Int)<=(l.length:Int))=X by rw[hm.2];rfl];rfl
     have d:(bQ T 4 s).an≠0:=eA aK;rw[aq,aS];obtain⟨aT,a2⟩:=u1 (T:=T) d;have j:(hf T (bQ T 4 s)).2.an≠0:=by rw[aT];exact d
     rw[l0 j,p9 j];exact⟨_,_,rfl,rfl,.inr ⟨j,aT.symm,a2.symm⟩,λi=>absurd i j⟩
    |false=>
     have aq:fk T ((aj T s.at_).kind==1) l.length 8 s=s:=by
      unfold fk;cases E:(aj T s.at_).kind==1 with
      |false=>rfl
      |true=>
       rw[E,Bool.true_and]at hm;have:l.length≠8:=by simpa using hm
       rw[show decide ((8:Int)<=(l.length:Int))=U from decide_eq_false ae];rfl
     rw[aq,aN];rcases A9 ay g with⟨d,e⟩|⟨d,j,B⟩
     ·rw[<-e,<-kd (x:=[59]) aK];rw[<-e]at d;obtain⟨g2,G⟩:=g.typed ay (show(dd T s).2.an=0 from d);have w:(c7 T s).2=(dd T s).2:=rfl;have F:(aj T s.at_).kind=1:=by
       have v:(bA T s).2.an=0:=by
        by_cases c:(bA T s).2.an=0
        ·exact c
        ·exfalso;have:(dd T s).2.an≠0:=by
          unfold dd;simp only[lV c,uc c];exact c
         exact this d
       unfold bA at v;rw[z,Bool.true_and]at v;cases c:(aj T s.at_).kind==1 with
       |true=>simpa using c
       |false=>rw[c,aN]at v;exact absurd v (eA aK)
      have N:l.length≠8:=by
       rw[F]at hm;simpa using hm
      obtain⟨p,q,f1,f2,f3,f4⟩:=Ek ay (k-1) ((b8 T [59] (c7 T s).2).2) (l++[(c7 T s).1]) (λc=>by
       rw[kd aK]at c ⊢;rw[w]at c ⊢;obtain⟨g3,b3⟩:=g2.take ay c;exact⟨g3,ae,by simp;omega⟩) (n+1) (u+1) ae ae
      refine⟨p,q,f1,f2,f3,λi=> ?_⟩;obtain⟨g4,cY⟩:=f4 i;refine⟨g4,?_⟩;have c:(b8 T [59] (c7 T s).2).2.an=0:=by
       by_cases c:(b8 T [59] (c7 T s).2).2.an=0
       ·exact c
       ·rw[p9 c]at f1;cases f1;exact absurd i c
      rw[kd aK,w]at c cY;have:=(g2.take ay c).2;omega
     ·have y:(c7 T s).2.an≠0:=by rw[j];exact d
      rw[l0 d,p9 d,lV y,Ej y];exact⟨_,_,rfl,rfl,.inr ⟨d,j,B⟩,λi=>absurd i d⟩
  ·rw[p9 o,Ej o];exact⟨_,_,rfl,rfl,.inr ⟨o,rfl,rfl⟩,λi=>absurd i o⟩
end
section
variable {T:List Tok}{s:al}
def U5(e:(dd T s).2.an=0):s.an=0/\(aj T s.at_).kind=1:=by
 have c:(bA T s).2.an=0:=by
  by_cases a:(bA T s).2.an=0
  ·exact a
  ·exfalso;have:(dd T s).2.an≠0:=by
    unfold dd;simp only[lV a,uc a];exact a
   exact this e
 have d:s.an=0:=by
  by_cases a:s.an=0
  ·exact a
  ·rw[v7 a]at c;exact c
 have h:(s.an==0)=true:=by rw[d];rfl
 refine⟨d,?_⟩;unfold bA at c;rw[h,Bool.true_and]at c;cases a:(aj T s.at_).kind==1 with
 |true=>simpa using a
 |false=>rw[a,aN]at c;exact absurd c (eA aK)
def Pv(h:(aj T s.at_).kind=1){n:Nat}{m:Int}(hm:m<=n):fk T ((aj T s.at_).kind==1) n m s=bQ T 4 s:=by
 unfold fk;rw[show((aj T s.at_).kind==1)=X by simpa using h,show decide (m<=(n:Int))=X from decide_eq_true hm];rfl
def tZ{b:Bool}{n:Nat}{m:Int}(hm:b=X->(n:Int)<m):fk T b n m s=s:=by
 unfold fk;cases b with
 |false=>rfl
 |true=>
  rw[show decide (m<=(n:Int))=U from decide_eq_false (by have:=hm rfl;omega)];rfl
def vE{k:Int}{x y:aC}(h:bz T s k x=X)(e:x≠y):bz T s k y=false:=by
 obtain⟨-,-,a⟩:=mh h;cases d:bz T s k y with
 |false=>rfl
 |true=>obtain⟨-,-,c⟩:=mh d;exact absurd (a.symm.trans c) e
def FB{k:Int}{x:aC}(h:bz T s k x=X)(a:k≠0):(aj T s.at_).kind≠0:=by rw[(mh h).2.1];exact a
def oq(T:List Tok)(p q:List bB×al):Prop:=cR (p.1,(b8 T [41] p.2).2) (q.1,bh T [41] q.2)
def oq.failed{p q:List bB×al}(a:p.2.an≠0)(c:q.2.an=p.2.an)(d:q.2.bN=p.2.bN):oq T p q:=by
 unfold oq;rw[l0 a,lV (by rw[c];exact a)];exact .inr ⟨a,c,d⟩
def cR.rfl'{α:Type}(p:α×al):cR p p:=by
 by_cases h:p.2.an=0
 ·exact .inl ⟨h,rfl⟩
 ·exact .inr ⟨h,rfl,rfl⟩
def HE(ay:h5 T):∀(k:Nat) (t:al) (l:List bB),(t.an=0->ev T t/\(T.length:Int)-t.at_<=k/\l.length<=6/\bz T t 4 [41]=U)->∀n s,k+1<=n->k+2<=s->∃p q,k1 T n (j2 T l t).1 (j2 T l t).2=D p/\e6 T s l t=D q/\oq T p q/\(p.2.an=0->t.an=0/\ev T p.2/\t.at_<=p.2.at_)
 |k,t,l,h,0,_,E,_=>ae
 |k,t,l,h,_,0,_,E=>ae
 |k,t,l,h,n+1,s+1,E,ab=>by
  by_cases o:t.an=0
  ·obtain⟨g,V,W,Q⟩:=h o;have N:(t.an==0)=true:=by rw[o];rfl
   have S:=g.b;have R:=g.a;rw[e6,N,lA t aK,Q];simp only[Bool.not_false,Bool.and_true,aS];obtain⟨s,rfl⟩:∃m,s=m+1:=⟨s-1,ae⟩;unfold j2;cases hm:((aj T t.at_).kind==1&&l.length==6)with
   |true=>
    simp only[Bool.and_eq_true,beq_iff_eq]at hm;rw[Pv hm.1 (by rw[hm.2];decide),aS];have d:(bQ T 4 t).an≠0:=eA aK;obtain⟨aT,a2⟩:=u1 (T:=T) d;have i:(hf T (bQ T 4 t)).2.an≠0:=by rw[aT];exact d
    rw[uh i];exact⟨_,_,rfl,rfl,.failed i aT.symm a2.symm,λj=>absurd j i⟩
   |false=>
    have aq:fk T ((aj T t.at_).kind==1) l.length 6 t=t:=tZ λx=>by
     rw[x,Bool.true_and]at hm;have:l.length≠6:=by simpa using hm
     omega
    rw[aq,aN];rcases A9 ay g with⟨d,e⟩|⟨d,i,L⟩
    ·rw[<-e];rw[<-e]at d;have z:(dd T t).2.an=0:=d;obtain⟨g2,F⟩:=g.typed ay z;have aa:l.length≠6:=by
      have P:((aj T t.at_).kind==1)=true:=by simpa using(U5 z).2
      rw[P,Bool.true_and]at hm;simpa using hm
     have G:(c7 T t).2=(dd T t).2:=rfl;rw[G];generalize (dd T t).2=s2 at z g2 F;generalize (c7 T t).1=w;cases v:bz T s2 4 [44]with
     |true=>
      have M:bz T s2 4 [41]=false:=vE v aK;have ns:k1 T (n+1) (l++[w]) s2=k1 T n (j2 T (l++[w]) (aw s2)).1 (j2 T (l++[w]) (aw s2)).2:=by
       rw[k1];unfold fY;rw[v];rfl
      rw[ns,lA s2 aK,M,aN];obtain⟨g3,b3⟩:=g2.go ay (FB v aK);have y:bh T [44] s2=aw s2:=by unfold bh;rw[lA s2 aK,v];rfl
      unfold iy;rw[y,lA (aw s2) aK];cases u:bz T (aw s2) 4 [41]with
      |true=>
       rw[aS];have c:(bQ T 2 (aw s2)).an≠0:=eA aK;have B:(aj T (aw s2).at_).kind=4:=(mh u).2.1;have aH:fk T ((aj T (aw s2).at_).kind==1) (l++[w]).length 6 (aw s2)=aw s2:=tZ λx=>by
        rw[B]at x;exact absurd x aK
       have bu:(hf T (aw s2)).2.an=(bQ T 2 (aw s2)).an/\(hf T (aw s2)).2.bN=(bQ T 2 (aw s2)).bN:=by
        have O:fy T (aw s2)=(.none,bQ T 2 (aw s2)):=by
         unfold fy;rw[B];rfl
        unfold hf;rw[O];simp only[l0 c,wc c,and_self]
       have A:(hf T (aw s2)).2.an≠0:=by rw[bu.1];exact c
       obtain⟨n,rfl⟩:∃m,n=m+1:=⟨n-1,ae⟩;unfold j2;rw[aH,uh A,wq c];exact⟨_,_,rfl,rfl,.failed A bu.1.symm bu.2.symm,λj=>absurd j A⟩
      |false=>
       rw[aN];obtain⟨p,q,f1,f2,f3,f4⟩:=HE ay (k-1) (aw s2) (l++[w]) (λ_=>⟨g3,ae,by simp;omega,u⟩) n (s+1) ae ae;exact⟨p,q,f1,f2,f3,λj=>⟨o,(f4 j).2.1,by have:=(f4 j).2.2;omega⟩⟩
     |false=>
      have ns:k1 T (n+1) (l++[w]) s2=D (l++[w],s2):=by
       rw[k1];unfold fY;rw[v];rfl
      rw[ns];cases u:bz T s2 4 [41]with
      |true=>
       rw[lA s2 aK,u,aS];have:e6 T (s+1) (l++[w]) s2=D (l++[w],s2):=by
        rw[e6,lA s2 aK,u,Bool.not_true,Bool.and_false,aN]
       refine⟨_,_,rfl,this,?_,λ_=>⟨o,g2,by show t.at_<=s2.at_;omega⟩⟩;unfold oq;rw[kd aK];exact cR.rfl' _
      |false=>
       rw[lA s2 aK,u,aN];have c:(bQ T 2 s2).an≠0:=eA aK;have y:bh T [44] s2=bQ T 2 s2:=by unfold bh;rw[lA s2 aK,v];rfl
       have H:iy T s2=bQ T 2 s2:=by unfold iy;rw[y,et c];rfl
       rw[H,wq c];refine⟨_,_,rfl,rfl,?_,λ_=>⟨o,g2,by show t.at_<=s2.at_;omega⟩⟩;unfold oq;have K:(b8 T [41] s2).2=bQ T 2 s2:=by unfold b8;rw[u];rfl
       simp only[K,lV c];exact cR.rfl' _
    ·have c:(c7 T t).2.an≠0:=by rw[i];exact d
     rw[uh d,et c,aN,MW c,wq c];exact⟨_,_,rfl,rfl,.failed d i L,λj=>absurd j d⟩
  ·unfold j2;rw[GZ o];obtain⟨aT,a2⟩:=u1 (T:=T) o;have i:(hf T t).2.an≠0:=by rw[aT];exact o
   rw[uh i,wq o];exact⟨_,_,rfl,rfl,.failed i aT.symm a2.symm,λj=>absurd j i⟩
def NQ(ay:h5 T)(t:al)(h:t.an=0->ev T t):∃p q,rP T 800000000 t=D p/\e6 T 800000000 [] t=D q/\oq T p q/\(p.2.an=0->t.an=0/\ev T p.2/\t.at_<=p.2.at_):=by
 have e:=ay.n;unfold rP;cases c:bz T t 4 [41]with
 |true=>
  have g:=h (mh c).1;rw[aS];have:e6 T 800000000 [] t=D ([],t):=by
   rw[show(800000000:Nat)=799999999+1 from rfl,e6,lA t aK,c,Bool.not_true,Bool.and_false,aN]
  refine⟨_,_,rfl,this,?_,λ_=>⟨(mh c).1,g,Int.le_refl _⟩⟩;unfold oq;rw[kd aK];exact cR.rfl' _
 |false=>
  rw[aN];exact HE ay T.length t [] (λd=>⟨h d,by have:=(h d).a;omega,aK,c⟩) _ _ ae ae
def NS(ay:h5 T){p:al}{s':al}(h:ei (b8 T [41] p).2 s')(j:(b8 T [41] p).2.an=0->ev T (b8 T [41] p).2):cR (ly T p) (e7 T s')/\((ly T p).2.an=0->(b8 T [41] p).2.an=0/\ev T (ly T p).2/\(b8 T [41] p).2.at_<=(ly T p).2.at_):=by
 unfold ly;generalize (b8 T [41] p).2=w at h j;unfold e7 fY;rcases h with⟨h,rfl⟩|⟨d,i,m⟩
 ·have g:=j h;rw[lA s' aK];cases o:bz T s' 4 [58]with
  |true=>
   simp only[aS];obtain⟨g2,q⟩:=g.go ay (FB o aK);rw[show oS T (aw s')=oT T (aw s')from if_neg (λh=>h g2.f)];obtain⟨e,k⟩:=x5 ay.n (s:=aw s') (x:=aw s') g2.f ⟨rfl,rfl,bo _⟩ g2.z;refine⟨cR.iD e.il λc=>by rw[e.eq c],λc=> ?_⟩;obtain⟨u,l,-⟩:=k c;have eq:=e.eq c;obtain⟨-,eZ⟩:=qn ay.g (λ_=>g2.in) (show(cM T (aw s')).2.an=0 by rw[eq];exact c);rw[eq]at eZ;exact⟨h,g2.eZ eZ ae l,by have:=eZ.a;show s'.at_<=(oT T (aw s')).2.at_;omega⟩
  |false=>
   simp only[aN];exact⟨cR.rfl' _,λ_=>⟨h,g,Int.le_refl _⟩⟩
 ·have a8:s'.an≠0:=by rw[i];exact d
  rw[h8 d,et a8];exact⟨.inr ⟨d,i,m⟩,λc=>absurd c d⟩
end
section
variable {T:List Tok}{s t:al}
def Py(ay:h5 T)(g:ev T t):(fy T t).2=(bA T t).2/\((bA T t).2.an=0->(fy T t).1.text=(bA T t).1/\(fy T t).1.pos=(aj T t.at_).pos/\ev T (bA T t).2/\t.at_+1<=(bA T t).2.at_):=by
 have e:(t.an==0)=true:=by rw[g.f];rfl
 unfold fy bA;rw[e,Bool.true_and];cases a:(aj T t.at_).kind==1 with
 |true=>
  have c:((aj T t.at_).kind != 1)=false:=by rw[bne,a];rfl
  have h:(aj T t.at_).kind≠0:=by
   have i:(aj T t.at_).kind=1:=by simpa using a
   omega
  rw[c,aN,aS];exact⟨rfl,λ_=>⟨rfl,rfl,g.go ay h⟩⟩
 |false=>
  have c:((aj T t.at_).kind != 1)=true:=by rw[bne,a];rfl
  rw[c,aS,aN];exact⟨rfl,λd=>absurd d (eA aK)⟩
def q7(x:aC)(h:(bh T x s).an=0):s.an=0:=by
 by_cases ar:s.an=0
 ·exact ar
 ·rw[lV ar]at h;exact h
def Hp(ay:h5 T)(g:ev T t){x:aC}(h:kw x=4):(b8 T x (fy T t).2).2=bh T x (bA T t).2/\((bh T x (bA T t).2).an=0->(fy T t).1.text=(bA T t).1/\(fy T t).1.pos=(aj T t.at_).pos/\ev T (bh T x (bA T t).2)/\t.at_+2<=(bh T x (bA T t).2).at_):=by
 obtain⟨aT,a2⟩:=Py ay g;rw[kd h,aT];refine⟨rfl,λa=> ?_⟩;obtain⟨c,d,e,i⟩:=a2 (q7 x a);obtain⟨d1,d2⟩:=e.take ay a;exact⟨c,d,d1,ae⟩
def QE(ay:h5 T)(g:bE)(gs:ev T s)(l:(aj T s.at_).kind≠0)(u:g.b7.length<12):∃p q,sl T 800000000 g s=D p/\iG T 800000000 (aw s)=D q/\cR p ({g with b7:=g.b7++[q.1]},q.2)/\(p.2.an=0->ev T p.2/\s.at_+1<=p.2.at_):=by
 have v:=ay.n;obtain⟨g1,m⟩:=gs.go ay l;have aq:fk T X g.b7.length 12 s=s:=tZ λ_=>ae
 unfold sl iG;rw[aq];obtain⟨aT,a2⟩:=Hp ay g1 (x:=[123]) aK;rw[aT];obtain⟨p,q,f1,f2,f3,f4⟩:=Ek ay T.length (bh T [123] (bA T (aw s)).2) [] (λe=>⟨(a2 e).2.2.1,by have:=(a2 e).2.2.1.a;omega,aK⟩) 800000000 800000000 ae ae;rw[f1,f2];refine⟨_,_,rfl,rfl,cR.iD (s5 f3.il aK) λe=> ?_,λe=> ?_⟩
 ·have h:(b8 T [125] p.2).2.an=0:=e;have d:p.2.an=0:=by rw[kd aK]at h;exact q7 _ h
  obtain⟨g4,cY⟩:=f4 d;have i:(bh T [123] (bA T (aw s)).2).an=0:=by
   by_cases c:(bh T [123] (bA T (aw s)).2).an=0
   ·exact c
   ·rw[show(800000000:Nat)=799999999+1 from rfl,p9 c]at f1;cases f1;exact absurd d c
  obtain⟨j,k,-,-⟩:=a2 i;rw[j,k,f3.eq d]
 ·have h:(b8 T [125] p.2).2.an=0:=e;rw[kd aK]at h;have d:p.2.an=0:=q7 _ h;obtain⟨g4,cY⟩:=f4 d;have i:(bh T [123] (bA T (aw s)).2).an=0:=by
   by_cases c:(bh T [123] (bA T (aw s)).2).an=0
   ·exact c
   ·rw[show(800000000:Nat)=799999999+1 from rfl,p9 c]at f1;cases f1;exact absurd d c
  obtain⟨-,-,-,o⟩:=a2 i;obtain⟨d1,d2⟩:=g4.take ay h;simp only[kd (show kw [125]=4 by decide)];exact⟨d1,ae⟩
def Oc(ay:h5 T)(g:bE)(gs:ev T s)(i:(aj T s.at_).kind≠0)(l:g.globals.length<8):cR (jH T g s) ({g with globals:=g.globals++[(c7 T (aw s)).1]},bh T [59] (c7 T (aw s)).2)/\((jH T g s).2.an=0->ev T (jH T g s).2/\s.at_+1<=(jH T g s).2.at_):=by
 obtain⟨g1,j⟩:=gs.go ay i;have aq:fk T X g.globals.length 8 s=s:=tZ λ_=>ae
 unfold jH;rw[aq];have c:=A9 ay g1;refine⟨cR.iD (s5 c.il aK) λd=> ?_,λd=> ?_⟩
 ·have a:(b8 T [59] (hf T (aw s)).2).2.an=0:=d;rw[kd aK]at a;rw[c.eq (q7 _ a)]
 ·have a:(b8 T [59] (hf T (aw s)).2).2.an=0:=d;rw[kd aK]at a;have eq:=c.eq (q7 _ a);simp only[kd (show kw [59]=4 by decide)];have e:=q7 _ a;rw[<-eq]at a e ⊢;obtain⟨h,k⟩:=g1.typed ay (show(dd T (aw s)).2.an=0 from e);obtain⟨d1,d2⟩:=h.take ay a;exact⟨d1,by show s.at_+1<=(bh T [59] (dd T (aw s)).2).at_;omega⟩
def ME(h:s.an≠0)(n:Nat):∃q,ej T (n+2) s=D q/\q.2.an=s.an/\q.2.bN=s.bN:=by
 have a:(e0 s).an≠0:=h;have c:((e0 s).an==0)=false:=by simpa using a
 have aq:cB T [123] s=e0 s:=by
  unfold cB;rw[et h,lV h];rfl
 rw[ej,aq,fH,c,Bool.false_and,aN,Option.bind_some];refine⟨_,rfl,?_,?_⟩
 ·unfold dh;rw[lV a];rfl
 ·unfold dh;rw[lV a];rfl
def MF(ay:h5 T)(g:ev T s):∃q,ej T 800000000 s=D q/\cR (lr T s) q/\((lr T s).2.an=0->ev T (lr T s).2/\s.at_<=(lr T s).2.at_):=by
 have k:m_ s.at_ 0=s:=by
  have:=Jt (x:=s) g.f g.z (by rw[g.o];exact Int.le_refl 0);rw[g.o]at this;exact this
 obtain⟨p,q,aq,aH,-,d⟩:=MI ay.n s.at_ 0;rw[k]at aH d;refine⟨q,aH,?_⟩;unfold lr;rw[aq];by_cases c:p.2.an=0
 ·have eq:=d.1.eq c;obtain⟨j,i,-⟩:=d.2 c;have e:vB p.2.at_ 0 0 s=p.2:=by
   unfold vB;rw[if_neg (λh=>h rfl)];have:=g.f;have:=g.o;have:=g.z;cases s;cases aF:p.2;rw[aF]at c j i
   simp_all
  simp only[k2,if_pos c,e];obtain⟨eZ,-,-⟩:=(z_ ay.g (yb ay.n) 800000000).block s q (λ_=>g.in) aH (by rw[eq];exact c);rw[eq]at eZ;exact⟨.inl ⟨c,eq⟩,λ_=>⟨g.eZ eZ ae i,by have:=eZ.a;omega⟩⟩
 ·simp only[k2,if_neg c];have e:vB 0 p.2.an p.2.bN s={s with an:=p.2.an,bN:=p.2.bN}:=if_pos c;rw[e];rcases d.1 with⟨h,-⟩|⟨-,l,m⟩
  ·exact absurd h c
  ·exact⟨.inr ⟨c,l,m⟩,λh=>absurd h c⟩
def N4(ay:h5 T)(g:bE)(gs:ev T s)(n:(aj T s.at_).kind≠0)(E:g.funcs.length<16):∃p q,rR T 800000000 g s=D p/\iB T 800000000 (aw s)=D q/\cR p ({g with funcs:=g.funcs++[q.1]},q.2)/\(p.2.an=0->ev T p.2/\s.at_+1<=p.2.at_/\p.1.funcs.length=g.funcs.length+1):=by
 obtain⟨g1,z⟩:=gs.go ay n;have aq:fk T X g.funcs.length 16 s=s:=tZ λ_=>ae
 unfold rR iB;rw[aq];obtain⟨aT,a2⟩:=Hp ay g1 (x:=[40]) aK;rw[aT];obtain⟨p,q,f1,f2,f3,f4⟩:=NQ ay (bh T [40] (bA T (aw s)).2) (λa=>(a2 a).2.2.1);rw[f1,f2];simp only[Option.bind_some];have hw:(b8 T [41] p.2).2.an=0->p.2.an=0/\ev T (b8 T [41] p.2).2/\p.2.at_<=(b8 T [41] p.2).2.at_:=λa=>by
  rw[kd aK]at a ⊢;have d:=q7 _ a;obtain⟨-,g4,-⟩:=f4 d;obtain⟨d1,d2⟩:=g4.take ay a;exact⟨d,d1,ae⟩
 obtain⟨j,y⟩:=NS ay (p:=p.2) (s':=bh T [41] q.2) f3.il λa=>(hw a).2.1
 by_cases c:(ly T p.2).2.an=0
 ·obtain⟨i,o,F⟩:=y c;obtain⟨u,-,G⟩:=hw i;obtain⟨v,H,K⟩:=f4 u;obtain⟨k,l,A,B⟩:=a2 v;have aQ:=j.eq c;have eq:q.1=p.1:=(Prod.ext_iff.1 (f3.eq i)).1;obtain⟨b,m1,m2,m3⟩:=MF ay o;rw[aQ,m1];refine⟨_,_,rfl,rfl,?_⟩;unfold rO;rw[if_neg (λh=>h c)];refine⟨cR.iD m2.il λa=> ?_,λa=> ?_⟩
  ·rw[m2.eq a,k,l,eq]
  ·obtain⟨w,n2⟩:=m3 a;exact⟨w,by show s.at_+1<=(lr T (ly T p.2).2).2.at_;omega,by simp⟩
 ·rcases j with⟨h,-⟩|⟨-,e,m⟩
  ·exact absurd h c
  ·obtain⟨b,m1,m2,m3⟩:=ME (T:=T) (s:=(e7 T (bh T [41] q.2)).2) (by rw[e];exact c) 799999998;rw[show(800000000:Nat)=799999998+2 from rfl,m1];refine⟨_,_,rfl,rfl,?_⟩;unfold rO;rw[if_pos c];exact⟨.inr ⟨c,m2.trans e,m3.trans m⟩,λh=>absurd h c⟩
end
section
variable {T:List Tok}{s t:al}
def o5(h:s.an≠0)(N n:Nat)(g:bE):k3 T N (n+1) g s=D (g,s):=by
 have a:(s.an==0)=false:=by simpa using h
 rw[k3,a,Bool.false_and,aN]
def o4(h:s.an≠0)(N n:Nat)(g:bE):eh T N (n+1) g s=D (g,s):=by
 have a:(s.an==0)=false:=by simpa using h
 rw[eh,a,Bool.false_and,aN]
def zy{n:Nat}{m:Int}(hm:m<=n):fk T X n m s=bQ T 4 s:=by
 unfold fk;rw[show decide (m<=(n:Int))=X from decide_eq_true hm];rfl
def QC(g:bE)(e:g.b7.length=12):∃p,sl T 800000000 g s=D p/\(s.an=0->p.2.an≠0/\(bQ T 4 s).an=p.2.an/\(bQ T 4 s).bN=p.2.bN):=by
 have d:(bQ T 4 s).an≠0:=eA aK;have c:(aw (bQ T 4 s)).an≠0:=d;obtain⟨aT,a2⟩:=zz (T:=T) c;have a:(fy T (aw (bQ T 4 s))).2.an≠0:=by rw[aT];exact c
 unfold sl;rw[zy (by rw[e];decide),l0 a,show(800000000:Nat)=799999999+1 from rfl,p9 a];refine⟨_,rfl,λ_=> ?_⟩;simp only[l0 a];exact⟨a,aT.symm,a2.symm⟩
def Ob(g:bE)(e:g.globals.length=8):(jH T g s).2.an≠0/\(bQ T 4 s).an=(jH T g s).2.an/\(bQ T 4 s).bN=(jH T g s).2.bN:=by
 have d:(bQ T 4 s).an≠0:=eA aK;have a:(aw (bQ T 4 s)).an≠0:=d;obtain⟨aT,a2⟩:=u1 (T:=T) a;have c:(hf T (aw (bQ T 4 s))).2.an≠0:=by rw[aT];exact a
 unfold jH;rw[zy (by rw[e];decide)];simp only[l0 c];exact⟨c,aT.symm,a2.symm⟩
def NR(h:s.an≠0):∃p,rP T 800000000 s=D p/\p.2.an=s.an/\p.2.bN=s.bN:=by
 unfold rP;rw[h8 h,aN];unfold j2;rw[GZ h];obtain⟨aT,a2⟩:=u1 (T:=T) h;have a:(hf T s).2.an≠0:=by rw[aT];exact h
 rw[show(800000000:Nat)=799999999+1 from rfl,uh a];exact⟨_,rfl,aT,a2⟩
def NT(h:s.an≠0):(ly T s).2=s:=by
 unfold ly;rw[l0 h,J0 h];rfl
def N2(g:bE)(k:g.funcs.length=16):∃p,rR T 800000000 g s=D p/\p.2.an≠0/\(bQ T 4 s).an=p.2.an/\(bQ T 4 s).bN=p.2.bN:=by
 have j:(bQ T 4 s).an≠0:=eA aK;have h:(aw (bQ T 4 s)).an≠0:=j;obtain⟨aT,a2⟩:=zz (T:=T) h;have a:(fy T (aw (bQ T 4 s))).2.an≠0:=by rw[aT];exact h
 unfold rR;rw[zy (by rw[k];decide),l0 a];obtain⟨p,e,d,i⟩:=NR (T:=T) a;have c:p.2.an≠0:=by rw[d];exact a
 rw[e];refine⟨_,rfl,?_⟩;rw[NT c];unfold rO;rw[if_pos c];exact⟨c,(d.trans aT).symm,(i.trans a2).symm⟩
def wB(ay:h5 T):∀(k:Nat) (s:al) (g:bE),(s.an=0->ev T s/\(T.length:Int)-s.at_<=k/\g.b7.length<=12/\g.globals.length<=8/\g.funcs.length<=16)->∀n o,k+1<=n->k+1<=o->∃p q,k3 T 800000000 n g s=D p/\eh T 800000000 o g s=D q/\cR p q
 |k,s,g,h,0,_,A,_=>ae
 |k,s,g,h,_,0,_,A=>ae
 |k,s,g,h,n+1,o+1,A,P=>by
  by_cases w:s.an=0
  ·obtain⟨gs,O,E,F,ea⟩:=h w;have G:(s.an==0)=true:=by rw[w];rfl
   have M:=gs.b;have L:=gs.a;obtain⟨n,rfl⟩:∃m,n=m+1:=⟨n-1,ae⟩;obtain⟨o,rfl⟩:∃m,o=m+1:=⟨o-1,ae⟩;have v:∀e:Int,e≠0->(bQ T e s).an≠0:=λe he=>eA he
   rw[k3,eh,G,Bool.true_and];cases K:(aj T s.at_).kind != 0 with
   |false=>exact⟨_,_,rfl,rfl,.rfl' _⟩
   |true=>
    have z:(aj T s.at_).kind≠0:=by simpa using K
    rw[aS,aS];unfold isRec iT isFun;rw[y4 s (x:=[114,101,99,111,114,100]) aK,y4 s (x:=[103,108,111,98,97,108]) aK,y4 s (x:=[102,117,110,99]) aK];cases B:bz T s 3 [114,101,99,111,114,100]with
    |true=>
     rw[vE B (y:=[103,108,111,98,97,108]) aK,vE B (y:=[102,117,110,99]) aK];simp only[Bool.true_and,Bool.false_and,Bool.or_false,aS];by_cases l:g.b7.length=12
     ·rw[show(g.b7.length==12)=X by simpa using l,aS,o4 (v 4 aK)];obtain⟨p,e,aq⟩:=QC (T:=T) (s:=s) g l;obtain⟨c,d,j⟩:=aq w;rw[e,Option.bind_some,o5 c];exact⟨_,_,rfl,rfl,.inr ⟨c,d,j⟩⟩
     ·rw[show(g.b7.length==12)=U by simpa using l,aN];obtain⟨p,q,f1,f2,f3,f4⟩:=QE ay g gs z ae;rw[f1,f2,Option.bind_some,Option.bind_some];rcases f3 with⟨c,d⟩|⟨c,d,j⟩
      ·obtain⟨g2,i⟩:=f4 c;rw[<-d]at c g2 i ⊢;exact wB ay (k-1) q.2 {g with b7:=g.b7++[q.1]} (λ_=>⟨g2,by simp only at i;omega,by simp;omega,F,ea⟩) (n+1) (o+1) (by simp only at i;omega) (by simp only at i;omega)
      ·have u:q.2.an≠0:=by rw[d];exact c
       rw[o5 c,o4 u];exact⟨_,_,rfl,rfl,.inr ⟨c,d,j⟩⟩
    |false=>
     cases H:bz T s 3 [103,108,111,98,97,108]with
     |true=>
      rw[vE H (y:=[102,117,110,99]) aK];simp only[Bool.true_and,Bool.false_and,Bool.or_false,Bool.false_or,aS,aN];by_cases l:g.globals.length=8
      ·rw[show(g.globals.length==8)=X by simpa using l,aS,o4 (v 4 aK)];obtain⟨c,d,j⟩:=Ob (T:=T) (s:=s) g l;rw[o5 c];exact⟨_,_,rfl,rfl,.inr ⟨c,d,j⟩⟩
      ·rw[show(g.globals.length==8)=U by simpa using l,aN];obtain⟨f3,f4⟩:=Oc ay g gs z ae;rcases f3 with⟨c,d⟩|⟨c,d,j⟩
       ·obtain⟨g2,i⟩:=f4 c;rw[<-d]at c g2 i ⊢;exact wB ay (k-1) (bh T [59] (c7 T (aw s)).2) {g with globals:=g.globals++[(c7 T (aw s)).1]} (λ_=>⟨g2,by simp only at i;omega,E,by simp;omega,ea⟩) (n+1) (o+1) (by simp only at i;omega) (by simp only at i;omega)
       ·have u:(bh T [59] (c7 T (aw s)).2).an≠0:=λh=>c (d.symm.trans h)
        rw[o5 c,o4 u];exact⟨_,_,rfl,rfl,.inr ⟨c,d,j⟩⟩
     |false=>
      cases N:bz T s 3 [102,117,110,99]with
      |true=>
       simp only[Bool.true_and,Bool.false_and,Bool.or_false,Bool.false_or,aS,aN];by_cases l:g.funcs.length=16
       ·rw[show(g.funcs.length==16)=X by simpa using l,aS,o4 (v 4 aK)];obtain⟨p,e,c,d,j⟩:=N2 (T:=T) (s:=s) g l;rw[e,Option.bind_some,o5 c];exact⟨_,_,rfl,rfl,.inr ⟨c,d,j⟩⟩
       ·rw[show(g.funcs.length==16)=U by simpa using l,aN];obtain⟨p,q,f1,f2,f3,f4⟩:=N4 ay g gs z ae;rw[f1,f2,Option.bind_some,Option.bind_some];rcases f3 with⟨c,d⟩|⟨c,d,j⟩
        ·obtain⟨g2,i,-⟩:=f4 c;rw[<-d]at c g2 i ⊢;exact wB ay (k-1) q.2 {g with funcs:=g.funcs++[q.1]} (λ_=>⟨g2,by simp only at i;omega,E,F,by simp;omega⟩) (n+1) (o+1) (by simp only at i;omega) (by simp only at i;omega)
        ·have u:q.2.an≠0:=λh=>c (d.symm.trans h)
         rw[o5 c,o4 u];exact⟨_,_,rfl,rfl,.inr ⟨c,d,j⟩⟩
      |false=>
       simp only[Bool.false_and,Bool.or_false,aN];rw[o5 (v 2 aK),o4 (v 2 aK)];exact⟨_,_,rfl,rfl,.rfl' _⟩
  ·rw[o5 w,o4 w];exact⟨_,_,rfl,rfl,.rfl' _⟩
def Qp(ay:h5 T)(j:0<T.length):∃p q,k3 T 800000000 800000000 .none ⟨0,0,0,0⟩=D p/\eh T 800000000 800000000 .none ⟨0,0,0,0⟩=D q/\nB p.1 p.2=nB q.1 q.2:=by
 have k:=ay.n;obtain⟨p,q,d,e,a⟩:=wB ay T.length ⟨0,0,0,0⟩ .none (λ_=>⟨⟨rfl,Int.le_refl 0,by show(0:Int)<T.length;omega,rfl,rfl⟩,by show(T.length:Int)-0<=T.length;omega,aK,aK,aK⟩) 800000000 800000000 ae ae;refine⟨p,q,d,e,?_⟩;unfold nB;rcases a with⟨a,rfl⟩|⟨a,c,i⟩
 ·rfl
 ·rw[if_neg a,if_neg (λh=>a (c.symm.trans h)),c,i]
