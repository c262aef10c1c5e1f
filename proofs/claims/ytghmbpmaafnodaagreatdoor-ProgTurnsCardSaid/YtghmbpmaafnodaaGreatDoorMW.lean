/- Part. -/
import Derived.Test.YtghmbpmaafnodaaGreatDoorMU
set_option linter.defProp false
open Option renaming some→I,none→u,bind_some→ij
open Bool renaming true→Y,false→X,false_and→ef,true_and→fg,not_false→gh,not_true→jk,and_false→kl,and_self→rs,or_false→tu,false_or→yz
open Go.bk.aa renaming int→J,str→Z,bool→D
open Go.IntKind renaming i64→U
open Nat renaming reduceAdd→cd,reduceLeDiff→de,zero_add→mn,lt_succ_self→xy
open List renaming length_nil→hi,length_cons→lm,take_of_length_le→pq,all_cons→uv,append_nil→vw,take→zA,all_nil→AB
open Int renaming le_refl→wx
namespace Go.Proofs.YtghmbpmaafnodaaGreatDoor
open Go.bk
section
variable {T:List Tok}{s:am}
def abD(e:(cT T s).2.an=0):s.an=0/\(G T s.at_).kind=1:=by
 have c:(bv T s).2.an=0:=by
  by_cases a:(bv T s).2.an=0
  ·exact a
  ·exfalso;have:(cT T s).2.an≠0:=by
    unfold cT;simp only[kI a,ty a];exact a
   exact this e
 have d:s.an=0:=by
  by_cases a:s.an=0
  ·exact a
  ·rw[vU a]at c;exact c
 have h:(s.an==0)=true:=by rw[d];rfl
 refine⟨d,?_⟩;unfold bv at c;rw[h,fg]at c;cases a:(G T s.at_).kind==1 with
 |true=>simpa using a
 |false=>rw[a,aH]at c;exact absurd c (ej aC)
def Tw(h:(G T s.at_).kind=1){n:Nat}{m:Int}(a:m<=n):dM T ((G T s.at_).kind==1) n m s=bx T 4 s:=by
 unfold dM;rw[show((G T s.at_).kind==1)=Y by simpa using h,show decide (m<=(n:Int))=Y from decide_eq_true a];rfl
def tt{b:Bool}{n:Nat}{m:Int}(a:b=Y->(n:Int)<m):dM T b n m s=s:=by
 unfold dM;cases b with
 |false=>rfl
 |true=>
  rw[show decide (m<=(n:Int))=X from decide_eq_false (by have:=a rfl;omega)];rfl
def vD{k:Int}{x y:ay}(h:a8 T s k x=Y)(e:x≠y):a8 T s k y=false:=by
 obtain⟨-,-,a⟩:=km h;cases d:a8 T s k y with
 |false=>rfl
 |true=>obtain⟨-,-,c⟩:=km d;exact absurd (a.symm.trans c) e
def I7{k:Int}{x:ay}(h:a8 T s k x=Y)(a:k≠0):(G T s.at_).kind≠0:=by rw[(km h).2.1];exact a
def mO(T:List Tok)(p q:List bq×am):Prop:=cE (p.1,(bD T [41] p.2).2) (q.1,bg T [41] q.2)
def mO.failed{p q:List bq×am}(a:p.2.an≠0)(c:q.2.an=p.2.an)(d:q.2.bl=p.2.bl):mO T p q:=by
 unfold mO;rw[kN a,kI (by rw[c];exact a)];exact .inr ⟨a,c,d⟩
def cE.rfl'{a:Type}(p:a×am):cE p p:=by
 by_cases h:p.2.an=0
 ·exact .inl ⟨h,rfl⟩
 ·exact .inr ⟨h,rfl,rfl⟩
def Lj(ar:eh T):∀(k:Nat) (t:am) (l:List bq),(t.an=0->ee T t/\(T.length:Int)-t.at_<=k/\l.length<=6/\a8 T t 4 [41]=X)->∀n v,k+1<=n->k+2<=v->∃p q,iV T n (hl T l t).1 (hl T l t).2=I p/\eV T v l t=I q/\mO T p q/\(p.2.an=0->t.an=0/\ee T p.2/\t.at_<=p.2.at_)
 |k,t,l,h,0,_,K,_=>ae
 |k,t,l,h,_,0,_,K=>ae
 |k,t,l,h,n+1,v+1,K,ah=>by
  by_cases s:t.an=0
  ·obtain⟨g,ad,ak,W⟩:=h s;have R:(t.an==0)=true:=by rw[s];rfl
   have ab:=g.b;have aa:=g.a;rw[eV,R,kn t aC,W];simp only[gh,Bool.and_true,aK];obtain⟨v,rfl⟩:∃m,v=m+1:=⟨v-1,ae⟩;unfold hl;cases y:((G T t.at_).kind==1&&l.length==6)with
   |true=>
    simp only[Bool.and_eq_true,beq_iff_eq]at y;rw[Tw y.1 (by rw[y.2];decide),aK];have i:(bx T 4 t).an≠0:=ej aC;obtain⟨aI,a2⟩:=uX (T:=T) i;have j:(fp T (bx T 4 t)).2.an≠0:=by rw[aI];exact i
    rw[tB j];exact⟨_,_,rfl,rfl,.failed j aI.symm a2.symm,λo=>absurd o j⟩
   |false=>
    have ap:dM T ((G T t.at_).kind==1) l.length 6 t=t:=tt λB=>by
     rw[B,fg]at y;have:l.length≠6:=by simpa using y
     omega
    rw[ap,aH];rcases DD ar g with⟨i,e⟩|⟨i,j,P⟩
    ·rw[<-e];rw[<-e]at i;have E:(cT T t).2.an=0:=i;obtain⟨A,bo⟩:=g.typed ar E;have af:l.length≠6:=by
      have V:((G T t.at_).kind==1)=true:=by simpa using(abD E).2
      rw[V,fg]at y;simpa using y
     have L:(cO T t).2=(cT T t).2:=rfl;rw[L];generalize (cT T t).2=c at E A bo;generalize (cO T t).1=w;cases z:a8 T c 4 [44]with
     |true=>
      have Q:a8 T c 4 [41]=false:=vD z aC;have jl:iV T (n+1) (l++[w]) c=iV T n (hl T (l++[w]) (ao c)).1 (hl T (l++[w]) (ao c)).2:=by
       rw[iV];unfold cK;rw[z];rfl
      rw[jl,kn c aC,Q,aH];obtain⟨O,b3⟩:=A.go ar (I7 z aC);have C:bg T [44] c=ao c:=by unfold bg;rw[kn c aC,z];rfl
      unfold hz;rw[C,kn (ao c) aC];cases x:a8 T (ao c) 4 [41]with
      |true=>
       rw[aK];have d:(bx T 2 (ao c)).an≠0:=ej aC;have H:(G T (ao c).at_).kind=4:=(km x).2.1;have aE:dM T ((G T (ao c).at_).kind==1) (l++[w]).length 6 (ao c)=ao c:=tt λB=>by
        rw[H]at B;exact absurd B aC
       have bB:(fp T (ao c)).2.an=(bx T 2 (ao c)).an/\(fp T (ao c)).2.bl=(bx T 2 (ao c)).bl:=by
        have S:eJ T (ao c)=(.none,bx T 2 (ao c)):=by
         unfold eJ;rw[H];rfl
        unfold fp;rw[S];simp only[kN d,v1 d,and_self]
       have F:(fp T (ao c)).2.an≠0:=by rw[bB.1];exact d
       obtain⟨n,rfl⟩:∃m,n=m+1:=⟨n-1,ae⟩;unfold hl;rw[aE,tB F,we d];exact⟨_,_,rfl,rfl,.failed F bB.1.symm bB.2.symm,λo=>absurd o F⟩
      |false=>
       rw[aH];obtain⟨p,q,f1,f2,f3,f4⟩:=Lj ar (k-1) (ao c) (l++[w]) (λ_=>⟨O,ae,by simp;omega,x⟩) n (v+1) ae ae;exact⟨p,q,f1,f2,f3,λo=>⟨s,(f4 o).2.1,by have:=(f4 o).2.2;omega⟩⟩
     |false=>
      have jl:iV T (n+1) (l++[w]) c=I (l++[w],c):=by
       rw[iV];unfold cK;rw[z];rfl
      rw[jl];cases x:a8 T c 4 [41]with
      |true=>
       rw[kn c aC,x,aK];have:eV T (v+1) (l++[w]) c=I (l++[w],c):=by
        rw[eV,kn c aC,x,jk,kl,aH]
       refine⟨_,_,rfl,this,?_,λ_=>⟨s,A,by show t.at_<=c.at_;omega⟩⟩;unfold mO;rw[i7 aC];exact cE.rfl' _
      |false=>
       rw[kn c aC,x,aH];have d:(bx T 2 c).an≠0:=ej aC;have C:bg T [44] c=bx T 2 c:=by unfold bg;rw[kn c aC,z];rfl
       have M:hz T c=bx T 2 c:=by unfold hz;rw[C,ed d];rfl
       rw[M,we d];refine⟨_,_,rfl,rfl,?_,λ_=>⟨s,A,by show t.at_<=c.at_;omega⟩⟩;unfold mO;have N:(bD T [41] c).2=bx T 2 c:=by unfold bD;rw[x];rfl
       simp only[N,kI d];exact cE.rfl' _
    ·have d:(cO T t).2.an≠0:=by rw[j];exact i
     rw[tB i,ed d,aH,QM d,we d];exact⟨_,_,rfl,rfl,.failed i j P,λo=>absurd o i⟩
  ·unfold hl;rw[Kz s];obtain⟨aI,a2⟩:=uX (T:=T) s;have j:(fp T t).2.an≠0:=by rw[aI];exact s
   rw[tB j,we s];exact⟨_,_,rfl,rfl,.failed j aI.symm a2.symm,λo=>absurd o j⟩
def RI(ar:eh T)(t:am)(h:t.an=0->ee T t):∃p q,oD T 800000000 t=I p/\eV T 800000000 [] t=I q/\mO T p q/\(p.2.an=0->t.an=0/\ee T p.2/\t.at_<=p.2.at_):=by
 have e:=ar.n;unfold oD;cases c:a8 T t 4 [41]with
 |true=>
  have g:=h (km c).1;rw[aK];have:eV T 800000000 [] t=I ([],t):=by
   rw[show(800000000:Nat)=799999999+1 from rfl,eV,kn t aC,c,jk,kl,aH]
  refine⟨_,_,rfl,this,?_,λ_=>⟨(km c).1,g,wx _⟩⟩;unfold mO;rw[i7 aC];exact cE.rfl' _
 |false=>
  rw[aH];exact Lj ar T.length t [] (λd=>⟨h d,by have:=(h d).a;omega,aC,c⟩) _ _ ae ae
def RL(ar:eh T){p:am}{s':am}(h:dT (bD T [41] p).2 s')(k:(bD T [41] p).2.an=0->ee T (bD T [41] p).2):cE (fX T p) (eW T s')/\((fX T p).2.an=0->(bD T [41] p).2.an=0/\ee T (fX T p).2/\(bD T [41] p).2.at_<=(fX T p).2.at_):=by
 unfold fX;generalize (bD T [41] p).2=w at h k;unfold eW cK;rcases h with⟨h,rfl⟩|⟨e,j,m⟩
 ·have g:=k h;rw[kn s' aC];cases o:a8 T s' 4 [58]with
  |true=>
   simp only[aK];obtain⟨d,bo⟩:=g.go ar (I7 o aC);rw[show h1 T (ao s')=hj T (ao s')from if_neg (λh=>h d.f)];obtain⟨i,l⟩:=vd ar.n (s:=ao s') (x:=ao s') d.f ⟨rfl,rfl,aV _⟩ d.z;refine⟨cE.hF i.hq λc=>by rw[i.eq c],λc=> ?_⟩;obtain⟨aQ,c2,-⟩:=l c;have eq:=i.eq c;obtain⟨-,dI⟩:=nc ar.g (λ_=>d.in) (show(cz T (ao s')).2.an=0 by rw[eq];exact c);rw[eq]at dI;exact⟨h,d.dI dI ae c2,by have:=dI.a;show s'.at_<=(hj T (ao s')).2.at_;omega⟩
  |false=>
   simp only[aH];exact⟨cE.rfl' _,λ_=>⟨h,g,wx _⟩⟩
 ·have aU:s'.an≠0:=by rw[j];exact e
  rw[hd e,ed aU];exact⟨.inr ⟨e,j,m⟩,λc=>absurd c e⟩
end
section
variable {T:List Tok}{s t:am}
def Ty(ar:eh T)(g:ee T t):(eJ T t).2=(bv T t).2/\((bv T t).2.an=0->(eJ T t).1.text=(bv T t).1/\(eJ T t).1.pos=(G T t.at_).pos/\ee T (bv T t).2/\t.at_+1<=(bv T t).2.at_):=by
 have e:(t.an==0)=true:=by rw[g.f];rfl
 unfold eJ bv;rw[e,fg];cases a:(G T t.at_).kind==1 with
 |true=>
  have c:((G T t.at_).kind != 1)=false:=by rw[bne,a];rfl
  have h:(G T t.at_).kind≠0:=by
   have i:(G T t.at_).kind=1:=by simpa using a
   omega
  rw[c,aH,aK];exact⟨rfl,λ_=>⟨rfl,rfl,g.go ar h⟩⟩
 |false=>
  have c:((G T t.at_).kind != 1)=true:=by rw[bne,a];rfl
  rw[c,aK,aH];exact⟨rfl,λd=>absurd d (ej aC)⟩
def p8(x:ay)(h:(bg T x s).an=0):s.an=0:=by
 by_cases au:s.an=0
 ·exact au
 ·rw[kI au]at h;exact h
def K_(ar:eh T)(g:ee T t){x:ay}(c:kw x=4):(bD T x (eJ T t).2).2=bg T x (bv T t).2/\((bg T x (bv T t).2).an=0->(eJ T t).1.text=(bv T t).1/\(eJ T t).1.pos=(G T t.at_).pos/\ee T (bg T x (bv T t).2)/\t.at_+2<=(bg T x (bv T t).2).at_):=by
 obtain⟨aI,a2⟩:=Ty ar g;rw[i7 c,aI];refine⟨rfl,λa=> ?_⟩;obtain⟨aQ,c2,c3,c4⟩:=a2 (p8 x a);obtain⟨d1,d2⟩:=c3.take ar a;exact⟨aQ,c2,d1,ae⟩
def UP(ar:eh T)(g:bw)(l:ee T s)(m:(G T s.at_).kind≠0)(ak:g.bJ.length<12):∃p q,nj T 800000000 g s=I p/\hI T 800000000 (ao s)=I q/\cE p ({g with bJ:=g.bJ++[q.1]},q.2)/\(p.2.an=0->ee T p.2/\s.at_+1<=p.2.at_):=by
 have o:=ar.n;obtain⟨k,bf⟩:=l.go ar m;have ap:dM T Y g.bJ.length 12 s=s:=tt λ_=>ae
 unfold nj hI;rw[ap];obtain⟨aI,a2⟩:=K_ ar k (x:=[123]) aC;rw[aI];obtain⟨p,q,f1,f2,f3,f4⟩:=Ht ar T.length (bg T [123] (bv T (ao s)).2) [] (λe=>⟨(a2 e).2.2.1,by have:=(a2 e).2.2.1.a;omega,aC⟩) 800000000 800000000 ae ae;rw[f1,f2];refine⟨_,_,rfl,rfl,cE.hF (sF f3.hq aC) λe=> ?_,λe=> ?_⟩
 ·have h:(bD T [125] p.2).2.an=0:=e;have d:p.2.an=0:=by rw[i7 aC]at h;exact p8 _ h
  obtain⟨j,N⟩:=f4 d;have i:(bg T [123] (bv T (ao s)).2).an=0:=by
   by_cases c:(bg T [123] (bv T (ao s)).2).an=0
   ·exact c
   ·rw[show(800000000:Nat)=799999999+1 from rfl,oz c]at f1;cases f1;exact absurd d c
  obtain⟨aQ,c2,-,-⟩:=a2 i;rw[aQ,c2,f3.eq d]
 ·have h:(bD T [125] p.2).2.an=0:=e;rw[i7 aC]at h;have d:p.2.an=0:=p8 _ h;obtain⟨j,N⟩:=f4 d;have i:(bg T [123] (bv T (ao s)).2).an=0:=by
   by_cases c:(bg T [123] (bv T (ao s)).2).an=0
   ·exact c
   ·rw[show(800000000:Nat)=799999999+1 from rfl,oz c]at f1;cases f1;exact absurd d c
  obtain⟨-,-,-,c4⟩:=a2 i;obtain⟨d1,d2⟩:=j.take ar h;simp only[i7 (show kw [125]=4 by decide)];exact⟨d1,ae⟩
def R8(ar:eh T)(g:bw)(i:ee T s)(j:(G T s.at_).kind≠0)(ak:g.globals.length<8):cE (gJ T g s) ({g with globals:=g.globals++[(cO T (ao s)).1]},bg T [59] (cO T (ao s)).2)/\((gJ T g s).2.an=0->ee T (gJ T g s).2/\s.at_+1<=(gJ T g s).2.at_):=by
 obtain⟨e,bf⟩:=i.go ar j;have ap:dM T Y g.globals.length 8 s=s:=tt λ_=>ae
 unfold gJ;rw[ap];have c:=DD ar e;refine⟨cE.hF (sF c.hq aC) λd=> ?_,λd=> ?_⟩
 ·have a:(bD T [59] (fp T (ao s)).2).2.an=0:=d;rw[i7 aC]at a;rw[c.eq (p8 _ a)]
 ·have a:(bD T [59] (fp T (ao s)).2).2.an=0:=d;rw[i7 aC]at a;have eq:=c.eq (p8 _ a);simp only[i7 (show kw [59]=4 by decide)];have h:=p8 _ a;rw[<-eq]at a h ⊢;obtain⟨aQ,c2⟩:=e.typed ar (show(cT T (ao s)).2.an=0 from h);obtain⟨d1,d2⟩:=aQ.take ar a;exact⟨d1,by show s.at_+1<=(bg T [59] (cT T (ao s)).2).at_;omega⟩
def Qp(h:s.an≠0)(n:Nat):∃q,dU T (n+2) s=I q/\q.2.an=s.an/\q.2.bl=s.bl:=by
 have a:(e4 s).an≠0:=h;have c:((e4 s).an==0)=false:=by simpa using a
 have ap:cl T [123] s=e4 s:=by
  unfold cl;rw[ed h,kI h];rfl
 rw[dU,ap,fx,c,ef,aH,ij];refine⟨_,rfl,?_,?_⟩
 ·unfold cV;rw[kI a];rfl
 ·unfold cV;rw[kI a];rfl
def Qq(ar:eh T)(g:ee T s):∃q,dU T 800000000 s=I q/\cE (iA T s) q/\((iA T s).2.an=0->ee T (iA T s).2/\s.at_<=(iA T s).2.at_):=by
 have i:g1 s.at_ 0=s:=by
  have:=Na (x:=s) g.f g.z (by rw[g.o];exact wx 0);rw[g.o]at this;exact this
 obtain⟨p,q,ap,aE,-,d⟩:=FK ar.n s.at_ 0;rw[i]at aE d;refine⟨q,aE,?_⟩;unfold iA;rw[ap];by_cases c:p.2.an=0
 ·have eq:=d.1.eq c;obtain⟨aQ,c2,-⟩:=d.2 c;have e:ii p.2.at_ 0 0 s=p.2:=by
   unfold ii;rw[if_neg (λh=>h rfl)];have:=g.f;have:=g.o;have:=g.z;cases s;cases l:p.2;rw[l]at c aQ c2
   simp_all
  simp only[fa,if_pos c,e];obtain⟨dI,-,-⟩:=(wq ar.g (vi ar.n) 800000000).block s q (λ_=>g.in) aE (by rw[eq];exact c);rw[eq]at dI;exact⟨.inl ⟨c,eq⟩,λ_=>⟨g.dI dI ae c2,by have:=dI.a;omega⟩⟩
 ·simp only[fa,if_neg c];have e:ii 0 p.2.an p.2.bl s={s with an:=p.2.an,bl:=p.2.bl}:=if_pos c;rw[e];rcases d.1 with⟨h,-⟩|⟨-,j,k⟩
  ·exact absurd h c
  ·exact⟨.inr ⟨c,j,k⟩,λh=>absurd h c⟩
def RX(ar:eh T)(g:bw)(w:ee T s)(z:(G T s.at_).kind≠0)(ak:g.funcs.length<16):∃p q,m5 T 800000000 g s=I p/\hB T 800000000 (ao s)=I q/\cE p ({g with funcs:=g.funcs++[q.1]},q.2)/\(p.2.an=0->ee T p.2/\s.at_+1<=p.2.at_/\p.1.funcs.length=g.funcs.length+1):=by
 obtain⟨o,bf⟩:=w.go ar z;have ap:dM T Y g.funcs.length 16 s=s:=tt λ_=>ae
 unfold m5 hB;rw[ap];obtain⟨aI,a2⟩:=K_ ar o (x:=[40]) aC;rw[aI];obtain⟨p,q,f1,f2,f3,f4⟩:=RI ar (bg T [40] (bv T (ao s)).2) (λa=>(a2 a).2.2.1);rw[f1,f2];simp only[ij];have l:(bD T [41] p.2).2.an=0->p.2.an=0/\ee T (bD T [41] p.2).2/\p.2.at_<=(bD T [41] p.2).2.at_:=λa=>by
  rw[i7 aC]at a ⊢;have j:=p8 _ a;obtain⟨-,v,-⟩:=f4 j;obtain⟨d1,d2⟩:=v.take ar a;exact⟨j,d1,ae⟩
 obtain⟨n,F⟩:=RL ar (p:=p.2) (s':=bg T [41] q.2) f3.hq λa=>(l a).2.1
 by_cases c:(fX T p.2).2.an=0
 ·obtain⟨m,A,H⟩:=F c;obtain⟨B,-,K⟩:=l m;obtain⟨C,L,M⟩:=f4 B;obtain⟨aQ,c2,c3,c4⟩:=a2 C;have aN:=n.eq c;have eq:q.1=p.1:=(Prod.ext_iff.1 (f3.eq m)).1;obtain⟨b,e,d,i⟩:=Qq ar A;rw[aN,e];refine⟨_,_,rfl,rfl,?_⟩;unfold ih;rw[if_neg (λh=>h c)];refine⟨cE.hF d.hq λa=> ?_,λa=> ?_⟩
  ·rw[d.eq a,aQ,c2,eq]
  ·obtain⟨E,n2⟩:=i a;exact⟨E,by show s.at_+1<=(iA T (fX T p.2).2).2.at_;omega,by simp⟩
 ·rcases n with⟨h,-⟩|⟨-,k,y⟩
  ·exact absurd h c
  ·obtain⟨b,e,d,i⟩:=Qp (T:=T) (s:=(eW T (bg T [41] q.2)).2) (by rw[k];exact c) 799999998;rw[show(800000000:Nat)=799999998+2 from rfl,e];refine⟨_,_,rfl,rfl,?_⟩;unfold ih;rw[if_pos c];exact⟨.inr ⟨c,d.trans k,i.trans y⟩,λh=>absurd h c⟩
end
section
variable {T:List Tok}{s t:am}
def nh(h:s.an≠0)(N n:Nat)(g:bw):h2 T N (n+1) g s=I (g,s):=by
 have a:(s.an==0)=false:=by simpa using h
 rw[h2,a,ef,aH]
def ng(h:s.an≠0)(N n:Nat)(g:bw):ek T N (n+1) g s=I (g,s):=by
 have a:(s.an==0)=false:=by simpa using h
 rw[ek,a,ef,aH]
def Bx{n:Nat}{m:Int}(a:m<=n):dM T Y n m s=bx T 4 s:=by
 unfold dM;rw[show decide (m<=(n:Int))=Y from decide_eq_true a];rfl
def UN(g:bw)(ak:g.bJ.length=12):∃p,nj T 800000000 g s=I p/\(s.an=0->p.2.an≠0/\(bx T 4 s).an=p.2.an/\(bx T 4 s).bl=p.2.bl):=by
 have d:(bx T 4 s).an≠0:=ej aC;have c:(ao (bx T 4 s)).an≠0:=d;obtain⟨aI,a2⟩:=By (T:=T) c;have a:(eJ T (ao (bx T 4 s))).2.an≠0:=by rw[aI];exact c
 unfold nj;rw[Bx (by rw[ak];decide),kN a,show(800000000:Nat)=799999999+1 from rfl,oz a];refine⟨_,rfl,λ_=> ?_⟩;simp only[kN a];exact⟨a,aI.symm,a2.symm⟩
def R7(g:bw)(ak:g.globals.length=8):(gJ T g s).2.an≠0/\(bx T 4 s).an=(gJ T g s).2.an/\(bx T 4 s).bl=(gJ T g s).2.bl:=by
 have d:(bx T 4 s).an≠0:=ej aC;have a:(ao (bx T 4 s)).an≠0:=d;obtain⟨aI,a2⟩:=uX (T:=T) a;have c:(fp T (ao (bx T 4 s))).2.an≠0:=by rw[aI];exact a
 unfold gJ;rw[Bx (by rw[ak];decide)];simp only[kN c];exact⟨c,aI.symm,a2.symm⟩
def RJ(h:s.an≠0):∃p,oD T 800000000 s=I p/\p.2.an=s.an/\p.2.bl=s.bl:=by
 unfold oD;rw[hd h,aH];unfold hl;rw[Kz h];obtain⟨aI,a2⟩:=uX (T:=T) h;have a:(fp T s).2.an≠0:=by rw[aI];exact h
 rw[show(800000000:Nat)=799999999+1 from rfl,tB a];exact⟨_,rfl,aI,a2⟩
def RM(h:s.an≠0):(fX T s).2=s:=by
 unfold fX;rw[kN h,NJ h];rfl
def RV(g:bw)(ak:g.funcs.length=16):∃p,m5 T 800000000 g s=I p/\p.2.an≠0/\(bx T 4 s).an=p.2.an/\(bx T 4 s).bl=p.2.bl:=by
 have h:(bx T 4 s).an≠0:=ej aC;have d:(ao (bx T 4 s)).an≠0:=h;obtain⟨aI,a2⟩:=By (T:=T) d;have a:(eJ T (ao (bx T 4 s))).2.an≠0:=by rw[aI];exact d
 unfold m5;rw[Bx (by rw[ak];decide),kN a];obtain⟨p,e,bf,bo⟩:=RJ (T:=T) a;have c:p.2.an≠0:=by rw[bf];exact a
 rw[e];refine⟨_,rfl,?_⟩;rw[RM c];unfold ih;rw[if_pos c];exact⟨c,(bf.trans aI).symm,(bo.trans a2).symm⟩
def wo(ar:eh T):∀(k:Nat) (s:am) (g:bw),(s.an=0->ee T s/\(T.length:Int)-s.at_<=k/\g.bJ.length<=12/\g.globals.length<=8/\g.funcs.length<=16)->∀n j,k+1<=n->k+1<=j->∃p q,h2 T 800000000 n g s=I p/\ek T 800000000 j g s=I q/\cE p q
 |k,s,g,h,0,_,B,_=>ae
 |k,s,g,h,_,0,_,B=>ae
 |k,s,g,h,n+1,j+1,B,R=>by
  by_cases z:s.an=0
  ·obtain⟨o,Q,E,F,dt⟩:=h z;have K:(s.an==0)=true:=by rw[z];rfl
   have O:=o.b;have N:=o.a;obtain⟨n,rfl⟩:∃m,n=m+1:=⟨n-1,ae⟩;obtain⟨j,rfl⟩:∃m,j=m+1:=⟨j-1,ae⟩;have w:∀e:Int,e≠0->(bx T e s).an≠0:=λe H=>ej H
   rw[h2,ek,K,fg];cases M:(G T s.at_).kind != 0 with
   |false=>exact⟨_,_,rfl,rfl,.rfl' _⟩
   |true=>
    have A:(G T s.at_).kind≠0:=by simpa using M
    rw[aK,aK];unfold isRec hV isFun;rw[A9 s (x:=[114,101,99,111,114,100]) aC,A9 s (x:=[103,108,111,98,97,108]) aC,A9 s (x:=[102,117,110,99]) aC];cases C:a8 T s 3 [114,101,99,111,114,100]with
    |true=>
     rw[vD C (y:=[103,108,111,98,97,108]) aC,vD C (y:=[102,117,110,99]) aC];simp only[fg,ef,tu,aK];by_cases ak:g.bJ.length=12
     ·rw[show(g.bJ.length==12)=Y by simpa using ak,aK,ng (w 4 aC)];obtain⟨p,e,ap⟩:=UN (T:=T) (s:=s) g ak;obtain⟨c,d,i⟩:=ap z;rw[e,ij,nh c];exact⟨_,_,rfl,rfl,.inr ⟨c,d,i⟩⟩
     ·rw[show(g.bJ.length==12)=X by simpa using ak,aH];obtain⟨p,q,f1,f2,f3,f4⟩:=UP ar g o A ae;rw[f1,f2,ij,ij];rcases f3 with⟨c,d⟩|⟨c,d,i⟩
      ·obtain⟨l,bo⟩:=f4 c;rw[<-d]at c l bo ⊢;exact wo ar (k-1) q.2 {g with bJ:=g.bJ++[q.1]} (λ_=>⟨l,by simp only at bo;omega,by simp;omega,F,dt⟩) (n+1) (j+1) (by simp only at bo;omega) (by simp only at bo;omega)
      ·have v:q.2.an≠0:=by rw[d];exact c
       rw[nh c,ng v];exact⟨_,_,rfl,rfl,.inr ⟨c,d,i⟩⟩
    |false=>
     cases L:a8 T s 3 [103,108,111,98,97,108]with
     |true=>
      rw[vD L (y:=[102,117,110,99]) aC];simp only[fg,ef,tu,yz,aK,aH];by_cases ak:g.globals.length=8
      ·rw[show(g.globals.length==8)=Y by simpa using ak,aK,ng (w 4 aC)];obtain⟨c,d,i⟩:=R7 (T:=T) (s:=s) g ak;rw[nh c];exact⟨_,_,rfl,rfl,.inr ⟨c,d,i⟩⟩
      ·rw[show(g.globals.length==8)=X by simpa using ak,aH];obtain⟨f3,f4⟩:=R8 ar g o A ae;rcases f3 with⟨c,d⟩|⟨c,d,i⟩
       ·obtain⟨l,bo⟩:=f4 c;rw[<-d]at c l bo ⊢;exact wo ar (k-1) (bg T [59] (cO T (ao s)).2) {g with globals:=g.globals++[(cO T (ao s)).1]} (λ_=>⟨l,by simp only at bo;omega,E,by simp;omega,dt⟩) (n+1) (j+1) (by simp only at bo;omega) (by simp only at bo;omega)
       ·have v:(bg T [59] (cO T (ao s)).2).an≠0:=λh=>c (d.symm.trans h)
        rw[nh c,ng v];exact⟨_,_,rfl,rfl,.inr ⟨c,d,i⟩⟩
     |false=>
      cases P:a8 T s 3 [102,117,110,99]with
      |true=>
       simp only[fg,ef,yz,aK,aH];by_cases ak:g.funcs.length=16
       ·rw[show(g.funcs.length==16)=Y by simpa using ak,aK,ng (w 4 aC)];obtain⟨p,e,c,d,i⟩:=RV (T:=T) (s:=s) g ak;rw[e,ij,nh c];exact⟨_,_,rfl,rfl,.inr ⟨c,d,i⟩⟩
       ·rw[show(g.funcs.length==16)=X by simpa using ak,aH];obtain⟨p,q,f1,f2,f3,f4⟩:=RX ar g o A ae;rw[f1,f2,ij,ij];rcases f3 with⟨c,d⟩|⟨c,d,i⟩
        ·obtain⟨l,bo,-⟩:=f4 c;rw[<-d]at c l bo ⊢;exact wo ar (k-1) q.2 {g with funcs:=g.funcs++[q.1]} (λ_=>⟨l,by simp only at bo;omega,E,F,by simp;omega⟩) (n+1) (j+1) (by simp only at bo;omega) (by simp only at bo;omega)
        ·have v:q.2.an≠0:=λh=>c (d.symm.trans h)
         rw[nh c,ng v];exact⟨_,_,rfl,rfl,.inr ⟨c,d,i⟩⟩
      |false=>
       simp only[ef,tu,aH];rw[nh (w 2 aC),ng (w 2 aC)];exact⟨_,_,rfl,rfl,.rfl' _⟩
  ·rw[nh z,ng z];exact⟨_,_,rfl,rfl,.rfl' _⟩
def UB(ar:eh T)(j:0<T.length):∃p q,h2 T 800000000 800000000 .none ⟨0,0,0,0⟩=I p/\ek T 800000000 800000000 .none ⟨0,0,0,0⟩=I q/\lg p.1 p.2=lg q.1 q.2:=by
 have k:=ar.n;obtain⟨p,q,d,e,a⟩:=wo ar T.length ⟨0,0,0,0⟩ .none (λ_=>⟨⟨rfl,wx 0,by show(0:Int)<T.length;omega,rfl,rfl⟩,by show(T.length:Int)-0<=T.length;omega,aC,aC,aC⟩) 800000000 800000000 ae ae;refine⟨p,q,d,e,?_⟩;unfold lg;rcases a with⟨a,rfl⟩|⟨a,c,i⟩
 ·rfl
 ·rw[if_neg a,if_neg (λh=>a (c.symm.trans h)),c,i]
end
section
set_option maxRecDepth 100000
noncomputable section
def n4(o:e)(N:Nat)(h k:aa)(aJ w:aa)(H:ad):O:=i H (o 25 [aJ] H) λp d=>C (cI .not p) λq=>aO (I q) (aG d (aB P d 26 h (.agg [aa.ag,aa.ag,aa.ag])) λa=>C (bd aJ) λs=>C (j P 63 s 3) λm=>C (A P a 29 m) λn=>aG a (aB P a 29 k n) λc=>bif ((aZ (A P d 29 m) n&&(aZ (A P a 29 m) n&&Y))&&Y)then(C (A P c 26 h) λr=>C (A P c 29 k) λl=>I (.tuple [r,l],c))else u) (C (A P d 26 w) λv=>aG d (aB P d 26 h v) λa=>aG a (aB P a 29 k (.agg [J U 0,J U 0])) λc=>C (A P c 26 h) λr=>C (A P c 29 k) λl=>I (.tuple [r,l],c))
def aal(a:e)(N:Nat):∀V H,a7 P a N (L (L (L (L (L (L (n Tryz.f9))))))) (p Tryz.f9) [] (p Tryz.f9) V H=n4 a N (V 2) (V 3) (V 6) (V 7) H:=by
 refine bm (q _) λV H=> ?_
 delta n4;kernel_rfl
def j3(k:e)(N:Nat)(o:aa->aa->aa->aa->ad->O)(q s:aa)(aJ h V:aa)(H:ad):O:=aO (I V) (i H (k 28 [aJ,J U 4] H) λaI n=>o q s aJ h n) (i H (k 27 [aJ,Z [114,101,99,111,114,100]] H) λW n=>aO (I W) (C (bd aJ) λab=>C (j P 63 ab 1) λae=>C (A P n 3 ae) λaf=>C (w P .add 3 Y af (J U 1)) λah=>C (bd aJ) λai=>C (j P 63 ai 1) λaj=>aG n (aB P n 3 aj ah) λl=>i l (k 29 [aJ] l) λak a=>C (j P 26 h 0) λy=>C (A P a 22 y) λz=>bO a (b0 P (a).next 22 1 [(0,ak)]) λal c=>i c (c_ P c [22,22] z al) λam d=>C (j P 26 h 0) λan=>aG d (aB P d 22 an am) λm=>bif ((aZ (A P l 22 y) z&&(aZ (A P a 22 y) z&&(aZ (A P c 22 y) z&&Y)))&&Y)then(o q s aJ h m)else u) (i n (k 27 [aJ,Z [103,108,111,98,97,108]] n) λao l=>aO (I ao) (C (bd aJ) λap=>C (j P 63 ap 1) λaq=>C (A P l 3 aq) λar=>C (w P .add 3 Y ar (J U 1)) λau=>C (bd aJ) λav=>C (j P 63 av 1) λaw=>aG l (aB P l 3 aw au) λa=>i a (k 30 [aJ] a) λay c=>C (j P 26 h 1) λB=>C (A P c 23 B) λE=>bO c (b0 P (c).next 23 1 [(0,ay)]) λaz d=>i d (c_ P d [23,23] E az) λaA m=>C (j P 26 h 1) λaC=>aG m (aB P m 23 aC aA) λp=>bif ((aZ (A P a 23 B) E&&(aZ (A P c 23 B) E&&(aZ (A P d 23 B) E&&Y)))&&Y)then(i p (k 31 [aJ,Z [59]] p) λaK F=>o q s aJ h F)else u) (i l (k 27 [aJ,Z [102,117,110,99]] l) λaD a=>aO (I aD) (C (bd aJ) λaE=>C (j P 63 aE 1) λaF=>C (A P a 3 aF) λG=>C (w P .add 3 Y G (J U 1)) λK=>C (bd aJ) λL=>C (j P 63 L 1) λM=>aG a (aB P a 3 M K) λc=>i c (k 32 [aJ] c) λQ d=>C (j P 26 h 2) λv=>C (A P d 24 v) λx=>bO d (b0 P (d).next 24 1 [(0,Q)]) λR m=>i m (c_ P m [24,24] x R) λS p=>C (j P 26 h 2) λT=>aG p (aB P p 24 T S) λF=>bif ((aZ (A P c 24 v) x&&(aZ (A P d 24 v) x&&(aZ (A P m 24 v) x&&Y)))&&Y)then(o q s aJ h F)else u) (i a (k 28 [aJ,J U 2] a) λaH c=>o q s aJ h c))))
def aam(c:e)(N:Nat)(a:aa->aa->aa->aa->ad->O):∀V H,a7 P c N (L (d (d (L (d (d (d (L (L (L (L (L (n Tryz.f9))))))))))))) (λV H=>a (V 2) (V 3) (V 6) (V 7) H) [(2,(λV H=>a (V 2) (V 3) (V 6) (V 7) H)),(1,(λV H=>a (V 2) (V 3) (V 6) (V 7) H)),(0,(λV H=>n4 c N (V 2) (V 3) (V 6) (V 7) H))] (p Tryz.f9) V H=j3 c N a (V 2) (V 3) (V 6) (V 7) (V 31) H:=by
 refine bm (q _) λV H=> ?_
 delta j3;kernel_rfl
def y2(a:e)(N:Nat)(p:aa->aa->aa->aa->ad->O)(n o:aa)(aJ c:aa)(H:ad):O:=i H (a 25 [aJ] H) λd V=>S d Y V (bP aJ) λam x=>S d Y x (λq=>cZ x (a 26 [am] x) q) λan ai=>S d Y ai (k (ca P 57 an 0)) λao aj=>S d Y aj (k (w P .neq 3 Y ao (J U 0))) λap y=>C (bC d (I ap) (I (D X))) λaq=>aO (I aq) (i y (a 27 [aJ,Z [114,101,99,111,114,100]] y) λh ak=>S h Y ak (k (j P 26 c 0)) λar G=>S h Y G (qr (A P G 22 ar)) λL K=>S h Y K (λq=>et (bK P .empty .len [22] [L]) (bK P K .len [22] [L]) q) λau al=>S h Y al (k (w P .eql 3 Y au (J U 12))) λav s=>C (bC h (I av) (I (D X))) λM=>aO (I M) (j3 a N p n o aJ c M s) (i s (a 27 [aJ,Z [103,108,111,98,97,108]] s) λl W=>S l Y W (k (j P 26 c 1)) λaw z=>S l Y z (qr (A P z 23 aw)) λQ B=>S l Y B (λq=>et (bK P .empty .len [23] [Q]) (bK P B .len [23] [Q]) q) λay ab=>S l Y ab (k (w P .eql 3 Y ay (J U 8))) λaz v=>C (bC l (I az) (I (D X))) λR=>aO (I R) (j3 a N p n o aJ c R v) (i v (a 27 [aJ,Z [102,117,110,99]] v) λm ae=>S m Y ae (k (j P 26 c 2)) λaA E=>S m Y E (qr (A P E 24 aA)) λT F=>S m Y F (λq=>et (bK P .empty .len [24] [T]) (bK P F .len [24] [T]) q) λaB af=>S m Y af (k (w P .eql 3 Y aB (J U 16))) λaC ah=>C (bC m (I aC) (I (D X))) λaD=>j3 a N p n o aJ c aD ah))) (n4 a N n o aJ c y)
def mw(a:e)(N:Nat):Nat->aa->aa->aa->aa->ad->O
 |0,_,_,_,_,_=>u
 |n+1,c,d,aJ,h,H=>y2 a N (mw a N n) c d aJ h H
def aak(a:e)(N:Nat)(c:aa->aa->aa->aa->ad->O):∀V H,a7 P a N (d (d (d (L (L (L (L (L (n Tryz.f9))))))))) (λV H=>c (V 2) (V 3) (V 6) (V 7) H) [(0,(λV H=>n4 a N (V 2) (V 3) (V 6) (V 7) H))] (p Tryz.f9) V H=y2 a N c (V 2) (V 3) (V 6) (V 7) H:=by
 refine bm ((Q M ((cn M ((cn M ((Q M (aam a N c) (q _))))))) (q _))) λV H=> ?_
 delta y2;generalize n4 a N=h;generalize j3 a N c=i;revert h i;refine id ?_;intro h i;kernel_rfl
def fH(n:e)(N:Nat)(F:aa)(H:ad):O:=bn H [aa.ag,aa.ag,aa.ag] λl s=>bn s [J U 0,J U 0] λm o=>i o (n 24 [F] o) λq v=>C (dG q 0) λy=>C (dG q 1) λz=>bn v [J U 0,J U 0] λh p=>aG p (aB P p 29 h z) λa=>C (j P 29 h 0) λB=>C (A P a 27 B) λE=>C (w P .neq 27 Y E (J U 0)) λG=>aO (I G) (aG a (aB P a 26 l (.agg [aa.ag,aa.ag,aa.ag])) λc=>C (A P c 29 h) λk=>aG c (aB P c 29 m k) λd=>bif ((aZ (A P a 29 h) k&&(aZ (A P c 29 h) k&&Y))&&Y)then(C (A P d 26 l) λr=>C (A P d 29 m) λx=>I (.tuple [r,x],d))else u) (C (bA P 63 [(0,y)]) λK=>bO a (cg (a).next K) λL c=>bn c [aa.ag,aa.ag,aa.ag] λM d=>mw n N N l m L M d)
def Xx(N:Nat){F:aa}{H:ad}{r:aa×ad}(h:fH (al P aj) N F H=I r):al P aj 9 [F] H=I r:=bu N (S:=λa=>fH a N F H) Tryz.func9 (λa=>cG ((Q M ((Q M ((Q M ((Q M ((Q M ((Q M (aal a N) ((cn M ((cY (k:=λm V H=>mw a N m (V 2) (V 3) (V 6) (V 7) H) M (λV H=>M) (λm=>aak a N (mw a N m)))))))) (q _))) (q _))) (q _))) (q _))) (q _))) (by delta fH;generalize mw a N N=c;revert c;refine id ?_;intro c;kernel_rfl)) h
def mb(h:e)(N:Nat)(F d j:aa)(H:ad):O:=i H (h 31 [F,Z [125]] H) λl a=>C (A P a 41 j) λk=>aG a (aB P a 41 d k) λc=>C (A P c 41 d) λr=>I (r,c)
def Y1(a:e)(N:Nat):∀V H,a7 P a N (L (L (L (L (L (n Tryz.f29)))))) (p Tryz.f29) [] (p Tryz.f29) V H=mb a N (V 0) (V 2) (V 3) H:=by
 refine bm (q _) λV H=> ?_
 delta mb;kernel_rfl
def yc(a:e)(N:Nat)(K:aa->aa->aa->ad->O)(F x d:aa)(H:ad):O:=i H (a 25 [F] H) λm L=>S m Y L (bP F) λV s=>S m Y s (λq=>cZ s (a 27 [V,Z [125]] s) q) λW Q=>S m Y Q (k (cI .not W)) λab v=>C (bC m (I ab) (I (D X))) λae=>aO (I ae) (i v (a 26 [F] v) λaf R=>C (ca P 57 af 0) λah=>C (w P .eql 3 Y ah (J U 1)) λl=>S l Y R (k (j P 41 d 1)) λai B=>S l Y B (qr (A P B 23 ai)) λG E=>S l Y E (λq=>et (bK P .empty .len [23] [G]) (bK P E .len [23] [G]) q) λaj T=>S l Y T (k (w P .eql 3 Y aj (J U 8))) λak h=>C (bC l (I ak) (I (D X))) λal=>aO (I al) (i h (a 28 [F,J U 4] h) λaq c=>mb a N F x d c) (i h (a 30 [F] h) λam c=>C (j P 41 d 1) λn=>C (A P c 23 n) λo=>bO c (b0 P (c).next 23 1 [(0,am)]) λan p=>i p (c_ P p [23,23] o an) λao y=>C (j P 41 d 1) λap=>aG y (aB P y 23 ap ao) λz=>bif ((aZ (A P h 23 n) o&&(aZ (A P c 23 n) o&&(aZ (A P p 23 n) o&&Y)))&&Y)then(i z (a 31 [F,Z [59]] z) λar M=>K F x d M)else u)) (mb a N F x d v)
def nK(a:e)(N:Nat):Nat->aa->aa->aa->ad->O
 |0,_,_,_,_=>u
 |n+1,F,c,d,H=>yc a N (nK a N n) F c d H
def Y0(a:e)(N:Nat)(h:aa->aa->aa->ad->O):∀V H,a7 P a N (d (d (d (L (L (L (L (n Tryz.f29)))))))) (λV H=>h (V 0) (V 2) (V 3) H) [(0,(λV H=>mb a N (V 0) (V 2) (V 3) H))] (p Tryz.f29) V H=yc a N h (V 0) (V 2) (V 3) H:=by
 refine bm (q _) λV H=> ?_
 delta yc;generalize mb a N=c;revert c;refine id ?_;intro c;kernel_rfl
def yb(a:e)(N:Nat)(F:aa)(H:ad):O:=bn H [Z [],aa.ag,J U 0] λq d=>i d (a 26 [F] d) λs n=>C (ca P 57 s 3) λaJ=>C (bA P 41 [(2,aJ)]) λv=>bn n [Z [],aa.ag,J U 0] λc h=>aG h (aB P h 41 c v) λk=>i k (a 59 [F] k) λw l=>C (j P 41 c 0) λp=>aG l (aB P l 9 p w) λm=>i m (a 31 [F,Z [123]] m) λx o=>nK a N N F q c o
def WA(N:Nat){F:aa}{H:ad}{r:aa×ad}(h:yb (al P aj) N F H=I r):al P aj 29 [F] H=I r:=bu N (S:=λa=>yb a N F H) Tryz.func29 (λa=>cG ((Q M ((Q M ((Q M ((Q M ((Q M (Y1 a N) ((cn M ((cY (k:=λm V H=>nK a N m (V 0) (V 2) (V 3) H) M (λV H=>M) (λm=>Y0 a N (nK a N m)))))))) (q _))) (q _))) (q _))) (q _))) (by delta yb;generalize nK a N N=c;revert c;refine id ?_;intro c;kernel_rfl)) h
def yd(a:e)(F:aa)(H:ad):O:=bn H [Z [],Z [],J U 0,J U 0] λs h=>i h (a 26 [F] h) λB v=>C (ca P 57 B 3) λaJ=>C (bA P 66 [(2,aJ)]) λE=>bn v [Z [],Z [],J U 0,J U 0] λc l=>aG l (aB P l 66 c E) λm=>i m (a 59 [F] m) λG n=>C (j P 66 c 0) λw=>aG n (aB P n 9 w G) λo=>i o (a 31 [F,Z [58]] o) λK p=>i p (a 60 [F] p) λx q=>C (j P 66 c 1) λy=>aG q (aB P q 43 y x) λd=>C (A P d 66 c) λz=>aG d (aB P d 66 s z) λk=>C (A P k 66 s) λr=>I (r,k)
def WB(N:Nat){F:aa}{H:ad}{r:aa×ad}(h:yd (al P aj) F H=I r):al P aj 30 [F] H=I r:=bu N (S:=λa=>yd a F H) Tryz.func30 (λ_=>by delta yd;kernel_rfl) h
def pH(l:e)(N:Nat)(F h k:aa)(H:ad):O:=i H (l 61 [F] H) λm c=>C (j P 46 k 4) λn=>aG c (aB P c 44 n m) λa=>C (A P a 46 k) λo=>aG a (aB P a 46 h o) λd=>C (A P d 46 h) λr=>I (r,d)
def Y4(a:e)(N:Nat):∀V H,a7 P a N (L (L (L (L (L (L (L (n Tryz.f32)))))))) (p Tryz.f32) [] (p Tryz.f32) V H=pH a N (V 0) (V 2) (V 3) H:=by
 refine bm (q _) λV H=> ?_
 delta pH;kernel_rfl
def lr(a:e)(N:Nat)(F n d:aa)(H:ad):O:=i H (a 31 [F,Z [41]] H) λK h=>i h (a 27 [F,Z [58]] h) λp c=>aO (I p) (C (bd F) λq=>C (j P 63 q 1) λs=>C (A P c 3 s) λv=>C (w P .add 3 Y v (J U 1)) λx=>C (bd F) λy=>C (j P 63 y 1) λz=>aG c (aB P c 3 z x) λk=>C (j P 46 d 2) λB=>aG k (aB P k 4 B (D Y)) λl=>i l (a 60 [F] l) λE m=>C (j P 46 d 3) λG=>aG m (aB P m 43 G E) λo=>pH a N F n d o) (pH a N F n d c)
def Y3(a:e)(N:Nat):∀V H,a7 P a N (L (L (L (L (L (n Tryz.f32)))))) (p Tryz.f32) [] (p Tryz.f32) V H=lr a N (V 0) (V 2) (V 3) H:=by
 refine bm ((Q M ((Q M (Y4 a N) (q _))) (q _))) λV H=> ?_
 delta lr;generalize pH a N=c;revert c;refine id ?_;intro c;kernel_rfl
def yf(a:e)(N:Nat)(s:aa->aa->aa->ad->O)(F l c:aa)(H:ad):O:=i H (a 25 [F] H) λn R=>S n Y R (bP F) λae z=>S n Y z (λq=>cZ z (a 27 [ae,Z [41]] z) q) λaf V=>S n Y V (k (cI .not af)) λah B=>C (bC n (I ah) (I (D X))) λai=>aO (I ai) (i B (a 26 [F] B) λaj W=>C (ca P 57 aj 0) λak=>C (w P .eql 3 Y ak (J U 1)) λm=>S m Y W (k (j P 46 c 1)) λal L=>S m Y L (qr (A P L 23 al)) λQ M=>S m Y M (λq=>et (bK P .empty .len [23] [Q]) (bK P M .len [23] [Q]) q) λam ab=>S m Y ab (k (w P .eql 3 Y am (J U 6))) λan h=>C (bC m (I an) (I (D X))) λao=>aO (I ao) (i h (a 28 [F,J U 4] h) λaz d=>lr a N F l c d) (i h (a 30 [F] h) λap d=>C (j P 46 c 1) λo=>C (A P d 23 o) λp=>bO d (b0 P (d).next 23 1 [(0,ap)]) λaq v=>i v (c_ P v [23,23] p aq) λar E=>C (j P 46 c 1) λau=>aG E (aB P E 23 au ar) λG=>bif ((aZ (A P h 23 o) p&&(aZ (A P d 23 o) p&&(aZ (A P v 23 o) p&&Y)))&&Y)then(i G (a 27 [F,Z [41]] G) λav x=>C (cI .not av) λaw=>aO (I aw) (i x (a 31 [F,Z [44]] x) λaA K=>i K (a 27 [F,Z [41]] K) λay y=>aO (I ay) (i y (a 28 [F,J U 2] y) λaC T=>s F l c T) (s F l c y)) (s F l c x))else u)) (lr a N F l c B)
def ls(a:e)(N:Nat):Nat->aa->aa->aa->ad->O
 |0,_,_,_,_=>u
 |n+1,F,c,d,H=>yf a N (ls a N n) F c d H
def Y2(a:e)(N:Nat)(h:aa->aa->aa->ad->O):∀V H,a7 P a N (d (d (d (L (L (L (L (n Tryz.f32)))))))) (λV H=>h (V 0) (V 2) (V 3) H) [(0,(λV H=>lr a N (V 0) (V 2) (V 3) H))] (p Tryz.f32) V H=yf a N h (V 0) (V 2) (V 3) H:=by
 refine bm (q _) λV H=> ?_
 delta yf;generalize lr a N=c;revert c;refine id ?_;intro c;kernel_rfl
def ye(a:e)(N:Nat)(F:aa)(H:ad):O:=bn H [Z [],aa.ag,D X,Z [],J U 0,aa.ag,J U 0] λq d=>i d (a 26 [F] d) λs n=>C (ca P 57 s 3) λaJ=>C (bA P 46 [(5,aJ)]) λv=>bn n [Z [],aa.ag,D X,Z [],J U 0,aa.ag,J U 0] λc h=>aG h (aB P h 46 c v) λk=>i k (a 59 [F] k) λw l=>C (j P 46 c 0) λp=>aG l (aB P l 9 p w) λm=>i m (a 31 [F,Z [40]] m) λx o=>ls a N N F q c o
def WD(N:Nat){F:aa}{H:ad}{r:aa×ad}(h:ye (al P aj) N F H=I r):al P aj 32 [F] H=I r:=bu N (S:=λa=>ye a N F H) Tryz.func32 (λa=>cG ((Q M ((Q M ((Q M ((Q M ((Q M (Y3 a N) ((cn M ((cY (k:=λm V H=>ls a N m (V 0) (V 2) (V 3) H) M (λV H=>M) (λm=>Y2 a N (ls a N m)))))))) (q _))) (q _))) (q _))) (q _))) (by delta ye;generalize ls a N N=c;revert c;refine id ?_;intro c;kernel_rfl)) h
end
end
section
variable {H H':ad}{r:Nat}{T:List Tok}{af:aa}{s s':am}
def Cg(h:bF H r T af s):W (al P aj 30 [.ptr r 0 0] H) λv H'=>v= .agg (cO T s).1.cells/\bs r H H'/\bF H' r T af (cO T s).2:=by
 refine bt (λ_=>WB 0) ?_;have ak:=h.rd.lt;have j:=aw.push H (.row X 4 [[Z [],Z [],J U 0,J U 0]]);have Q:=ad.a_ H (.row X 4 [[Z [],Z [],J U 0,J U 0]]);simp(disch:=try exact ah)only[yd,aR,lm,hi,mn,cd];refine aA (im (h.rd.av j) (h.av j).ba) ?_;rintro _ H1 ⟨rfl,i⟩;refine⟨i.1,?_⟩;have au:=i.1;simp only[ad.bb]at au;have N:=(h.av j).av i;have R:=i.get Q;unfold cO cT;generalize G T s.at_=q;obtain⟨k,x,z,p⟩:=q;have w:=aw.push H1 (.row X 4 [[Z [],Z [],J U 0,J U p]]);have am:=ad.a_ H1 (.row X 4 [[Z [],Z [],J U 0,J U p]])
 simp(disch:=try exact ah)only[aR,cX,bL,aB,bL,cd,aa.cells,cD,cw,b7,Tok.v];refine aA (np (N.av w)) ?_;rintro _ A ⟨rfl,a,m⟩;refine⟨a.1,?_⟩;have ay:=a.1;simp only[ad.bb]at ay;have S:=a.get (w.get R) ae;have E:=a.get am ae;have dt:=ad.aF E;generalize bv T s=o at m ⊢;obtain⟨nm,M⟩:=o;simp only at m ⊢;have ap:=((((j.mut (· =r)).trans (i.mut _)).trans (w.mut _)).trans a);have K:=ap.bH (l:=H1.next) (.inr ae) (.row X 4 [[Z nm,Z [],J U 0,J U p]]);have O:=h.mut K (show bE _ r af M by unfold bE;rw[ad.get_set_other ae];exact m.rd);have V:(A.set H1.next (.row X 4 [[Z nm,Z [],J U 0,J U p]])).get H.next=I (.row X 4 [[Z [],Z [],J U 0,J U 0]]):=by rw[ad.get_set_other ae];exact S
 have an:(A.set H1.next (.row X 4 [[Z nm,Z [],J U 0,J U p]])).get H1.next=I (.row X 4 [[Z nm,Z [],J U 0,J U p]]):=ad.get_set_same dt
 simp(disch:=try exact ah)only[aR,cX,bL,aB,bL,de,aa.cells,cD,cw,E];refine aA (g5 O [58] (by simp)) ?_;rintro _ aE ⟨rfl,c,B⟩;refine⟨c.1,?_⟩;have az:=c.1;simp only[ad.cL]at az;have ab:=c.get V ae;have ao:=c.get an ae;generalize bg T [58] M=aC at B ⊢;simp(disch:=try exact ah)only[aR];refine aA (tO B) ?_;rintro _ aG ⟨rfl,e,n⟩;refine⟨e.1,?_⟩;have aJ:=e.1;have C:=e.get ab ae;have F:=e.get ao ae;have aH:=ad.aF C;have aI:=ad.aF F;generalize cz T aC=o at n ⊢;obtain⟨⟨y,d⟩,aK⟩:=o;simp only at n ⊢;have aq:=(K.trans c).trans e;have ar:=aq.bH (l:=H1.next) (.inr ae) (.row X 4 [[Z nm,Z y,J U d,J U p]])
 have L:=ar.bH (l:=H.next) (.inr (aV _)) (.row X 4 [[Z nm,Z y,J U d,J U p]]);simp(disch:=try exact ah)only[cd,de,ai,C,F];exact aD.2 ⟨rfl,L,h.mut L (by unfold bE;rw[ad.get_set_other ae,ad.get_set_other ae];exact n.rd)⟩
end
section
variable {H H' H1:ad}{r:Nat}{T:List Tok}{af:aa}{s s':am}
def bF.oA{s0:am}(h:bF H1 r T af s0)(m:hN r H1.next H1 H')(a:bE H' r af s'):bF H' r T af s':=
 ⟨a,h.ba.aP λl ro els e=>m.get e (by
  have:=ad.aF e;rintro(rfl|c)
  ·rw[h.rd]at e;simp only[aT,b_.row.injEq]at e;omega
  ·omega)⟩
structure gG(H1 H:ad)(r b c n2 esz:Nat)(T:List Tok)(af:aa)(z:List aa)(x:aa)(rest:List aa)(l:List bq)(v:aa)(s:am):Prop where
 E:bF H r T af s
 two:H.get b=some (.row false esz [z])
 cell:H.get c=some (.row false esz [x::v::rest])
 d_:c1 cQ (aW n2) H l v
 m:hN r H1.next H1 H
 br:r<H1.next
 bI:H1.next<=b
 hZ:b<c
 b2:c<n2
 cM:n2<=H.next
variable {b c n2 esz:Nat}{z:List aa}{x:aa}{rest:List aa}{l:List bq}{v:aa}
def gG.mut(h:gG H1 H r b c n2 esz T af z x rest l v s)(m:bs r H H')(E:bF H' r T af s'):gG H1 H' r b c n2 esz T af z x rest l v s':=by
 have br:=h.br;have bI:=h.bI;have b2:=h.b2;have cM:=h.cM;have hZ:=h.hZ;exact⟨E,m.get h.two ae,m.get h.cell ae,h.d_.aP (ce.mut m λk a=>by unfold aW at a;omega),h.m.trans m.oO,br,bI,hZ,b2,by have:=m.1;omega⟩
def gG.add{s0:am}(w:bF H1 r T af s0)(h:gG H1 H r b c n2 esz T af z x rest l v s)(ak:l.length<=1000000000)(p:bq):
  ∃i H',c_ P (H.push (.row X 4 [p.cells])) [23,23] v (.ax H.next 0 1 4 (I 1))=I (i,H')/\H.next+1<=H'.next/\i.one=Y/\H'.get c=I (.row X esz [x::v::rest])/\(H.push (.row X 4 [p.cells])).get c=I (.row X esz [x::v::rest])/\gG H1 (H'.set c (.row X esz [x::i::rest])) r b c n2 esz T af z x rest (l++[p]) i s:=by
 have br:=h.br;have bI:=h.bI;have b2:=h.b2;have cM:=h.cM;have hZ:=h.hZ;obtain⟨i,H',a,n,q,d⟩:=h.d_.pm p (by unfold aW;omega) ak;have gc:H'.get c=I (.row X esz [x::v::rest]):=by rw[d c ae (by unfold aW;omega)];exact h.cell
 have lc:=ad.aF gc;have o:hN r H1.next H1 (H'.set c (.row X esz [x::i::rest])):=h.m.trans ⟨by simp;omega,λk j au=>by
  have y:k≠r:=λe=>au (.inl e)
  have A:¬H1.next<=k:=λe=>au (.inr e)
  rw[ad.get_set_other ae,d k j (by unfold aW;omega)]⟩
 refine⟨i,H',a,q,n.one,gc,(aw.push _ _).get h.cell,?_,by rw[ad.get_set_other ae,d b ae (by unfold aW;omega)];exact h.two,ad.get_set_same lc,n.aP λk x j g=>⟨j,by unfold aW at j;rw[ad.get_set_other ae];exact g⟩,o,br,bI,hZ,b2,by simp;omega⟩;exact w.oA o (by unfold bE;rw[ad.get_set_other ae,d r ae (by unfold aW;omega)];exact h.E.rd)
def Me{N:Nat}{Q:aa->ad->Prop}{nm:ay}{aN:Int}{s0:am}(au:bF H1 r T af s0){l':List bq}
  (F:∀H v,gG H1 H r b c n2 3 T af z (Z nm) [J U aN] l' v s'->W (mb (al P aj) N (.ptr r 0 0) (.ptr b 0 0) (.ptr c 0 0) H) Q):
  ∀(n m:Nat) (H:ad) (s:am) (l:List bq) (v:aa),n<m->l.length+n<=1000000000->gG H1 H r b c n2 3 T af z (Z nm) [J U aN] l v s->gg T n l s=I (l',s')->W (nK (al P aj) N m (.ptr r 0 0) (.ptr b 0 0) (.ptr c 0 0) H) Q
 |_,0,_,_,_,_,aX,_,_,_=>ae
 |0,m+1,_,_,_,_,_,_,_,a=>by cases a
 |n+1,m+1,H,s,l,v,aX,be,h,a=>by
  rw[gg]at a;rw[nK];unfold yc;refine aA (lj h.E.rd) ?_;rintro _ a9 ⟨rfl,rfl⟩;refine⟨aV _,?_⟩;by_cases ar:s.an=0
  ·have e:(s.an==0)=true:=by simpa using ar
   simp(disch:=try exact ah)only[aR,e];refine dZ (dD h.E.rd h.E.ba [125] (by simp)) ?_;rintro _ a_ ⟨rfl,V⟩;refine⟨V.1,?_⟩;have w:=h.mut (V.mut _) (h.E.av V);rw[e,fg]at a;cases aI:aS T s [125]with
   |true=>
    rw[aI]at a;cases a;simp(disch:=try exact ah)only[aR,e,jk];exact F _ _ w
   |false=>
    rw[aI,gh,aK]at a;simp(disch:=try exact ah)only[aR,e,gh];refine aA (im w.E.rd w.E.ba) ?_;rintro _ o ⟨rfl,ab⟩;refine⟨ab.1,?_⟩;have d:=w.mut (ab.mut _) (w.E.av ab);have aF:=λH'=>d.d_.hY H'
    have bf:=d.d_.rd;have O:=d.cell;have bg:=d.d_.one;have go:((G T s.at_).kind==1&&l.length==8)=Y->W (i o (al P aj 28 [.ptr r 0 0,J U 4] o) λbi k=>mb (al P aj) N (.ptr r 0 0) (.ptr b 0 0) (.ptr c 0 0) k) Q:=λS=>by
     rw[S,aK]at a;cases a;refine aA (kx d.E 4) ?_;rintro _ bc ⟨rfl,aJ,a1⟩;exact⟨aJ.1,F _ _ (d.mut aJ a1)⟩
    have y:((G T s.at_).kind==1&&l.length==8)=X->W (i o (al P aj 30 [.ptr r 0 0] o) λa5 k=>
      C (j P 41 (.ptr c 0 0) 1) λK=>C (A P k 23 K) λL=>bO k (b0 P (k).next 23 1 [(0,a5)]) λa6 M=>i M (c_ P M [23,23] L a6) λa7 aw=>C (j P 41 (.ptr c 0 0) 1) λa8=>aG aw (aB P aw 23 a8 a7) λaz=>
      bif ((aZ (A P o 23 K) L&&(aZ (A P k 23 K) L&&(aZ (A P M 23 K) L&&Y)))&&Y)then(i az (al P aj 31 [.ptr r 0 0,Z [59]] az) λbj aU=>nK (al P aj) N m (.ptr r 0 0) (.ptr b 0 0) (.ptr c 0 0) aU)else u) Q:=λS=>by
     rw[S,aH]at a;refine aA (Cg d.E) ?_;rintro _ ao ⟨rfl,aL,a2⟩;refine⟨aL.1,?_⟩;have B:=d.mut aL a2;have aW:=B.cell;have aY:=B.d_.rd;generalize cO T s=q at B a;obtain⟨p,bh⟩:=q;obtain⟨a4,aO,aQ,aT,aq,ap,aE,aC⟩:=B.add au ae p;have a0:=lB k9 ao.next (cs:=p.cells) rfl rfl
     have bd:(ao.push (.row X 4 [p.cells])).next<=aO.next:=by simp only[ad.bb];exact aT
     have aD:=gf aq;simp only[aa.cells]at aD;simp(disch:=try exact ah)only[aR,cX,A,bL,aB,bL,cd,de,aa.cells,cD,cw,aD,aW,a0,aQ,gF,ap,aE,aq,aY,O];refine aA (g5 aC.E [59] (by simp)) ?_;rintro _ aP ⟨rfl,aM,a3⟩;refine⟨aM.1,?_⟩;exact Me au F n m aP _ _ a4 ae (by simp;omega) (aC.mut aM a3) a
    cases x:(G T s.at_).kind==1 with
    |true=>
     rw[x]at go y;cases ak:l.length==8 with
     |true=>
      have R:((l.length:Int)==8)=true:=by
       have:l.length=8:=by simpa using ak
       simp;omega
      rw[ak]at go;simp(disch:=try exact ah)only[ai,Tok.v,O,aF,x,R];exact go rfl
     |false=>
      have R:((l.length:Int)==8)=false:=by
       have:l.length≠8:=by simpa using ak
       simp;omega
      rw[ak]at y;simp(disch:=try exact ah)only[ai,Tok.v,O,aF,x,R];exact y rfl
    |false=>
     rw[x]at y;simp(disch:=try exact ah)only[ai,Tok.v,x];exact y rfl
  ·have e:(s.an==0)=false:=by simpa using ar
   rw[e]at a;cases a;simp(disch:=try exact ah)only[aR,e];exact F _ _ h
end
section
variable {H H' H1:ad}{r:Nat}{T:List Tok}{af:aa}{s s':am}
def hN.mt(m:hN r H.next H H'):bs r H H':=⟨m.1,λl ak au=>m.2 l ak λe=>by
 rcases e with e|e
 ·exact au e
 ·omega⟩
def Ve{n:Nat}(aM:n<=1000000000)(h:bF H r T af s){x:dB}(N:hI T n s=I (x,s')):W (al P aj 29 [.ptr r 0 0] H) λv H'=>(∃cs,v= .agg cs/\dq.V H' (aW H.next) x cs)/\bs r H H'/\bF H' r T af s':=by
 refine bt (λ_=>WA (n+1)) ?_;have ak:=h.rd.lt;unfold hI at N;obtain⟨⟨l',an⟩,y,O⟩:=ct.1 N;simp only[aT,bS]at O;obtain⟨rfl,rfl⟩:=O;have i:=aw.push H (.row X 3 [[Z [],.ag,J U 0]]);have au:=ad.a_ H (.row X 3 [[Z [],.ag,J U 0]]);simp(disch:=try exact ah)only[yb,aR,lm,hi,mn,cd];refine aA (im (h.rd.av i) (h.av i).ba) ?_;rintro _ H1 ⟨rfl,e⟩;refine⟨e.1,?_⟩;have aO:=e.1;simp only[ad.bb]at aO;have ao:=(h.av i).av e;have ay:=e.get au;generalize G T s.at_=q;obtain⟨k,x,z,p⟩:=q;have B:=aw.push H1 (.row X 3 [[Z [],.ag,J U p]])
 have aH:=ad.a_ H1 (.row X 3 [[Z [],.ag,J U p]]);simp(disch:=try exact ah)only[aR,cX,bL,aB,bL,cd,aa.cells,cD,cw,b7,Tok.v];refine aA (np (ao.av B)) ?_;rintro _ C ⟨rfl,c,w⟩;refine⟨c.1,?_⟩;have aQ:=c.1;simp only[ad.bb]at aQ;have az:=c.get (B.get ay) ae;have M:=c.get aH ae;have dt:=ad.aF M;generalize bv T s=o at w y ⊢;obtain⟨nm,am⟩:=o;simp only at w y ⊢;have aN:=((((i.mut (· =r)).trans (e.mut _)).trans (B.mut _)).trans c);have S:=aN.bH (l:=H1.next) (.inr ae) (.row X 3 [[Z nm,.ag,J U p]]);have ap:=h.mut S (show bE _ r af am by unfold bE;rw[ad.get_set_other ae];exact w.rd)
 have aC:(C.set H1.next (.row X 3 [[Z nm,.ag,J U p]])).get H.next=I (.row X 3 [[Z [],.ag,J U 0]]):=by rw[ad.get_set_other ae];exact az
 have aI:(C.set H1.next (.row X 3 [[Z nm,.ag,J U p]])).get H1.next=I (.row X 3 [[Z nm,.ag,J U p]]):=ad.get_set_same dt
 simp(disch:=try exact ah)only[aR,cX,bL,aB,bL,de,aa.cells,cD,cw,M];refine aA (g5 ap [123] (by simp)) ?_;rintro _ j ⟨rfl,d,aq⟩;refine⟨d.1,?_⟩;have aS:=d.1;simp only[ad.cL]at aS;have aE:=d.get aC ae;have aJ:=d.get aI ae;have fF:gG H j r H.next H1.next j.next 3 T af [Z [],.ag,J U 0] (Z nm) [J U p] [] .ag (bg T [123] am):=⟨aq,aE,aJ,.nil,bs.oO (S.trans d),ak,aV _,ae,ae,aV _⟩
 refine Me h (s':=an) (l':=l') (λaU v K=> ?_) n (n+1) j _ [] .ag (xy _) (by simpa using aM) fF y;unfold mb;refine aA (g5 K.E [125] (by simp)) ?_;rintro _ F ⟨rfl,R,e0⟩;refine⟨R.1,?_⟩;have a:=K.mut R e0;have L:=a.two;have aK:=a.cell;have ai:=a.d_.one;have aX:=ad.aF L;have aL:=gf ai;simp only[aa.cells]at aL;have ab:hN r H.next H (F.set H.next (.row X 3 [[Z nm,v,J U p]])):=a.m.bH (.inr (aV _)) _
 have ar:=h.oA ab (s':=bg T [125] an) (by unfold bE;rw[ad.get_set_other ae];exact a.E.rd);have aG:c1 cQ (aW H.next) (F.set H.next (.row X 3 [[Z nm,v,J U p]])) l' v:=a.d_.aP λk x Q g=>⟨by unfold aW at Q ⊢;omega,by have:=a.cM;unfold aW at Q;rw[ad.get_set_other ae];exact g⟩
 simp(disch:=try exact ah)only[aR,A,bL,aB,bL,cd,aa.cells,cD,cw,b7,L,aK,ai];exact aD.2 ⟨⟨_,rfl,v,rfl,aG.ax⟩,ab.mt,ar⟩
end
section
set_option maxRecDepth 100000
noncomputable section
def pQ(a:e)(N:Nat)(F d:aa)(H:ad):O:=i H (a 85 [F,Z [125]] H) λh c=>I (d,c)
def ZG(a:e)(N:Nat):∀V H,a7 P a N (L (L (L (L (n Tryz.f61))))) (p Tryz.f61) [] (p Tryz.f61) V H=pQ a N (V 0) (V 3) H:=by
 refine bm (q _) λV H=> ?_
 delta pQ;kernel_rfl
def yy(a:e)(N:Nat)(n:aa->aa->ad->O)(F m:aa)(H:ad):O:=i H (a 25 [F] H) λc o=>S c Y o (bP F) λB d=>S c Y d (λq=>cZ d (a 27 [B,Z [125]] d) q) λv p=>S c Y p (k (cI .not v)) λw h=>C (bC c (I w) (I (D X))) λx=>aO (I x) (i h (a 84 [F] h) λy j=>bO j (b0 P (j).next 44 1 [(0,y)]) λz l=>i l (c_ P l [44,44] m z) λA s=>n F A s) (pQ a N F m h)
def pR(a:e)(N:Nat):Nat->aa->aa->ad->O
 |0,_,_,_=>u
 |n+1,F,c,H=>yy a N (pR a N n) F c H
def ZF(a:e)(N:Nat)(h:aa->aa->ad->O):∀V H,a7 P a N (d (d (d (L (L (L (n Tryz.f61))))))) (λV H=>h (V 0) (V 3) H) [(0,(λV H=>pQ a N (V 0) (V 3) H))] (p Tryz.f61) V H=yy a N h (V 0) (V 3) H:=by
 refine bm (q _) λV H=> ?_
 delta yy;generalize pQ a N=c;revert c;refine id ?_;intro c;kernel_rfl
def yx(a:e)(N:Nat)(F:aa)(H:ad):O:=i H (a 83 [F,Z [123]] H) λd c=>pR a N N F aa.ag c
def W5(N:Nat){F:aa}{H:ad}{r:aa×ad}(h:yx (al P aj) N F H=I r):al P aj 61 [F] H=I r:=bu N (S:=λa=>yx a N F H) Tryz.func61 (λa=>cG ((Q M ((Q M ((Q M ((Q M (ZG a N) ((cn M ((cY (k:=λm V H=>pR a N m (V 0) (V 3) H) M (λV H=>M) (λm=>ZF a N (pR a N m)))))))) (q _))) (q _))) (q _))) (by delta yx;generalize pR a N N=c;revert c;refine id ?_;intro c;kernel_rfl)) h
def gY(i:e)(c h:aa)(H:ad):O:=C (A P H 98 h) λd=>aG H (aB P H 98 c d) λa=>C (A P a 98 c) λr=>I (r,a)
def Z0(a:e)(N:Nat):∀V H,a7 P a N (L (L (L (L (n Tryz.f84))))) (p Tryz.f84) [] (p Tryz.f84) V H=gY a (V 2) (V 4) H:=by
 refine bm (q _) λV H=> ?_
 delta gY;kernel_rfl
def pY(a:e)(F d h:aa)(H:ad):O:=i H (a 31 [F,Z [59]] H) λj c=>gY a d h c
def Z2(a:e)(N:Nat):∀V H,a7 P a N (L (L (L (L (L (L (d (L (d (d (L (L (L (n Tryz.f84)))))))))))))) (λV H=>gY a (V 2) (V 4) H) [(0,(λV H=>gY a (V 2) (V 4) H))] (p Tryz.f84) V H=pY a (V 0) (V 2) (V 4) H:=by
 refine bm (q _) λV H=> ?_
 delta pY;generalize gY a=c;revert c;refine id ?_;intro c;kernel_rfl
def pZ(a:e)(F d h:aa)(H:ad):O:=i H (a 31 [F,Z [59]] H) λj c=>gY a d h c
def Z3(a:e)(N:Nat):∀V H,a7 P a N (L (L (L (d (L (L (L (L (L (L (L (d (d (L (L (L (n Tryz.f84))))))))))))))))) (λV H=>gY a (V 2) (V 4) H) [(0,(λV H=>gY a (V 2) (V 4) H))] (p Tryz.f84) V H=pZ a (V 0) (V 2) (V 4) H:=by
 refine bm (q _) λV H=> ?_
 delta pZ;generalize gY a=c;revert c;refine id ?_;intro c;kernel_rfl
def mr(a:e)(F q:aa)(aA c an:aa)(H:ad):O:=aO (I an) (C (bd F) λao=>C (j P 63 ao 1) λap=>C (A P H 3 ap) λaq=>C (w P .add 3 Y aq (J U 1)) λar=>C (bd F) λau=>C (j P 63 au 1) λav=>aG H (aB P H 3 av ar) λs=>C (j P 98 c 0) λaw=>aG s (aB P s 3 aw (J U 1)) λp=>i p (a 59 [F] p) λay m=>C (j P 98 c 1) λaz=>aG m (aB P m 9 az ay) λd=>i d (a 31 [F,Z [58]] d) λbq k=>i k (a 60 [F] k) λaC h=>C (j P 98 c 2) λaD=>aG h (aB P h 43 aD aC) λl=>C (j P 57 aA 1) λaE=>C (A P l 9 aE) λaF=>C (w P .eql 9 Y aF (Z [108,101,116])) λaH=>aO (I aH) (C (j P 98 c 0) λaI=>aG l (aB P l 3 aI (J U 2)) λn=>i n (a 31 [F,Z [61]] n) λbr o=>i o (a 109 [F,J U 0] o) λaJ v=>bO v (b0 P (v).next 96 1 [(0,aJ)]) λaK x=>C (j P 98 c 3) λaL=>aG x (aB P x 96 aL aK) λy=>pY a F q c y) (pY a F q c l)) (i H (a 27 [F,Z [105,102]] H) λaM s=>aO (I aM) (C (bd F) λaN=>C (j P 63 aN 1) λaP=>C (A P s 3 aP) λaQ=>C (w P .add 3 Y aQ (J U 1)) λaR=>C (bd F) λaS=>C (j P 63 aS 1) λaT=>aG s (aB P s 3 aT aR) λp=>C (j P 98 c 0) λaU=>aG p (aB P p 3 aU (J U 5)) λm=>i m (a 109 [F,J U 0] m) λaV d=>bO d (b0 P (d).next 96 1 [(0,aV)]) λaW k=>C (j P 98 c 3) λaX=>aG k (aB P k 96 aX aW) λh=>i h (a 61 [F] h) λaY l=>C (j P 98 c 4) λaZ=>aG l (aB P l 44 aZ aY) λn=>i n (a 27 [F,Z [101,108,115,101]] n) λa0 o=>aO (I a0) (C (bd F) λa1=>C (j P 63 a1 1) λa2=>C (A P o 3 a2) λa3=>C (w P .add 3 Y a3 (J U 1)) λa4=>C (bd F) λa5=>C (j P 63 a5 1) λa6=>aG o (aB P o 3 a6 a4) λv=>i v (a 61 [F] v) λa7 x=>C (j P 98 c 5) λa8=>aG x (aB P x 44 a8 a7) λy=>gY a q c y) (gY a q c o)) (i s (a 27 [F,Z [119,104,105,108,101]] s) λa9 p=>aO (I a9) (C (bd F) λa_=>C (j P 63 a_ 1) λba=>C (A P p 3 ba) λbb=>C (w P .add 3 Y bb (J U 1)) λbc=>C (bd F) λbe=>C (j P 63 be 1) λbf=>aG p (aB P p 3 bf bc) λm=>C (j P 98 c 0) λbg=>aG m (aB P m 3 bg (J U 6)) λd=>i d (a 109 [F,J U 0] d) λbh k=>bO k (b0 P (k).next 96 1 [(0,bh)]) λbi h=>C (j P 98 c 3) λbj=>aG h (aB P h 96 bj bi) λl=>i l (a 61 [F] l) λbk n=>C (j P 98 c 4) λbl=>aG n (aB P n 44 bl bk) λo=>gY a q c o) (i p (a 27 [F,Z [114,101,116,117,114,110]] p) λbm m=>aO (I bm) (C (bd F) λbn=>C (j P 63 bn 1) λbo=>C (A P m 3 bo) λz=>C (w P .add 3 Y z (J U 1)) λB=>C (bd F) λE=>C (j P 63 E 1) λG=>aG m (aB P m 3 G B) λd=>C (j P 98 c 0) λK=>aG d (aB P d 3 K (J U 7)) λk=>i k (a 27 [F,Z [59]] k) λL h=>C (cI .not L) λM=>aO (I M) (i h (a 109 [F,J U 0] h) λN l=>bO l (b0 P (l).next 96 1 [(0,N)]) λR n=>C (j P 98 c 3) λS=>aG n (aB P n 96 S R) λo=>pZ a F q c o) (pZ a F q c h)) (i m (a 27 [F,Z [112,114,105,110,116]] m) λT d=>aO (I T) (C (bd F) λV=>C (j P 63 V 1) λW=>C (A P d 3 W) λae=>C (w P .add 3 Y ae (J U 1)) λaf=>C (bd F) λah=>C (j P 63 ah 1) λai=>aG d (aB P d 3 ai af) λk=>C (j P 98 c 0) λaj=>aG k (aB P k 3 aj (J U 8)) λh=>i h (a 109 [F,J U 0] h) λak l=>bO l (b0 P (l).next 96 1 [(0,ak)]) λal n=>C (j P 98 c 3) λam=>aG n (aB P n 96 am al) λo=>i o (a 31 [F,Z [59]] o) λbp v=>gY a q c v) (C (A P d 98 c) λQ=>i d (a 110 [F,Q] d) λab k=>aG k (aB P k 98 q ab) λh=>C (A P h 98 q) λr=>I (r,h))))))
def Z1(a:e)(N:Nat):∀V H,a7 P a N (L (d (d (L (L (L (n Tryz.f84))))))) (λV H=>gY a (V 2) (V 4) H) [(0,(λV H=>gY a (V 2) (V 4) H))] (p Tryz.f84) V H=mr a (V 0) (V 2) (V 3) (V 4) (V 13) H:=by
 refine bm ((e6 M ((Q M ((Q M ((Q M ((Q M ((Q M ((Q M (Z2 a N) (q _))) (q _))) (q _))) (q _))) (q _))) (q _))) ((Q M ((e6 M (q _) ((Q M ((e6 M (q _) ((Q M ((e6 M ((Q M ((Q M ((Q M (Z3 a N) (q _))) (q _))) (q _))) (q _))) (q _))))) (q _))))) (q _))))) λV H=> ?_
 delta mr;generalize pZ a=c;generalize gY a=h;generalize pY a=i;revert c h i;refine id ?_;intro c h i;kernel_rfl
def yS(a:e)(F:aa)(H:ad):O:=bn H [J U 0,Z [],Z [],J U 0,aa.ag,aa.ag,aa.ag,J U 0,J U 0] λq k=>i k (a 26 [F] k) λaJ s=>bn s [J U 0,Z [],J U 0,J U 0] λc l=>aG l (aB P l 57 c aJ) λm=>C (j P 57 c 3) λx=>C (A P m 3 x) λy=>C (bA P 98 [(6,y)]) λz=>bn m [J U 0,Z [],Z [],J U 0,aa.ag,aa.ag,aa.ag,J U 0,J U 0] λh n=>aG n (aB P n 98 h z) λo=>i o (a 27 [F,Z [118,97,114]] o) λp d=>aO (I p) (mr a F q c h p d) (i d (a 27 [F,Z [108,101,116]] d) λw v=>mr a F q c h w v)
def Xr(N:Nat){F:aa}{H:ad}{r:aa×ad}(h:yS (al P aj) F H=I r):al P aj 84 [F] H=I r:=bu N (S:=λa=>yS a F H) Tryz.func84 (λa=>cG ((Q M ((Q M ((Q M ((Q M (Z0 a N) ((cn M ((Q M (Z1 a N) (q _))))))) (q _))) (q _))) (q _))) (by delta yS;generalize mr a=c;revert c;refine id ?_;intro c;kernel_rfl)) h
def nu(n:e)(F c:aa)(m o:aa)(H:ad):O:=i H (n 31 [F,Z [61]] H) λah p=>i p (n 109 [F,J U 0] p) λy x=>bn x [J U 0,J U 0,Z [],Z [],J U 0,aa.ag,J U 0,J U 0,J U 0,J U 0,J U 0] λaJ s=>aG s (aB P s 103 aJ y) λv=>i v (n 31 [F,Z [59]] v) λai l=>C (j P 103 o 0) λz=>C (A P l 3 z) λB=>C (w P .eql 3 Y B (J U 4)) λE=>aO (I E) (C (j P 98 c 0) λG=>aG l (aB P l 3 G (J U 3)) λa=>C (j P 103 o 2) λK=>C (A P a 9 K) λL=>C (j P 98 c 1) λM=>aG a (aB P a 9 M L) λd=>C (A P d 103 aJ) λN=>bO d (b0 P (d).next 96 1 [(0,N)]) λQ h=>C (j P 98 c 3) λR=>aG h (aB P h 96 R Q) λk=>C (A P k 98 c) λS=>aG k (aB P k 98 m S) λq=>C (A P q 98 m) λr=>I (r,q)) (C (j P 98 c 0) λT=>aG l (aB P l 3 T (J U 4)) λa=>C (A P a 103 o) λV=>C (A P a 103 aJ) λW=>bO a (b0 P (a).next 96 2 [(0,V),(1,W)]) λab d=>C (j P 98 c 3) λae=>aG d (aB P d 96 ae ab) λh=>C (A P h 98 c) λaf=>aG h (aB P h 98 m af) λk=>C (A P k 98 m) λr=>I (r,k))
def X1(a:e)(N:Nat):∀V H,a7 P a N (L (L (L (L (n Tryz.f110))))) (p Tryz.f110) [] (p Tryz.f110) V H=nu a (V 0) (V 3) (V 4) (V 5) H:=by
 refine bm (q _) λV H=> ?_
 delta nu;kernel_rfl
def rA(h:e)(F o:aa)(p a:aa)(H:ad):O:=C (j P 103 a 0) λy=>C (A P H 3 y) λz=>C (w P .neq 3 Y z (J U 4)) λc=>S c Y H (k (j P 103 a 0)) λB m=>S c Y m (qr (A P m 3 B)) λE q=>S c Y q (k (w P .neq 3 Y E (J U 5))) λG s=>C (bC c (I G) (I (D X))) λd=>S d Y s (k (j P 103 a 0)) λK n=>S d Y n (qr (A P n 3 K)) λL v=>S d Y v (k (w P .neq 3 Y L (J U 6))) λM l=>C (bC d (I M) (I (D X))) λN=>aO (I N) (i l (h 28 [F,J U 2] l) λQ x=>nu h F o p a x) (nu h F o p a l)
def X0(a:e)(N:Nat):∀V H,a7 P a N (L (L (L (n Tryz.f110)))) (p Tryz.f110) [] (p Tryz.f110) V H=rA a (V 0) (V 3) (V 4) (V 5) H:=by
 refine bm ((Q M (X1 a N) (q _))) λV H=> ?_
 delta rA;generalize nu a=c;revert c;refine id ?_;intro c;kernel_rfl
def nv(h:e)(F k d:aa)(H:ad):O:=i H (h 31 [F,Z [59]] H) λl a=>C (A P a 98 k) λj=>aG a (aB P a 98 d j) λc=>C (A P c 98 d) λr=>I (r,c)
def X2(a:e)(N:Nat):∀V H,a7 P a N (L (L (L (d (L (d (L (L (n Tryz.f110))))))))) (λV H=>rA a (V 0) (V 3) (V 4) (V 5) H) [] (p Tryz.f110) V H=nv a (V 0) (V 3) (V 4) H:=by
 refine bm (q _) λV H=> ?_
 delta nv;kernel_rfl
def wV(a:e)(F y:aa)(H:ad):O:=bO H (cg (H).next y) λc B=>bn B [J U 0,Z [],Z [],J U 0,aa.ag,aa.ag,aa.ag,J U 0,J U 0] λo q=>i q (a 109 [F,J U 0] q) λah L=>bn L [J U 0,J U 0,Z [],Z [],J U 0,aa.ag,J U 0,J U 0,J U 0,J U 0,J U 0] λh s=>aG s (aB P s 103 h ah) λv=>i v (a 27 [F,Z [61]] v) λM m=>C (cI .not M) λN=>aO (I N) (C (j P 98 c 0) λQ=>aG m (aB P m 3 Q (J U 9)) λn=>C (A P n 103 h) λR=>bO n (b0 P (n).next 96 1 [(0,R)]) λT x=>C (j P 98 c 3) λV=>aG x (aB P x 96 V T) λz=>i z (a 27 [F,Z [59]] z) λd E=>S d Y E (k (j P 103 h 0)) λW p=>S d Y p (qr (A P p 3 W)) λab G=>S d Y G (k (w P .neq 3 Y ab (J U 7))) λae l=>C (bC d (I ae) (I (D X))) λaf=>aO (I af) (i l (a 28 [F,J U 2] l) λai K=>nv a F c o K) (nv a F c o l)) (rA a F c o h m)
def Vs(N:Nat){F y:aa}{H:ad}{r:aa×ad}(h:wV (al P aj) F y H=I r):al P aj 110 [F,y] H=I r:=bu N (S:=λa=>wV a F y H) Tryz.func110 (λa=>cG ((Q M ((Q M ((Q M (X0 a N) ((Q M ((e6 M ((Q M ((Q M ((Q M (X2 a N) (q _))) (q _))) (q _))) (q _))) (q _))))) (q _))) (q _))) (by delta wV;generalize rA a=c;generalize nv a=d;revert c d;refine id ?_;intro c d;kernel_rfl)) h
end
end
def rq{H:ad}{r:Nat}{T:List Tok}{af:aa}{s:am}(ar:T.length<=20000000)(c:bF H r T af s):W (al P aj 109 [.ptr r 0 0,J U 0] H) (dS H r T af (bM T s).1 (bM T s).2):=by
 obtain⟨p,q,-,a,-,-⟩:=wz (T:=T) ae T.length s (tf _ _) 0 800000000 800000000 ae ae ae;have:bM T s=q:=by simp only[bM,a]
 rw[this];exact(El 800000000 ae 800000000 (aV _)).expr c 0 ae q.1 q.2 a
def Vc{H0 H:ad}{r:Nat}{T:List Tok}{af:aa}{s0 s:am}(d:bF H0 r T af s0)(l:bs r H0 H)(o:bE H r af s){a:bR}{es:List az}{ev:aa}(k:bW H (aW (H0.next+2)) es ev)(m:H.get H0.next=I (.row X 9 [a.cells ev .ag .ag]))(e:H.get (H0.next+1)=I (.row X 9 [[J U 0,Z [],Z [],J U 0,.ag,.ag,.ag,J U 0,J U 0]])):
  W (nv (al P aj) (.ptr r 0 0) (.ptr H0.next 0 0) (.ptr (H0.next+1) 0 0) H) (dx H0 r T af (.mk a es [] []) (bg T [59] s)):=by
 have ak:=d.rd.lt;have jv:=ad.aF e;have n:=k.db;rw[nv];refine aA (g5 (d.mut l o) [59] (by simp)) ?_;rintro _ H1 ⟨rfl,c,p⟩;refine⟨c.1,?_⟩;have i:=c.get m ae;have j:=c.get e ae;have eI:=ad.aF j;simp only[bR.cells]at i;simp(disch:=try exact ah)only[cd,ai,fI,i,j,n];exact aD.2 (dx.fin (a:=a) d (l.trans c) p.rd (k.aP (cH.mut c (by unfold aW;omega) λ_ h=>h)) (cj.nil _ _) (cj.nil _ _) ae (lo:=H0.next+2) ae _)
def dx.two{H c b6:ad}{r:Nat}{T:List Tok}{af:aa}{s s':am}{a:bR}{es:List az}{ev:aa}(i:bF H r T af s)(j:bs r H c)(d:bE c r af s')(q:c.next<=b6.next)(e:∀l,l<c.next->l≠H.next->l≠H.next+1->b6.get l=c.get l)
  (o:cH c (aW (H.next+2)) b6 (aW H.next)->bW b6 (aW H.next) es ev):dx H r T af (.mk a es [] []) s' (.agg (a.cells ev .ag .ag)) b6:=by
 have ak:=i.rd.lt;have p:=j.1;have m:bs r H b6:=⟨ae,λl k n=>by rw[e l ae ae ae];exact j.2 l k n⟩;refine⟨m,i.mut m ?_,mS.2 ⟨ev,.ag,.ag,rfl,o λl ro els h g=>⟨by unfold aW at*;omega,?_⟩,cj.nil _ _,cj.nil _ _⟩⟩
 ·have:=d.lt;unfold bE at d ⊢;rw[e r ae ae ae];exact d
 ·have:=ad.aF g;unfold aW at h;rw[e l ae ae ae];exact g
def Vg{H0 H:ad}{r:Nat}{T:List Tok}{af:aa}{s0 s:am}(ar:T.length<=20000000)(j:bF H0 r T af s0)(L:bs r H0 H)(an:bE H r af s){pos:Int}{a:bY}{ks:List az}{kv:aa}{b:Nat}(A:cb H (λl=>H0.next+2<=l/\l<b) (.mk a ks) (.agg (a.cells kv)))(aC:H0.next+2<=b)
  (O:H.get H0.next=I (.row X 9 [bR.cells {kind:=0,pos:=pos} .ag .ag .ag])) (Q:H.get (H0.next+1)=I (.row X 9 [[J U 0,Z [],Z [],J U 0,.ag,.ag,.ag,J U 0,J U 0]])) (z:H.get b=I (.row X 11 [a.cells kv])):
  W (nu (al P aj) (.ptr r 0 0) (.ptr H0.next 0 0) (.ptr (H0.next+1) 0 0) (.ptr b 0 0) H) (dx H0 r T af (a6.at pos (bif a.kind==4 then .mk {kind:=3,name:=a.name} [(bM T (bg T [61] s)).1] [] []else .mk {kind:=4} [.mk a ks,(bM T (bg T [61] s)).1] [] [])) (bg T [59] (bM T (bg T [61] s)).2)):=by
 have ak:=j.rd.lt;have aG:=ad.aF z;rw[nu];refine aA (g5 (j.mut L an) [61] (by simp)) ?_;rintro _ H1 ⟨rfl,c,o⟩;refine⟨c.1,?_⟩;have aJ:=c.1;generalize bg T [61] s=s1 at o ⊢;simp(disch:=try exact ah)only[ai];refine aA (rq ar o) ?_;rintro v y ⟨d,p,n⟩;refine⟨d.1,?_⟩;have n2:=d.1;obtain⟨cs,rfl,aQ,br⟩:=n.cells;generalize bM T s1=aE at p n ⊢;simp(disch:=try exact ah)only[cd,ai,aQ,br,vw];have i:=aw.push y (.row X 11 [cs]);refine aA (g5 (p.av i) [59] (by simp)) ?_;rintro _ N ⟨rfl,e,F⟩;refine⟨e.1,?_⟩;have ap:=e.1;simp only[ad.bb]at ap;have fF:=p.rd.lt;have m:=e.get (i.get (d.get (c.get O ae) ae)) ae
 have q:=e.get (i.get (d.get (c.get Q ae) ae)) ae;have w:=e.get (i.get (d.get (c.get z ae) ae)) ae;have G:=e.get (ad.a_ y (.row X 11 [cs])) ae;have aH:=ad.aF m;have aI:=ad.aF q;have x:=(i.mut (· =r)).trans e;have M:=(((L.trans c).trans d).trans x);have t1:zA 11 cs=cs:=pq ae;have E:=n.mut (ok':=aW (H0.next+2)) x (by unfold aW;have:=o.rd.lt;omega) λl h=>by unfold aW at*;omega
 have R:cb N (aW (H0.next+2)) (.mk a ks) (.agg (a.cells kv)):=A.mut ((c.trans d).trans x) ae λl h=>by unfold aW;omega
 obtain⟨ao,ab,V⟩:=gq.1 A;have C:=V.db;have S:ao=kv:=by
  have:=congrArg (λv=>match v with|aa.agg cs=>cs[5]? |_=>u) ab;simpa [bY.cells]using this.symm
 rw[S]at C;have aq:(a.cells kv).all aa.one=true:=by simp only[bY.cells,uv,AB,eO,fk,C,rs]
 simp only[bR.cells]at m;cases B:a.kind==4 with
 |true=>
  have au:∀l,b0 P l 96 1 [(0,.agg cs)]=I (.ax l 0 1 11 (I 1),.row X 11 [cs]):=λl=>fQ l cs aQ br
  simp only[bY.cells]at w;simp(disch:=try exact ah)only[cd,de,ai,fI,m,q,w,G,B,t1,au,ad.gU];refine aD.2 (dx.two (a:={kind:=3,name:=a.name,pos:=pos}) j M F.rd ?_ ?_ λk=>bW.jw (ro:=false) ?_ (by unfold aW;omega) (cb.aP k _ _ E))
  ·simp only[ad.bb,ad.cL];omega
  ·intro l aX ay aB;simp(disch:=try exact ah)only[b7]
  ·simp(disch:=try exact ah)only[b7]
 |false=>
  have au:∀l,b0 P l 96 2 [(0,.agg (a.cells kv)),(1,.agg cs)]=I (.ax l 0 2 11 (I 2),.row X 11 [a.cells kv,cs]):=λl=>sv l (a.cells kv) cs rfl aq aQ br
  have K:=w;simp only[bY.cells]at K au;simp(disch:=try exact ah)only[cd,de,ai,fI,m,q,K,G,B,t1,au,ad.gU];refine aD.2 (dx.two (a:={kind:=4,pos:=pos}) j M F.rd ?_ ?_ λk=>bW.sA (ro:=false) ?_ (by unfold aW;omega) (cb.aP k _ _ R) (cb.aP k _ _ E))
  ·simp only[ad.bb,ad.cL];omega
  ·intro l aX ay aB;simp(disch:=try exact ah)only[b7]
  ·simp(disch:=try exact ah)only[b7,bY.cells]
def Vd{H:ad}{r:Nat}{T:List Tok}{af:aa}{s:am}(ar:T.length<=20000000)(y:bF H r T af s)(pos:Int):W (al P aj 110 [.ptr r 0 0,.agg (bR.cells {kind:=0,pos:=pos} .ag .ag .ag)] H) (dx H r T af ((fP T s).1.at pos) (fP T s).2):=by
 refine bt (λ_=>Vs 0) ?_;have ak:=y.rd.lt;have aG:∀l,cg l (.agg (bR.cells {kind:=0,pos:=pos} .ag .ag .ag))=I (.ptr l 0 0,.row X 9 [bR.cells {kind:=0,pos:=pos} .ag .ag .ag]):=λl=>ei l _ rfl
 have aC:=(aw.push H (.row X 9 [bR.cells {kind:=0,pos:=pos} .ag .ag .ag])).a1 (.row X 9 [[J U 0,Z [],Z [],J U 0,.ag,.ag,.ag,J U 0,J U 0]]);simp(disch:=try exact ah)only[wV,cd,ai,aG];refine aA (rq ar (y.av aC)) ?_;rintro v k ⟨A,G,Q⟩;refine⟨A.1,?_⟩;have n2:=A.1;simp only[ad.bb]at n2;unfold fP;obtain⟨cs,rfl,aQ,br⟩:=Q.cells;have t1:zA 11 cs=cs:=pq ae;have aD:k.get H.next=I (.row X 9 [bR.cells {kind:=0,pos:=pos} .ag .ag .ag]):=A.get (by simp(disch:=try exact ah)only[b7]) ae
 have ay:=A.get (ad.a_ (H.push (.row X 9 [bR.cells {kind:=0,pos:=pos} .ag .ag .ag])) (.row X 9 [[J U 0,Z [],Z [],J U 0,.ag,.ag,.ag,J U 0,J U 0]])) (by simp only[ad.bb];omega);simp only[ad.bb]at ay;generalize bM T s=aE at G Q ⊢;simp(disch:=try exact ah)only[cd,ai,aQ,br,vw];have ap:=aw.push k (.row X 11 [cs]);refine aA (dD (G.rd.av ap) (G.ba.av ap) [61] (by simp)) ?_;rintro _ c ⟨rfl,M⟩;refine⟨M.1,?_⟩;have aJ:=M.1;simp only[ad.bb]at aJ;have B:=ap.trans M;have L:=B.get aD;have ab:=B.get ay;have w:=M.get (ad.a_ k (.row X 11 [cs]))
 have aR:=ad.aF L;have aT:=ad.aF w;have n:cb c (λl=>H.next+2<=l/\l<k.next) aE.1 (.agg cs):=cb.aP (cH.av B λl h=>by simpa only[aW,ad.bb]using h) _ _ Q.below;have ao:=((aC.mut (· =r)).trans A).trans (B.mut _);have S:=G.av B;cases aO:aS T aE.2 [61]with
 |true=>
  simp(disch:=try exact ah)only[ai,jk];unfold lA;have fin:∀(i:ad) (a:bY) (ks:List az) (kv:aa),cb i (λl=>H.next+2<=l/\l<k.next) (.mk a ks) (.agg (a.cells kv))->bs r H i->bE i r af (bif eS (.mk a ks)then bx T 2 aE.2 else aE.2)->i.get H.next=I (.row X 9 [bR.cells {kind:=0,pos:=pos} .ag .ag .ag])->i.get (H.next+1)=I (.row X 9 [[J U 0,Z [],Z [],J U 0,.ag,.ag,.ag,J U 0,J U 0]])->i.get k.next=I (.row X 11 [a.cells kv])->
    W (nu (al P aj) (.ptr r 0 0) (.ptr H.next 0 0) (.ptr (H.next+1) 0 0) (.ptr k.next 0 0) i) (dx H r T af (a6.at pos (bif (az.mk a ks).kind==4 then .mk {kind:=3,name:=(az.mk a ks).name} [(bM T (gI T (.mk a ks) aE.2)).1] [] []else .mk {kind:=4} [.mk a ks,(bM T (gI T (.mk a ks) aE.2)).1] [] [])) (bg T [59] (bM T (gI T (.mk a ks) aE.2)).2)):=
   λi a ks kv h d d5 C j e=>Vg ar y d d5 h ae C j e
  rcases R:aE.1 with⟨a,ks⟩;rw[R]at n;obtain⟨kv,x,-⟩:=gq.1 n;simp only[aa.agg.injEq]at x;subst x;have z:=w;simp only[bY.cells]at z;simp(disch:=try exact ah)only[rA,ai,z];have O:=λ(h:eS (.mk a ks)=X)=>fin c a ks kv n ao (by rw[h];exact S.rd) L ab w
  cases j:(a.kind != 4)with
  |false=>
   simp(disch:=try exact ah)only[ai];exact O (by simp only[eS,az.kind,j,ef])
  |true=>
   cases e:(a.kind != 5)with
   |false=>
    simp(disch:=try exact ah)only[ai,z,e];exact O (by simp only[eS,az.kind,j,e,ef,kl])
   |true=>
    cases m:(a.kind != 6)with
    |false=>
     simp(disch:=try exact ah)only[ai,z,e,m];exact O (by simp only[eS,az.kind,j,e,m,kl])
    |true=>
     simp(disch:=try exact ah)only[ai,z,e,m];refine aA (kx S 2) ?_;rintro _ i ⟨rfl,d,K⟩;refine⟨d.1,?_⟩;exact fin i a ks kv (n.mut d ae λ_ h=>h) (ao.trans d) (by rw[show eS (.mk a ks)=Y by simp only[eS,az.kind,j,e,m,rs]];exact K.rd) (d.get L ae) (d.get ab ae) (d.get w ae)
 |false=>
  have au:∀l,b0 P l 96 1 [(0,.agg cs)]=I (.ax l 0 1 11 (I 1),.row X 11 [cs]):=λl=>fQ l cs aQ br
  have aB:=L;simp only[bR.cells]at aB;simp(disch:=try exact ah)only[cd,de,ai,gh,aB,w,t1,au,ad.gU];have E:∀l,l<c.next->l≠H.next->((c.set H.next (.row X 9 [bR.cells {kind:=9,pos:=pos} (.ax c.next 0 1 11 (I 1)) .ag .ag])).push (.row X 11 [cs])).get l=c.get l:=λl aL aM=>by simp(disch:=try exact ah)only[b7]
  have d:bs r H ((c.set H.next (.row X 9 [bR.cells {kind:=9,pos:=pos} (.ax c.next 0 1 11 (I 1)) .ag .ag])).push (.row X 11 [cs])):=(ao.bH (.inr (aV _)) _).a1 _;have d5:bE ((c.set H.next (.row X 9 [bR.cells {kind:=9,pos:=pos} (.ax c.next 0 1 11 (I 1)) .ag .ag])).push (.row X 11 [cs])) r af aE.2:=by
   have h:=S.rd;have:=h.lt;unfold bE at h ⊢;rw[E r ae ae];exact h
  have an:bW ((c.set H.next (.row X 9 [bR.cells {kind:=9,pos:=pos} (.ax c.next 0 1 11 (I 1)) .ag .ag])).push (.row X 11 [cs])) (aW (H.next+2)) [aE.1] (.ax c.next 0 1 11 (I 1)):=
   bW.jw (ro:=false) (by simp(disch:=try exact ah)only[b7]) (by unfold aW;omega) (cb.aP (λl ro els h g=>⟨by unfold aW;omega,by rw[E l ae ae];exact g⟩) _ _ n)
  have C:((c.set H.next (.row X 9 [bR.cells {kind:=9,pos:=pos} (.ax c.next 0 1 11 (I 1)) .ag .ag])).push (.row X 11 [cs])).get H.next=I (.row X 9 [bR.cells {kind:=9,pos:=pos} (.ax c.next 0 1 11 (I 1)) .ag .ag]):=by simp(disch:=try exact ah)only[b7]
  have j:=(E (H.next+1) ae ae).trans ab;have e:=(E k.next ae ae).trans w;simp only[bR.cells]at d d5 an C j e;generalize (c.set H.next (.row X 9 [[aa.int U 9,Z [],Z [],J U 0,.ax c.next 0 1 11 (I 1),.ag,.ag,J U pos,J U 0]])).push (.row X 11 [cs])=i at d d5 an C j e ⊢;have K:=y.mut d d5;refine aA (dD d5 K.ba [59] (by simp)) ?_;rintro _ N ⟨rfl,p⟩;refine⟨p.1,?_⟩;have fin:∀(q:ad) (aq:am),bs r N q->bE q r af aq->W (nv (al P aj) (.ptr r 0 0) (.ptr H.next 0 0) (.ptr (H.next+1) 0 0) q) (dx H r T af (.mk {kind:=9,pos:=pos} [aE.1] [] []) (bg T [59] aq)):=λq aq o d7=>
   Vc y ((d.trans (p.mut _)).trans o) d7 (an.aP (cH.mut ((p.mut _).trans o) (by unfold aW;omega) λ_ h=>h)) (o.get (p.get C) ae) (o.get (p.get j) ae)
  have V:=K.av p;cases aN:aS T aE.2 [59]with
  |false=>
   simp(disch:=try exact ah)only[ai];simp only[ef,aH];exact fin N _ (bV.refl _ _) V.rd
  |true=>
   have m:=p.get e;rcases R:aE.1 with⟨a,ks⟩;rw[R]at n fin;obtain⟨kv,x,-⟩:=gq.1 n;simp only[aa.agg.injEq]at x;subst x;simp only[bY.cells]at m;cases F:(a.kind != 7)with
   |false=>
    simp(disch:=try exact ah)only[ai,m,F];simp only[az.kind,F,kl,aH];exact fin N _ (bV.refl _ _) V.rd
   |true=>
    simp(disch:=try exact ah)only[ai,m,F];simp only[az.kind,F,rs,aK];refine aA (kx V 2) ?_;rintro _ q ⟨rfl,o,aI⟩;refine⟨o.1,?_⟩;exact fin q _ o aI.rd
def u9(n:Nat):Prop:=∀{H:ad} {r:Nat} {T:List Tok} {af:aa} {s:am},T.length<=20000000->bF H r T af s->∀(e:a6) (s':am),gC T n s=I (e,s')->W (al P aj 84 [.ptr r 0 0] H) (dx H r T af e s')
def u1(n:Nat):Prop:=∀{H:ad} {r:Nat} {T:List Tok} {af:aa} {s:am},T.length<=20000000->bF H r T af s->∀(l:List a6) (s':am),dU T n s=I (l,s')->W (al P aj 61 [.ptr r 0 0] H) λv H'=>bs r H H'/\bF H' r T af s'/\cj H' (aW H.next) l v
def LW{M:Nat}{H0 H:ad}{r:Nat}{T:List Tok}{af:aa}{s0 s:am}(c:bF H0 r T af s0)(d:bs r H0 H)(e:bE H r af s){l:List a6}{v:aa}(i:cj H (aW H0.next) l v):
  W (pQ (al P aj) M (.ptr r 0 0) v H) λk H'=>bs r H0 H'/\bF H' r T af (cV T [125] s)/\cj H' (aW H0.next) l k:=by
 have ak:=c.rd.lt;rw[pQ];refine aA (rn (c.mut d e) [125] (by simp)) ?_;rintro _ H1 ⟨rfl,a,j⟩;refine⟨a.1,?_⟩;exact aD.2 ⟨d.trans a,j,i.aP (dc.mut a (by unfold aW;omega) λ_ h=>h)⟩
def Mh{N M:Nat}(K:∀k,k<N->u9 k){H0:ad}{r:Nat}{T:List Tok}{af:aa}{s0:am}(ar:T.length<=20000000)(j:bF H0 r T af s0):
  ∀(n m:Nat),n<=N->n<m->∀(H:ad) (s:am) (l:List a6) (v:aa),bs r H0 H->bE H r af s->l.length+n<=1000000000->kP H0.next H l v->∀(l':List a6) (s':am),fx T n l s=I (l',s')->
   W (pR (al P aj) M m (.ptr r 0 0) v H) λz H'=>bs r H0 H'/\bF H' r T af (cV T [125] s')/\cj H' (aW H0.next) l' z
 |0,m,A,G,H,s,l,v,d,i,F,o,l',s',h=>by simp[fx]at h
 |n+1,0,A,G,H,s,l,v,d,i,F,o,l',s',h=>ae
 |n+1,m+1,A,G,H,s,l,v,d,i,F,o,l',s',h=>by
  have ak:=j.rd.lt;have aE:=d.1;have y:=j.mut d i;simp only[fx]at h;simp only[pR];rw[yy];refine aA (lj i) ?_;rintro _ H1 ⟨rfl,rfl⟩;refine⟨aV _,?_⟩;by_cases C:s.an=0
  ·have a:(s.an==0)=true:=by simp[C]
   simp(disch:=try exact ah)only[ai,a];refine dZ (dD i y.ba [125] (by simp)) ?_;rintro _ aC ⟨rfl,e⟩;refine⟨e.1,?_⟩;have x:=o.mut (e.mut (· =r)) ak;cases E:aS T s [125]with
   |true=>
    simp only[a,E,jk,kl,aH,aT,bS]at h;obtain⟨rfl,rfl⟩:=h;simp(disch:=try exact ah)only[ai,a,jk];exact LW j (d.trans (e.mut _)) (y.av e).rd x.y7
   |false=>
    simp only[a,E,gh,rs,aK,ct]at h;obtain⟨⟨ap,s1⟩,Q,R⟩:=h;simp(disch:=try exact ah)only[ai,a,gh];refine aA (K n ae ar (y.av e) ap s1 Q) ?_;rintro w aD ⟨q,ay,B⟩;refine⟨q.1,?_⟩;obtain⟨cs,rfl,aQ,br⟩:=B.cells;have ab:=x.mut q ak;have aI:=q.1;have n2:=e.1;obtain⟨z,H',S,V,O,aG⟩:=ab.app B ae (λL k c p=>by
     rcases x with⟨aX,_⟩|⟨L',els,aX,aB,_⟩
     ·rw[aX]at p;cases p
     ·rw[aX]at p;cases p;exact ad.aF aB) ae ae
    have au:=λl=>MW l cs aQ br
    simp(disch:=try exact ah)only[ai,au,S,gF];have az:bs r H0 H':=⟨by have:=d.1;omega,λk ao aq=>by
     rw[O.2 k ae ae];exact((d.trans (e.mut _)).trans q).2 k ao aq⟩
    have aw:bE H' r af s1:=O.get ay.rd ae;exact Mh K ar j n m ae ae H' s1 (l++[ap]) z az aw (by simp only[List.length_append,lm,hi];omega) V l' s' R
  ·have a:(s.an==0)=false:=by simpa using C
   simp only[a,ef,aH,aT,bS]at h;obtain⟨rfl,rfl⟩:=h;simp(disch:=try exact ah)only[ai,a];exact LW j d i o.y7
def UF{n:Nat}(i:n<=1000000000)(m:∀k,k<n->u9 k):u1 (n+1):=by
 intro H r T af s ar c l s' h;refine bt (λ_=>W5 (n+1)) ?_;simp only[dU,ct]at h;obtain⟨⟨o,s1⟩,e,a⟩:=h;simp only[aT,bS]at a;obtain⟨rfl,rfl⟩:=a;rw[yx];refine aA (rr c [123] (by simp)) ?_;rintro _ H1 ⟨rfl,d,j⟩;refine⟨d.1,?_⟩;exact Mh m ar c n (n+1) (aV _) ae H1 _ [] .ag d j.rd (by simpa using i) (.inl ⟨rfl,rfl⟩) o s1 e
structure fS(H0 H:ad)(r b3 N:Nat)(af:aa)(t:Tok)(s:am)(c:List aa):Prop where
 m:bs r H0 H
 rd:bE H r af s
 g2:H.get H0.next=some (.row false 9 [[.int .i64 0,.str [],.str [],.int .i64 0,.ag,.ag,.ag,.int .i64 0,.int .i64 0]])
 g3:H.get b3=some (.row false 4 [[.int .i64 t.kind,.str t.text,.int .i64 t.n,.int .i64 t.pos]])
 g4:H.get N=some (.row false 9 [c])
 dt:H0.next<b3
 eI:b3<N
def fS.mut{H0 H H':ad}{r b3 N:Nat}{af:aa}{t:Tok}{s s':am}{c:List aa}(h:fS H0 H r b3 N af t s c)(d:r<H0.next)(m:bs r H H')(a:bE H' r af s'):fS H0 H' r b3 N af t s' c:=
 ⟨h.m.trans m,a,m.get h.g2 ae,m.get h.g3 (by have:=h.dt;omega),m.get h.g4 (by have:=h.dt;have:=h.eI;omega),h.dt,h.eI⟩
def fS.set{H0 H:ad}{r b3 N:Nat}{af:aa}{t:Tok}{s:am}{c:List aa}(h:fS H0 H r b3 N af t s c)(e:r<H0.next)(c':List aa):fS H0 (H.set N (.row X 9 [c'])) r b3 N af t s c':=by
 have a:=h.dt;have d:=h.eI;refine⟨h.m.bH (.inr ae) _,?_,?_,?_,ad.get_set_same (ad.aF h.g4),a,d⟩
 ·have:=h.rd;unfold bE at this ⊢;rw[ad.get_set_other ae];exact this
 ·rw[ad.get_set_other ae];exact h.g2
 ·rw[ad.get_set_other ae];exact h.g3
def fS.push{H0 H:ad}{r b3 N:Nat}{af:aa}{t:Tok}{s:am}{c:List aa}(h:fS H0 H r b3 N af t s c)(d:r<H0.next)(a:b_):fS H0 (H.push a) r b3 N af t s c:=
 h.mut d ((aw.push H a).mut _) (h.rd.av (aw.push H a))
section
variable {H0 H:ad}{r b3 N:Nat}{T:List Tok}{af:aa}{s0 s:am}{t:Tok}
def rt(k:bF H0 r T af s0){a:bR}{es:List az}{bf aQ:List a6}{ev c d:aa}(b:fS H0 H r b3 N af t s (a.cells ev c d))(h:bW H (aW (N+1)) es ev)(i:cj H (aW (N+1)) bf c)(j:cj H (aW (N+1)) aQ d):
  W (gY (al P aj) (.ptr H0.next 0 0) (.ptr N 0 0) H) (dx H0 r T af (.mk a es bf aQ) s):=by
 have br:=h.db;have bI:=i.db;have b2:=j.db;have g2:=b.g2;have e:=b.g4;have l:=ad.aF g2;have n:=b.dt;have o:=b.eI;simp only[bR.cells]at e;simp(disch:=try exact ah)only[gY,cd,ai,fI,g2,e,br,bI,b2];exact aD.2 (dx.fin (a:=a) k b.m b.rd h i j (aV _) ae _)
def fS.expr(a:r<H0.next){e:az}{cs c c':List aa}{L:Nat}(b:fS H0 H r b3 N af t s c)(i:cb H (aW (N+1)) e (.agg cs))(d:L=H.next):fS H0 ((H.set N (.row X 9 [c'])).push (.row X 11 [cs])) r b3 N af t s c'/\bW ((H.set N (.row X 9 [c'])).push (.row X 11 [cs])) (aW (N+1)) [e] (.ax L 0 1 11 (I 1)):=by
 subst d;have j:=ad.aF b.g4;refine⟨(b.set a c').push a _,bW.jw (ro:=false) ?_ (by unfold aW;omega) (cb.aP ?_ e _ i)⟩
 ·exact ad.a_ (H.set N (.row X 9 [c'])) _
 ·intro l ro els h g;refine⟨h,?_⟩;unfold aW at h;exact(aw.push _ _).get (by rw[ad.get_set_other ae];exact g)
def L2(c:bF H0 r T af s0){a:bR}{es:List az}{ev:aa}(b:fS H0 H r b3 N af t s (a.cells ev .ag .ag))(e:bW H (aW (N+1)) es ev):
  W (pY (al P aj) (.ptr r 0 0) (.ptr H0.next 0 0) (.ptr N 0 0) H) (dx H0 r T af (.mk a es [] []) (bg T [59] s)):=by
 have ak:=c.rd.lt;have j:=b.dt;have k:=b.eI;rw[pY];refine aA (g5 (c.mut b.m b.rd) [59] (by simp)) ?_;rintro _ H1 ⟨rfl,d,i⟩;refine⟨d.1,?_⟩;exact rt c (b.mut ak d i.rd) (e.aP (cH.mut d (by unfold aW;omega) λ_ h=>h)) (cj.nil _ _) (cj.nil _ _)
def Ms(c:bF H0 r T af s0){a:bR}{es:List az}{ev:aa}(b:fS H0 H r b3 N af t s (a.cells ev .ag .ag))(e:bW H (aW (N+1)) es ev):
  W (pZ (al P aj) (.ptr r 0 0) (.ptr H0.next 0 0) (.ptr N 0 0) H) (dx H0 r T af (.mk a es [] []) (bg T [59] s)):=by
 have ak:=c.rd.lt;have j:=b.dt;have k:=b.eI;rw[pZ];refine aA (g5 (c.mut b.m b.rd) [59] (by simp)) ?_;rintro _ H1 ⟨rfl,d,i⟩;refine⟨d.1,?_⟩;exact rt c (b.mut ak d i.rd) (e.aP (cH.mut d (by unfold aW;omega) λ_ h=>h)) (cj.nil _ _) (cj.nil _ _)
end
section
variable {H0 H:ad}{r b3 N:Nat}{T:List Tok}{af:aa}{s0 s:am}{t:Tok}
def aa7{a:bR}{ev d c v:aa}(g:H.get N=I (.row X 9 [a.cells ev d c]))(o:v.one=Y):aB P H 44 (.ptr N 0 5) v=I (H.set N (.row X 9 [a.cells ev v c])):=by
 rw[Df sy g rfl (by rw[gf o];rfl) (by rw[gf o,uv,o];rfl) aC,gf o];rfl
def aa8{a:bR}{ev c d v:aa}(g:H.get N=I (.row X 9 [a.cells ev c d]))(o:v.one=Y):aB P H 44 (.ptr N 0 6) v=I (H.set N (.row X 9 [a.cells ev c v])):=by
 rw[Df sy g rfl (by rw[gf o];rfl) (by rw[gf o,uv,o];rfl) aC,gf o];rfl
def XI(ar:T.length<=20000000)(a:bF H0 r T af s0)(b:fS H0 H r b3 N af t s (bR.cells {kind:=0,pos:=t.pos} .ag .ag .ag))(ba:eR H0 af T):
  W (mr (al P aj) (.ptr r 0 0) (.ptr H0.next 0 0) (.ptr b3 0 0) (.ptr N 0 0) (D Y) H) (dx H0 r T af ((bif t.text==[108,101,116]then ju T (ao s)else ji T (ao s)).1.at t.pos) (bif t.text==[108,101,116]then ju T (ao s)else ji T (ao s)).2):=by
 have ak:=a.rd.lt;have an:=a.ba.one;have az:=b.dt;have aB:=b.eI;obtain⟨V,d1⟩:=eL b.rd (ao s);have bf:=(b.mut ak V d1).set ak (bR.cells {kind:=1,pos:=t.pos} .ag .ag .ag);have x:=b.rd;unfold bE at x;have g4:=b.g4;have fF:=b.rd.lt;have eI:=ad.aF g4;simp only[bR.cells]at g4;simp(disch:=try exact ah)only[mr,cd,de,ai,x,g4];refine aA (np (a.mut bf.m bf.rd)) ?_;rintro _ aa ⟨rfl,B,O⟩;refine⟨B.1,?_⟩;have bo:=bf.mut ak B O.rd;have e:=bo.set ak (bR.cells {kind:=1,name:=(bv T (ao s)).1,pos:=t.pos} .ag .ag .ag);have j:=bo.g4;have av:=ad.aF j;simp only[bR.cells]at j;simp(disch:=try exact ah)only[cd,de,ai,j]
 refine aA (g5 (a.mut e.m e.rd) [58] (by simp)) ?_;rintro _ ab ⟨rfl,C,y⟩;refine⟨C.1,?_⟩;have L:=e.mut ak C y.rd;refine aA (tO y) ?_;rintro _ ae ⟨rfl,E,Q⟩;refine⟨E.1,?_⟩;have i:=L.mut ak E Q.rd;have n:=i.set ak (bR.cells {kind:=1,name:=(bv T (ao s)).1,b5:=(cz T (bg T [58] (bv T (ao s)).2)).1.1,ci:=(cz T (bg T [58] (bv T (ao s)).2)).1.2,pos:=t.pos} .ag .ag .ag);have d:=i.g4;have A:=i.g3;have aw:=ad.aF d;simp only[bR.cells]at d;unfold ju ji cT;generalize cz T (bg T [58] (bv T (ao s)).2)=o at*;generalize bv T (ao s)=nm at*;cases aq:t.text==[108,101,116]with
 |false=>
  simp(disch:=try exact ah)only[cd,de,ai,d,A,aq];exact L2 a n (bW.nil _ _)
 |true=>
  have c:=n.set ak (bR.cells {kind:=2,name:=nm.1,b5:=o.1.1,ci:=o.1.2,pos:=t.pos} .ag .ag .ag);rw[ad.set_set]at c;simp(disch:=try exact ah)only[cd,de,ai,d,A,aq];refine aA (g5 (a.mut c.m c.rd) [61] (by simp)) ?_;rintro _ am ⟨rfl,F,z⟩;refine⟨F.1,?_⟩;have p:=c.mut ak F z.rd;refine aA (rq ar z) ?_;rintro v K ⟨G,R,w⟩;refine⟨G.1,?_⟩;have q:=p.mut ak G R.rd;obtain⟨cs,rfl,aQ,br⟩:=w.cells;have au:∀l,b0 P l 96 1 [(0,.agg cs)]=I (.ax l 0 1 11 (I 1),.row X 11 [cs]):=λl=>fQ l cs aQ br
  have k:=q.g4;have ay:=ad.aF k;have ap:=ad.aF p.g4;obtain⟨M,S⟩:=fS.expr ak (c':=bR.cells {kind:=2,name:=nm.1,b5:=o.1.1,ci:=o.1.2,pos:=t.pos} (.ax K.next 0 1 11 (I 1)) .ag .ag) q (cb.aP (cH.jt λl h=>by unfold aW at*;first|omega|(simp only[ad.cL]at*;omega)) _ _ w) rfl;simp only[bR.cells]at k;simp(disch:=try exact ah)only[cd,de,ai,au,k,ad.gU];exact L2 a M S
def Mg{n:Nat}(aE:u1 n)(ar:T.length<=20000000)(q:bF H0 r T af s0)(b:fS H0 H r b3 N af t s (bR.cells {kind:=0,pos:=t.pos} .ag .ag .ag)){a:Int}{e:az}{bf:List a6}{s1 F:am}(a1:a=5\/a=6)(ay:bM T (ao s)=(e,s1))(aw:dU T n s1=I (bf,F))
  {Q:aa->ad->Prop} {k:aa->ad->O} (aC:∀(b6:ad) (ev c:aa),fS H0 b6 r b3 N af t F (bR.cells {kind:=a,pos:=t.pos} ev c .ag)->bW b6 (aW (N+1)) [e] ev->cj b6 (aW (N+1)) bf c->W (k (.tuple []) b6) Q):
  W (C (bd (.ptr r 0 0)) λaL=>C (j P 63 aL 1) λaM=>C (A P H 3 aM) λaN=>C (w P .add 3 Y aN (J U 1)) λaO=>C (bd (.ptr r 0 0)) λaS=>C (j P 63 aS 1) λaT=>
   aG H (aB P H 3 aT aO) λK=>C (j P 98 (.ptr N 0 0) 0) λaU=>aG K (aB P K 3 aU (J U a)) λL=>i L (al P aj 109 [.ptr r 0 0,J U 0] L) λaV M=>bO M (b0 P M.next 96 1 [(0,aV)]) λaX R=>
   C (j P 98 (.ptr N 0 0) 3) λaY=>aG R (aB P R 96 aY aX) λS=>i S (al P aj 61 [.ptr r 0 0] S) λaZ V=>C (j P 98 (.ptr N 0 0) 4) λa0=>aG V (aB P V 44 a0 aZ) λav=>k (.tuple []) av) Q:=by
 have ak:=q.rd.lt;have a2:=q.ba.one;have a7:=b.dt;have a8:=b.eI;obtain⟨aJ,d1⟩:=eL b.rd (ao s);have o:=(b.mut ak aJ d1).set ak (bR.cells {kind:=a,pos:=t.pos} .ag .ag .ag);have ae:=b.rd;unfold bE at ae;have g4:=b.g4;have fF:=b.rd.lt;have eI:=ad.aF g4;simp only[bR.cells]at g4;simp(disch:=try exact ah)only[cd,de,ai,ae,g4];refine aA (rq ar (q.mut o.m o.rd)) ?_;rintro v d ⟨ap,an,z⟩;refine⟨ap.1,?_⟩;rw[ay]at an z;have G:=o.mut ak ap an.rd;obtain⟨cs,rfl,aQ,br⟩:=z.cells;have au:∀l,b0 P l 96 1 [(0,.agg cs)]=I (.ax l 0 1 11 (I 1),.row X 11 [cs]):=λl=>fQ l cs aQ br
 have B:=G.g4;have a4:=ad.aF B;have a3:=ad.aF o.g4;obtain⟨p,aH⟩:=fS.expr ak (c':=bR.cells {kind:=a,pos:=t.pos} (.ax d.next 0 1 11 (I 1)) .ag .ag) G (cb.aP (cH.jt λl h=>by unfold aW at*;first|omega|(simp only[ad.cL]at*;omega)) _ _ z) rfl;have aK:N<((d.set N (.row X 9 [bR.cells {kind:=a,pos:=t.pos} (.ax d.next 0 1 11 (I 1)) .ag .ag])).push (.row X 11 [cs])).next:=ad.aF p.g4
 simp only[bR.cells]at B aK;simp(disch:=try exact ah)only[cd,de,ai,au,B,ad.gU];refine aA (aE ar (q.mut p.m p.rd) bf F aw) ?_;rintro c x ⟨E,aD,ab⟩;refine⟨E.1,?_⟩;have y:=p.mut ak E aD.rd;have aI:=aH.aP (cH.mut E (ok':=aW (N+1)) (by unfold aW;omega) λ_ h=>h);have aq:cj x (aW (N+1)) bf c:=ab.aP (dc.jt λl h=>by unfold aW at*;simp only[bR.cells]at h;omega);have hZ:=ab.db;have st:=aa7 y.g4 hZ;have a5:=ad.aF y.g4;simp(disch:=try exact ah)only[aR,cX,mn];rw[st,g9 (by simp only[ad.cL];omega)];have ks:dc x (aW (N+1)) (x.set N (.row X 9 [bR.cells {kind:=a,pos:=t.pos} (.ax d.next 0 1 11 (I 1)) c .ag])) (aW (N+1)):=dc.set _ (by unfold aW;omega) λ_ h=>h
 exact aC _ _ _ (y.set ak _) (aI.aP ks.ex) (aq.aP ks)
end
def Vh{n:Nat}(aL:u1 n):u9 (n+1):=by
 intro H r T af s ar a e s' h;refine bt (λ_=>Xr 0) ?_;have ak:=a.rd.lt;have bP:=a.ba.one;have aX:=aw.push H (.row X 9 [[J U 0,Z [],Z [],J U 0,.ag,.ag,.ag,J U 0,J U 0]]);simp(disch:=try exact ah)only[yS,cd,ai];refine aA (im (a.rd.av aX) (a.ba.av aX)) ?_;rintro _ p ⟨rfl,V⟩;refine⟨V.1,?_⟩;have n2:=V.1;simp only[ad.bb]at n2;generalize aq:G T s.at_=t;have bq:=((aX.trans V).a1 (.row X 4 [[J U t.kind,Z t.text,J U t.n,J U t.pos]])).a1 (.row X 9 [bR.cells {kind:=0,pos:=t.pos} .ag .ag .ag]);have bI:=(aw.push p (.row X 4 [[J U t.kind,Z t.text,J U t.n,J U t.pos]])).a1 (.row X 9 [bR.cells {kind:=0,pos:=t.pos} .ag .ag .ag])
 have b:fS H ((p.push (.row X 4 [[J U t.kind,Z t.text,J U t.n,J U t.pos]])).push (.row X 9 [bR.cells {kind:=0,pos:=t.pos} .ag .ag .ag])) r p.next (p.next+1) af t s (bR.cells {kind:=0,pos:=t.pos} .ag .ag .ag):=
  ⟨bq.mut _,a.rd.av bq,bI.get (V.get (ad.a_ H _)),by simp(disch:=try exact ah)only[b7],ad.a_ (p.push _) _,ae,ae⟩
 simp(disch:=try exact ah)only[cd,ai,fI,Tok.v];simp only[bR.cells]at b;generalize (p.push (.row X 4 [[J U t.kind,Z t.text,J U t.n,J U t.pos]])).push (.row X 9 [[J U 0,Z [],Z [],J U 0,.ag,.ag,.ag,J U t.pos,J U 0]])=a3 at b ⊢;have y:fS H a3 r p.next (p.next+1) af t s (bR.cells {kind:=0,pos:=t.pos} .ag .ag .ag):=b
 generalize p.next=b3 at y ⊢
 clear b;simp only[gC,aq,ct]at h;obtain⟨⟨ap,s1⟩,c,a8⟩:=h;simp only[aT,bS]at a8;obtain⟨rfl,rfl⟩:=a8;have M:=a.mut y.m y.rd;have bv:∀(H':ad),aw a3 H'->(aS T s [118,97,114]||aS T s [108,101,116])=Y->W (mr (al P aj) (.ptr r 0 0) (.ptr H.next 0 0) (.ptr b3 0 0) (.ptr (b3+1) 0 0) (D Y) H') (dx H r T af (ap.at t.pos) s1):=by
  intro H' bp S;rw[S,aK,aT]at c;have:=XI ar a (y.mut ak (bp.mut _) (y.rd.av bp)) a.ba;rw[c]at this;exact this
 refine aA (dD M.rd M.ba [118,97,114] (by simp)) ?_;rintro _ bw ⟨rfl,O⟩;refine⟨O.1,?_⟩;cases S:aS T s [118,97,114]with
 |true=>
  simp(disch:=try exact ah)only[ai];exact bv bw O (by rw[S];rfl)
 |false=>
  simp(disch:=try exact ah)only[ai];refine aA (dD (M.av O).rd (M.av O).ba [108,101,116] (by simp)) ?_;rintro _ bx ⟨rfl,bu⟩;refine⟨bu.1,?_⟩;have aY:=O.trans bu;cases bg:aS T s [108,101,116]with
  |true=>exact bv bx aY (by rw[bg,Bool.or_true])
  |false=>
   rw[S,bg,tu,aH]at c;simp(disch:=try exact ah)only[mr,ai];have aC:=M.av aY;refine aA (dD aC.rd aC.ba [105,102] (by simp)) ?_;rintro _ bK ⟨rfl,aZ⟩;refine⟨aZ.1,?_⟩;have bs:=aY.trans aZ;have aE:=aC.av aZ;have am:=y.mut ak (bs.mut _) (y.rd.av bs);have b1:=y.dt;cases bf:aS T s [105,102]with
   |true=>
    simp only[bf,aK,ct]at c;obtain⟨⟨aQ,a2⟩,aB,B⟩:=c;simp(disch:=try exact ah)only[e8,aK];refine Mg aL ar a am (.inl rfl) (e:=(bM T (ao s)).1) (s1:=(bM T (ao s)).2) rfl aB (k:=λ_ R=>i R (al P aj 27 [.ptr r 0 0,Z [101,108,115,101]] R) _) ?_;intro b6 ev a5 F aM aN;have bl:=a.mut F.m F.rd;refine aA (dD bl.rd bl.ba [101,108,115,101] (by simp)) ?_;rintro _ a4 ⟨rfl,o⟩;refine⟨o.1,?_⟩;have d:=F.mut ak (o.mut _) (F.rd.av o);have bm:=aM.av o;have bn:=aN.aP (dc.av o λ_ h=>h);cases be:aS T a2 [101,108,115,101]with
    |false=>
     simp only[be,aH,aT,bS]at B;obtain⟨rfl,rfl⟩:=B;simp(disch:=try exact ah)only[ai];exact rt a d bm bn (cj.nil _ _)
    |true=>
     simp only[be,aK,ct]at B;obtain⟨⟨c2,bJ⟩,bB,a9⟩:=B;simp only[aT,bS]at a9;obtain⟨rfl,rfl⟩:=a9;obtain⟨E,ay⟩:=eL d.rd (ao a2);have j:=d.mut ak E ay;have L:=d.rd;unfold bE at L;have bG:=d.rd.lt;simp(disch:=try exact ah)only[cd,de,ai,L];refine aA (aL ar (a.mut j.m j.rd) c2 bJ bB) ?_;rintro bA z ⟨x,N,bd⟩;refine⟨x.1,?_⟩;have q:=j.mut ak x N.rd;have bX:=ad.aF q.g4;have bY:=ad.aF j.g4;have st:=aa8 q.g4 bd.db;simp(disch:=try exact ah)only[aR,cX,mn];rw[st,g9 (by simp only[ad.cL];omega)];have bo:dc a4 (aW (b3+1+1)) z (aW (b3+1+1)):=dc.mut (E.trans x) (by unfold aW;omega) λ_ h=>h
     have ks:dc z (aW (b3+1+1)) (z.set (b3+1) (.row X 9 [bR.cells {kind:=5,pos:=t.pos} ev a5 bA])) (aW (b3+1+1)):=dc.set _ (by unfold aW;omega) λ_ h=>h
     exact rt a (q.set ak _) ((bm.aP bo.ex).aP ks.ex) ((bn.aP bo).aP ks) ((bd.aP (dc.jt λl h=>by unfold aW at*;omega)).aP ks)
   |false=>
    simp only[bf,aH]at c;simp(disch:=try exact ah)only[ai];refine aA (dD aE.rd aE.ba [119,104,105,108,101] (by simp)) ?_;rintro _ bL ⟨rfl,aa⟩;refine⟨aa.1,?_⟩;have aG:=aE.av aa;have an:=am.mut ak (aa.mut _) (am.rd.av aa);cases bk:aS T s [119,104,105,108,101]with
    |true=>
     simp only[bk,aK,ct]at c;obtain⟨⟨aQ,a2⟩,aB,B⟩:=c;simp only[aT,bS]at B;obtain⟨rfl,rfl⟩:=B;simp(disch:=try exact ah)only[e8,aK];refine Mg aL ar a an (.inr rfl) (e:=(bM T (ao s)).1) (s1:=(bM T (ao s)).2) rfl aB (k:=λ_ R=>gY (al P aj) (.ptr H.next 0 0) (.ptr (b3+1) 0 0) R) ?_;exactλb6 ev a5 F aM aN=>rt a F aM aN (cj.nil _ _)
    |false=>
     simp only[bk,aH]at c;simp(disch:=try exact ah)only[ai];refine aA (dD aG.rd aG.ba [114,101,116,117,114,110] (by simp)) ?_;rintro _ bN ⟨rfl,ab⟩;refine⟨ab.1,?_⟩;have aI:=aG.av ab;have A:=an.mut ak (ab.mut _) (an.rd.av ab);cases bj:aS T s [114,101,116,117,114,110]with
     |true=>
      simp only[bj,aK,aT]at c;obtain⟨bH,d9⟩:=eL A.rd (ao s);have d:=(A.mut ak bH d9).set ak (bR.cells {kind:=7,pos:=t.pos} .ag .ag .ag);have bi:=A.rd;unfold bE at bi;have az:=A.g4;have bZ:=A.rd.lt;have bT:=ad.aF az;simp only[bR.cells]at az;simp(disch:=try exact ah)only[cd,de,ai,bi,az];refine aA (dD d.rd (a.mut d.m d.rd).ba [59] (by simp)) ?_;rintro _ bz ⟨rfl,a0⟩;refine⟨a0.1,?_⟩;have j:=d.mut ak (a0.mut _) (d.rd.av a0);unfold iX at c;cases bc:aS T (ao s) [59]with
      |true=>
       simp only[bc,aK,bS]at c;obtain⟨rfl,rfl⟩:=c;simp(disch:=try exact ah)only[ai,jk];exact Ms a j (bW.nil _ _)
      |false=>
       simp only[bc,aH,bS]at c;obtain⟨rfl,rfl⟩:=c;simp(disch:=try exact ah)only[ai,gh];refine aA (rq ar (a.mut j.m j.rd)) ?_;rintro v z ⟨x,N,w⟩;refine⟨x.1,?_⟩;have q:=j.mut ak x N.rd;obtain⟨cs,rfl,aQ,br⟩:=w.cells;have au:∀l,b0 P l 96 1 [(0,.agg cs)]=I (.ax l 0 1 11 (I 1),.row X 11 [cs]):=λl=>fQ l cs aQ br
       have C:=q.g4;have bF:=ad.aF C;have bD:=ad.aF j.g4;obtain⟨K,aO⟩:=fS.expr ak (c':=bR.cells {kind:=7,pos:=t.pos} (.ax z.next 0 1 11 (I 1)) .ag .ag) q (cb.aP (cH.jt λl h=>by unfold aW at*;first|omega|(simp only[ad.cL]at*;omega)) _ _ w) rfl;simp only[bR.cells]at C;simp(disch:=try exact ah)only[cd,de,ai,au,C,ad.gU];exact Ms a K aO
     |false=>
      simp only[bj,aH]at c;simp(disch:=try exact ah)only[ai];refine aA (dD aI.rd aI.ba [112,114,105,110,116] (by simp)) ?_;rintro _ a4 ⟨rfl,o⟩;refine⟨o.1,?_⟩;have bQ:=aI.av o;have d:=A.mut ak (o.mut _) (A.rd.av o);have Q:=d.g4;have bG:=d.rd.lt;have bU:=ad.aF Q;cases bh:aS T s [112,114,105,110,116]with
      |true=>
       simp only[bh,aK,aT]at c;obtain⟨E,ay⟩:=eL d.rd (ao s);have j:=(d.mut ak E ay).set ak (bR.cells {kind:=8,pos:=t.pos} .ag .ag .ag);have L:=d.rd;unfold bE at L;simp only[bR.cells]at Q;unfold ku at c;simp only[bS]at c;obtain⟨rfl,rfl⟩:=c;simp(disch:=try exact ah)only[cd,de,ai,L,Q];refine aA (rq ar (a.mut j.m j.rd)) ?_;rintro v z ⟨x,N,w⟩;refine⟨x.1,?_⟩;have q:=j.mut ak x N.rd;obtain⟨cs,rfl,aQ,br⟩:=w.cells;have au:∀l,b0 P l 96 1 [(0,.agg cs)]=I (.ax l 0 1 11 (I 1),.row X 11 [cs]):=λl=>fQ l cs aQ br
       have C:=q.g4;have bF:=ad.aF C;have bD:=ad.aF j.g4;obtain⟨K,aO⟩:=fS.expr ak (c':=bR.cells {kind:=8,pos:=t.pos} (.ax z.next 0 1 11 (I 1)) .ag .ag) q (cb.aP (cH.jt λl h=>by unfold aW at*;first|omega|(simp only[ad.cL]at*;omega)) _ _ w) rfl;simp only[bR.cells]at C;simp(disch:=try exact ah)only[cd,de,ai,au,C,ad.gU];refine aA (g5 (a.mut K.m K.rd) [59] (by simp)) ?_;rintro _ bO ⟨rfl,aU,bC⟩;refine⟨aU.1,?_⟩;exact rt a (K.mut ak aU bC.rd) (aO.aP (cH.mut aU (by unfold aW;omega) λ_ h=>h)) (cj.nil _ _) (cj.nil _ _)
      |false=>
       simp only[bh,aH,aT]at c;have a6:=Q;simp only[bR.cells]at a6;simp(disch:=try exact ah)only[ai,fI,a6];refine aA (Vd ar (a.mut d.m d.rd) t.pos) ?_;rintro v bz ⟨E,aJ,w⟩;refine⟨E.1,?_⟩;have j:=d.mut ak E aJ.rd;obtain⟨cs,rfl,aQ,br⟩:=w.cells;have kJ:zA 9 cs=cs:=pq ae;have a7:=j.g2;have bV:=ad.aF a7;rw[c]at w aJ;simp(disch:=try exact ah)only[ai,fI,a7,aQ,br,kJ,vw];exact aD.2 (dx.ret a j.m aJ.rd (aV _) w ae _)
structure OX(n:Nat):Prop where
 stmt:u9 n
 block:u1 n
def PD:∀n,n<=900000000->OX n:=by
 intro n
 induction n using Nat.strongRecOn with
 |_ n a=>
  intro d;cases n with
  |zero=>exact⟨λ_ _ _ _ h=>by simp[gC]at h,λ_ _ _ _ h=>by simp[dU]at h⟩
  |succ n=>
   have i:=a n ae ae;exact⟨Vh i.block,UF ae λk c=>(a k ae ae).stmt⟩
section
variable {H H' H1:ad}{r:Nat}{T:List Tok}{af:aa}{s s':am}
variable {b c n2 esz:Nat}{z:List aa}{x:aa}{rest:List aa}{l:List bq}{v:aa}
def gG.Cj(h:gG H1 H r b c n2 esz T af z x rest l v s){s0:am}(e:bF H1 r T af s0)(rest':List aa):gG H1 (H.set c (.row X esz [x::v::rest'])) r b c n2 esz T af z x rest' l v s:=by
 have br:=h.br;have bI:=h.bI;have b2:=h.b2;have cM:=h.cM;have hZ:=h.hZ;have lc:=ad.aF h.cell;have d:hN r H1.next H1 (H.set c (.row X esz [x::v::rest'])):=h.m.bH (.inr ae) _
 exact⟨e.oA d (by unfold bE;rw[ad.get_set_other ae];exact h.E.rd),by rw[ad.get_set_other ae];exact h.two,ad.get_set_same lc,h.d_.aP λk x a g=>⟨a,by unfold aW at a;rw[ad.get_set_other ae];exact g⟩,d,br,bI,hZ,b2,by simp;omega⟩
def gG.UI(h:gG H1 H r b c n2 esz T af z x rest l v s)(a:am):gG H1 (H.set r (.row X 5 [[af,J U a.at_,J U a.aY,J U a.an,J U a.bl]])) r b c n2 esz T af z x rest l v a:=by
 obtain⟨m,d⟩:=eL h.E.rd a;exact h.mut m (h.E.mut m d)
def wA{N:Nat}{Q:aa->ad->Prop}{nm:ay}{s0:am}(F:bF H1 r T af s0){l':List bq}
  (o:∀H v,gG H1 H r b c n2 7 T af z (Z nm) rest l' v s'->W (lr (al P aj) N (.ptr r 0 0) (.ptr b 0 0) (.ptr c 0 0) H) Q):
  ∀(n m:Nat) (H:ad) (s:am) (l:List bq) (v:aa),n<m->l.length+n<=1000000000->gG H1 H r b c n2 7 T af z (Z nm) rest l v s->eV T n l s=I (l',s')->W (ls (al P aj) N m (.ptr r 0 0) (.ptr b 0 0) (.ptr c 0 0) H) Q
 |_,0,_,_,_,_,bd,_,_,_=>ae
 |0,m+1,_,_,_,_,_,_,_,a=>by cases a
 |n+1,m+1,H,s,l,v,bd,bz,h,a=>by
  rw[eV]at a;rw[ls];unfold yf;refine aA (lj h.E.rd) ?_;rintro _ bt ⟨rfl,rfl⟩;refine⟨aV _,?_⟩;by_cases aL:s.an=0
  ·have k:(s.an==0)=true:=by simpa using aL
   simp(disch:=try exact ah)only[aR,k];refine dZ (dD h.E.rd h.E.ba [41] (by simp)) ?_;rintro _ bu ⟨rfl,az⟩;refine⟨az.1,?_⟩;have x:=h.mut (az.mut _) (h.E.av az);rw[k,fg]at a;cases aX:aS T s [41]with
   |true=>
    rw[aX]at a;cases a;simp(disch:=try exact ah)only[aR,k,jk];exact o _ _ x
   |false=>
    rw[aX,gh,aK]at a;simp(disch:=try exact ah)only[aR,k,gh];refine aA (im x.E.rd x.E.ba) ?_;rintro _ w ⟨rfl,aC⟩;refine⟨aC.1,?_⟩;have e:=x.mut (aC.mut _) (x.E.av aC);have aW:=λH'=>e.d_.hY H'
    have bA:=e.d_.rd;have aq:=e.cell;have bB:=e.d_.one;have go:((G T s.at_).kind==1&&l.length==6)=Y->W (i w (al P aj 28 [.ptr r 0 0,J U 4] w) λbC d=>lr (al P aj) N (.ptr r 0 0) (.ptr b 0 0) (.ptr c 0 0) d) Q:=λau=>by
     rw[au,aK]at a;cases a;refine aA (kx e.E 4) ?_;rintro _ bv ⟨rfl,a0,bi⟩;exact⟨a0.1,o _ _ (e.mut a0 bi)⟩
    have B:((G T s.at_).kind==1&&l.length==6)=X->W (i w (al P aj 30 [.ptr r 0 0] w) λbl d=>
      C (j P 46 (.ptr c 0 0) 1) λO=>C (A P d 23 O) λR=>bO d (b0 P (d).next 23 1 [(0,bl)]) λbm S=>i S (c_ P S [23,23] R bm) λbn aM=>C (j P 46 (.ptr c 0 0) 1) λbo=>aG aM (aB P aM 23 bo bn) λaN=>
      bif ((aZ (A P w 23 O) R&&(aZ (A P d 23 O) R&&(aZ (A P S 23 O) R&&Y)))&&Y)then(i aN (al P aj 27 [.ptr r 0 0,Z [41]] aN) λbp V=>
      C (cI .not bp) λbr=>
      aO (I br) (i V (al P aj 31 [.ptr r 0 0,Z [44]] V) λbD aP=>
      i aP (al P aj 27 [.ptr r 0 0,Z [41]] aP) λbs ab=>
      aO (I bs) (i ab (al P aj 28 [.ptr r 0 0,J U 2] ab) λbE a_=>
      ls (al P aj) N m (.ptr r 0 0) (.ptr b 0 0) (.ptr c 0 0) a_) (ls (al P aj) N m (.ptr r 0 0) (.ptr b 0 0) (.ptr c 0 0) ab)) (ls (al P aj) N m (.ptr r 0 0) (.ptr b 0 0) (.ptr c 0 0) V))else u) Q:=λau=>by
     rw[au,aH]at a;refine aA (Cg e.E) ?_;rintro _ aI ⟨rfl,a1,bj⟩;refine⟨a1.1,?_⟩;have K:=e.mut a1 bj;have bc:=K.cell;have be:=K.d_.rd;generalize cO T s=q at K a;obtain⟨p,a3⟩:=q;obtain⟨aF,a6,a8,a9,aJ,ap,aE,L⟩:=K.add F ae p;have bf:=lB k9 aI.next (cs:=p.cells) rfl rfl
     have bx:(aI.push (.row X 4 [p.cells])).next<=a6.next:=by simp only[ad.bb];exact a9
     have aQ:=gf aJ;simp only[aa.cells]at aQ;simp(disch:=try exact ah)only[aR,cX,A,bL,aB,bL,cd,de,aa.cells,cD,cw,aQ,bc,bf,a8,gF,ap,aE,aJ,be,aq];refine aA (dD L.E.rd L.E.ba [41] (by simp)) ?_;rintro _ a7 ⟨rfl,aD⟩;refine⟨aD.1,?_⟩;have ao:=L.mut (aD.mut _) (L.E.av aD);simp only at a;cases aT:aS T a3 [41]with
     |true=>
      rw[aT,aK]at a;simp(disch:=try exact ah)only[aR,jk];exact wA F o n m a7 _ _ aF ae (by simp;omega) ao a
     |false=>
      rw[aT,aH]at a;simp(disch:=try exact ah)only[aR,gh];refine aA (g5 ao.E [44] (by simp)) ?_;rintro _ bw ⟨rfl,a2,bk⟩;refine⟨a2.1,?_⟩;have M:=ao.mut a2 bk;refine aA (dD M.E.rd M.E.ba [41] (by simp)) ?_;rintro _ a4 ⟨rfl,aw⟩;refine⟨aw.1,?_⟩;have d:=M.mut (aw.mut _) (M.E.av aw);unfold hz at a;cases aU:aS T (bg T [44] a3) [41]with
      |true=>
       rw[aU,aK]at a;simp(disch:=try exact ah)only[aR];refine aA (kx d.E 2) ?_;rintro _ a5 ⟨rfl,aY,bh⟩;refine⟨aY.1,?_⟩;exact wA F o n m a5 _ _ aF ae (by simp;omega) (d.mut aY bh) a
      |false=>
       rw[aU,aH]at a;simp(disch:=try exact ah)only[aR];exact wA F o n m a4 _ _ aF ae (by simp;omega) d a
    cases y:(G T s.at_).kind==1 with
    |true=>
     rw[y]at go B;cases ak:l.length==6 with
     |true=>
      have ar:((l.length:Int)==6)=true:=by
       have:l.length=6:=by simpa using ak
       simp;omega
      rw[ak]at go;simp(disch:=try exact ah)only[ai,Tok.v,aq,aW,y,ar];exact go rfl
     |false=>
      have ar:((l.length:Int)==6)=false:=by
       have:l.length≠6:=by simpa using ak
       simp;omega
      rw[ak]at B;simp(disch:=try exact ah)only[ai,Tok.v,aq,aW,y,ar];exact B rfl
    |false=>
     rw[y]at B;simp(disch:=try exact ah)only[ai,Tok.v,y];exact B rfl
  ·have k:(s.an==0)=false:=by simpa using aL
   rw[k]at a;cases a;simp(disch:=try exact ah)only[aR,k];exact o _ _ h
end
section
variable {H H' H1:ad}{r:Nat}{T:List Tok}{af:aa}{s s' s0:am}
abbrev qd:List aa:=[Z [],.ag,D X,Z [],J U 0,.ag,J U 0]
abbrev hH(has:Bool)(cm:ay)(rd a:Int):List aa:=[D has,Z cm,J U rd,.ag,J U a]
def zz(H1:ad)(r:Nat)(T:List Tok)(af:aa)(f:Fn)(s':am)(w:aa)(H':ad):Prop:=(∃cs,w= .agg cs/\dh.V H' (aW H1.next) f cs)/\bs r H1 H'/\bF H' r T af s'
def Mf{N n:Nat}(V:n<=900000000)(ar:T.length<=20000000)(p:bF H1 r T af s0){c n2:Nat}{nm cm:ay}{has:Bool}{rd e:Int}{l:List bq}{v:aa}{i:List a6}
  (h:gG H1 H r H1.next c n2 7 T af qd (Z nm) (hH has cm rd e) l v s) (S:dU T n s=I (i,s')):
  W (pH (al P aj) N (.ptr r 0 0) (.ptr H1.next 0 0) (.ptr c 0 0) H) (zz H1 r T af ⟨nm,l,has,cm,rd,i,e⟩ s'):=by
 unfold pH;refine aA ((PD n V).block ar h.E i s' S) ?_;rintro w o ⟨B,ab,q⟩;refine⟨B.1,?_⟩;have a:=h.mut B ab;have br:=a.br;have bI:=a.bI;have hZ:=a.hZ;have b2:=a.b2;have cM:=a.cM;have ak:=h.cM;have O:=a.cell;have F:=a.d_.one;have G:=q.db;have R:=gf F;have z:=gf G;simp only[aa.cells]at R z;have j:=a.Cj p [D has,Z cm,J U rd,w,J U e];have y:=j.two;have Q:=j.cell;have ai:=ad.aF y;have C:hN r H1.next H1 ((o.set c (.row X 7 [Z nm::v::[D has,Z cm,J U rd,w,J U e]])).set H1.next (.row X 7 [Z nm::v::[D has,Z cm,J U rd,w,J U e]])):=j.m.bH (.inr (aV _)) _
 have d:ce o (aW n2) ((o.set c (.row X 7 [Z nm::v::[D has,Z cm,J U rd,w,J U e]])).set H1.next (.row X 7 [Z nm::v::[D has,Z cm,J U rd,w,J U e]])) (aW H1.next):=λk x d g=>⟨by unfold aW at d ⊢;omega,by unfold aW at d;rw[ad.get_set_other ae,ad.get_set_other ae];exact g⟩
 have M:=a.d_.aP d;have L:cj _ (aW H1.next) i w:=q.aP (ce.trans (ce.le (ok':=aW n2) λk d=>by unfold aW at d ⊢;omega) d).s;have K:=p.oA C (s':=s') (by unfold bE;rw[ad.get_set_other ae];exact j.E.rd);simp(disch:=try exact ah)only[aR,cX,A,bL,aB,bL,cd,de,aa.cells,cD,cw,b7,O,Q,y,F,G,z];exact aD.2 ⟨⟨_,rfl,v,w,rfl,M.ax,L⟩,C.mt,K⟩
def U2{N n:Nat}(B:n<=900000000)(ar:T.length<=20000000)(k:bF H1 r T af s0){c n2:Nat}{nm:ay}{j:Int}{l:List bq}{v:aa}{w:List a6}
  (h:gG H1 H r H1.next c n2 7 T af qd (Z nm) (hH X [] 0 j) l v s) (e:dU T n (eW T (bg T [41] s)).2=I (w,s')):
  W (lr (al P aj) N (.ptr r 0 0) (.ptr H1.next 0 0) (.ptr c 0 0) H) (zz H1 r T af ⟨nm,l,(eW T (bg T [41] s)).1.1,(eW T (bg T [41] s)).1.2.1,(eW T (bg T [41] s)).1.2.2,w,j⟩ s'):=by
 unfold lr;refine aA (g5 h.E [41] (by simp)) ?_;rintro _ ab ⟨rfl,G,S⟩;refine⟨G.1,?_⟩;have i:=h.mut G S;generalize bg T [41] s=a at i e ⊢;refine aA (dD i.E.rd i.E.ba [58] (by simp)) ?_;rintro _ L ⟨rfl,q⟩;refine⟨q.1,?_⟩;have m:=i.mut (q.mut _) (i.E.av q);unfold eW at e ⊢;cases F:aS T a [58]with
 |false=>
  rw[F,aH]at e;simp(disch:=try exact ah)only[aR];exact Mf B ar k m e
 |true=>
  rw[F,aK]at e;have x:gG H1 (L.set r (.row X 5 [[af,J U (ao a).at_,J U a.aY,J U a.an,J U a.bl]])) r H1.next c n2 7 T af qd (Z nm) (hH X [] 0 j) l v (ao a):=m.UI (ao a)
  have C:=m.E.rd;unfold bE at C;have z:=x.Cj k (hH Y [] 0 j);have O:=x.cell;have ae:=m.E.ba.one;have R:IntKind.i64.wrap (a.at_+1)=(ao a).at_:=rfl;simp(disch:=try exact ah)only[aR,cX,b8,A,bL,aB,bL,cd,de,aa.cells,cD,cw,C,R,O];refine aA (tO z.E) ?_;rintro _ ad ⟨rfl,K,V⟩;refine⟨K.1,?_⟩;have p:=z.mut K V;have Q:=p.cell;generalize cz T (ao a)=o at p e ⊢;obtain⟨⟨y,d⟩,ai⟩:=o;have M:=p.Cj k (hH Y y d j);simp(disch:=try exact ah)only[aR,cX,bL,aB,bL,cd,de,aa.cells,cD,cw,Q];exact Mf B ar k M e
end
section
variable {H H' H1:ad}{r:Nat}{T:List Tok}{af:aa}{s s' s0:am}
def U3{n:Nat}(ap:n<=900000000)(ar:T.length<=20000000)(h:bF H r T af s){f:Fn}(B:hB T n s=I (f,s')):W (al P aj 32 [.ptr r 0 0] H) (zz H r T af f s'):=by
 refine bt (λ_=>WD (n+1)) ?_;have ak:=h.rd.lt;unfold hB at B;obtain⟨⟨l',aC⟩,m,ao⟩:=ct.1 B;obtain⟨⟨aE,fH⟩,C,E⟩:=ct.1 ao;simp only[aT,bS]at E;obtain⟨rfl,rfl⟩:=E;simp only at C;have e:=aw.push H (.row X 7 [qd]);have Q:=ad.a_ H (.row X 7 [qd]);simp(disch:=try exact ah)only[ye,aR,lm,hi,mn,cd];refine aA (im (h.rd.av e) (h.av e).ba) ?_;rintro _ H1 ⟨rfl,d⟩;refine⟨d.1,?_⟩;have au:=d.1;simp only[ad.bb]at au;have L:=(h.av e).av d;have R:=d.get Q;generalize G T s.at_=q;obtain⟨k,x,z,p⟩:=q;have w:=aw.push H1 (.row X 7 [Z []:: .ag::hH X [] 0 p])
 have ai:=ad.a_ H1 (.row X 7 [Z []:: .ag::hH X [] 0 p]);simp(disch:=try exact ah)only[aR,cX,bL,aB,bL,cd,aa.cells,cD,cw,b7,Tok.v];refine aA (np (L.av w)) ?_;rintro _ y ⟨rfl,a,j⟩;refine⟨a.1,?_⟩;have ay:=a.1;simp only[ad.bb]at ay;have S:=a.get (w.get R) ae;have A:=a.get ai ae;have dt:=ad.aF A;generalize bv T s=o at j m ⊢;obtain⟨nm,K⟩:=o;simp only at j m ⊢;have aq:=((((e.mut (· =r)).trans (d.mut _)).trans (w.mut _)).trans a);have F:=aq.bH (l:=H1.next) (.inr ae) (.row X 7 [Z nm:: .ag::hH X [] 0 p]);have M:=h.mut F (show bE _ r af K by unfold bE;rw[ad.get_set_other ae];exact j.rd)
 have V:(y.set H1.next (.row X 7 [Z nm:: .ag::hH X [] 0 p])).get H.next=I (.row X 7 [qd]):=by rw[ad.get_set_other ae];exact S
 have am:(y.set H1.next (.row X 7 [Z nm:: .ag::hH X [] 0 p])).get H1.next=I (.row X 7 [Z nm:: .ag::hH X [] 0 p]):=ad.get_set_same dt
 simp(disch:=try exact ah)only[aR,cX,bL,aB,bL,de,aa.cells,cD,cw,A];refine aA (g5 M [40] (by simp)) ?_;rintro _ i ⟨rfl,c,N⟩;refine⟨c.1,?_⟩;have az:=c.1;simp only[ad.cL]at az;have ab:=c.get V ae;have an:=c.get am ae;have fF:gG H i r H.next H1.next i.next 7 T af qd (Z nm) (hH X [] 0 p) [] .ag (bg T [40] K):=⟨N,ab,an,.nil,bs.oO (F.trans c),ak,aV _,ae,ae,aV _⟩
 refine wA h (s':=aC) (l':=l') (λaD v O=> ?_) n (n+1) i _ [] .ag (xy _) (by simp only[hi];omega) fF m;exact U2 ap ar h O C
end
section
variable {H H' H0 H1:ad}{r a c:Nat}{T:List Tok}{af:aa}{s s' s0:am}{g g':bw}
def AR{A:Type}{K:ja A}{t e:Nat}(y:jb t e K.esz){j:Nat->Prop}{l:List A}{v:aa}{a:b_}(L:c1 K j H1 l v)(m:bs r H1 H)(Q:H.get r=I a)(w:r<H1.next)(S:r<c)(N:c<H1.next)(s:∀k,j k->c<k){x:A}{cs:List aa}(O:K.V H (aW H1.next) x cs)(ak:l.length<=1000000000):
  ∃n H',c_ P (H.push (.row X K.esz [cs])) [t,t] v (.ax H.next 0 1 K.esz (I 1))=I (n,H')/\n.one=Y/\H.next+1<=H'.next/\H'.get c=H.get c/\∀b,c1 K (λk=>j k\/H1.next<=k) (H'.set c b) (l++[x]) n/\
   (∀k z,¬j k->k<H1.next->k≠c->k≠r->H1.get k=I z->(H'.set c b).get k=I z)/\(H'.set c b).get r=I a/\(H'.set c b).next=H'.next/\bV (λk=>k=r\/c<=k) H1 (H'.set c b):=by
 have i:(H1.set r a).next=H1.next:=ad.cL _ _ _
 have R:aw (H1.set r a) H:=⟨by rw[i];exact m.1,λk d=>by
  rw[i]at d;by_cases e:k=r
  ·rw[e,ad.get_set_same w];exact Q
  ·rw[ad.get_set_other (Ne.symm e)];exact m.2 k d e⟩
 have M:c1 K j (H1.set r a) l v:=L.aP λk x d g=>⟨d,by have:=s k d;rw[ad.get_set_other ae];exact g⟩
 obtain⟨n,H',aI,a2,a3,a4,a5,o,C⟩:=grow (r:=c) y M ((R.mut λk=>k=c\/(H1.set r a).next<=k)) s (by rw[i];exact N) (n2:=(H1.set r a).next) (by rw[i];exact O) (aV _) ak;rw[i]at a3 o;refine⟨n,H',aI,a2,a4,a5,λb=>⟨a3 b,λk z p q E F G=>o k z p q E (by rw[ad.get_set_other (Ne.symm F)];exact G) b,?_,ad.cL _ _ _,?_⟩⟩
 ·exact o r a (λh=>by have:=s r h;omega) w ae (ad.get_set_same w) b
 ·have B:=C b;refine⟨by have:=B.1;rw[i]at this;exact this,λk d au=> ?_⟩;have p:k≠r:=λe=>au (.inl e)
  have q:¬c<=k:=λe=>au (.inr e)
  rw[B.2 k (by rw[i];exact d) q,ad.get_set_other (Ne.symm p)]
def fc(H0:ad)(r c:Nat)(T:List Tok)(af:aa)(H:ad)(g:bw)(s:am):Prop:=∃rv gv fv,∃h d a:Nat->Prop,bF H r T af s/\(∀l i n e z,af= .ax l i n e z->l<r)/\H.get H0.next=I (.row X 3 [[.ag,.ag,.ag]])/\H.get (H0.next+1)=I (.row X 2 [[J U 0,J U 0]])/\H.get c=I (.row X 3 [[rv,gv,fv]])/\ c1 dq h H g.bJ rv/\c1 cQ d H g.globals gv/\c1 dh a H g.funcs fv/\(∀k,h k->c<k/\¬d k/\¬a k)/\(∀k,d k->c<k/\¬a k)/\(∀k,a k->c<k)/\H0.next+1<r/\r<c/\bV (λk=>H0.next<=k) H0 H
def fc.mt(h:fc H0 r c T af H g s)(m:bs r H H')(E:bF H' r T af s'):fc H0 r c T af H' g s':=by
 obtain⟨rv,gv,fv,e,i,j,y,l,n,o,p,bf,bo,b3,aQ,c2,c3,br,bI,d⟩:=h;refine⟨rv,gv,fv,e,i,j,E,l,m.get n ae,m.get o ae,m.get p ae,bf.aP (ce.mut m λk a=>by have:=(aQ k a).1;omega),bo.aP (ce.mut m λk a=>by have:=(c2 k a).1;omega),b3.aP (ce.mut m λk a=>by have:=c3 k a;omega),aQ,c2,c3,br,bI,?_⟩;have q:=d.1;exact⟨by have:=m.1;omega,λk a au=>by rw[m.2 k ae ae];exact d.2 k a au⟩
def fc.er(h:fc H0 r c T af H g s):bF H r T af s:=by
 obtain⟨rv,gv,fv,a,d,e,y,-⟩:=h;exact y
def fc.av(h:fc H0 r c T af H g s)(p:aw H H'):fc H0 r c T af H' g s:=h.mt (p.mut _) (h.er.av p)
end
section
variable {H H' H0 H1:ad}{r c:Nat}{T:List Tok}{af:aa}{s s' s0:am}{g g':bw}
def Dt(h:eR H af T)(aq:∀l i n e z,af= .ax l i n e z->l<r)(c:∀k,k<r->∀z,H.get k=I z->H'.get k=I z):eR H' af T:=by
 rcases h with a|⟨l,i,cap,rfl,a⟩
 ·exact .inl a
 ·exact .inr ⟨l,i,cap,rfl,a.imp id λ⟨ro,els,aX,d⟩=>⟨ro,els,c l (aq _ _ _ _ _ rfl) _ aX,d⟩⟩
def Vb(h:bF H r T af s){x:bq}(e:cO T s=(x,s')):W (al P aj 30 [.ptr r 0 0] H) λv H'=>(∃cs,v= .agg cs/\cQ.V H' (aW H.next) x cs)/\bs r H H'/\bF H' r T af s':=by
 refine(Cg h).mono ?_;rintro v H' ⟨a,d,c⟩;rw[e]at a c;exact⟨⟨_,a,rfl⟩,d,c⟩
def XL{M:Nat}(bi:M<=900000000)(ar:T.length<=20000000)(h:fc H0 r c T af H g s)(ak:g.bJ.length<=900000000){x:dB}(aN:hI T M (ao s)=I (x,s')){L:ad->O}{Q:aa->ad->Prop}(aL:∀H',fc H0 r c T af H' {g with bJ:=g.bJ++[x]} s'->W (L H') Q):
  W (C (bd (.ptr r 0 0)) λa4=>C (j P 63 a4 1) λa5=>C (A P H 3 a5) λa6=>C (w P .add 3 Y a6 (J U 1)) λa7=>C (bd (.ptr r 0 0)) λa8=>C (j P 63 a8 1) λa9=>aG H (aB P H 3 a9 a7) λd=>
   i d (al P aj 29 [.ptr r 0 0] d) λa_ l=>C (j P 26 (.ptr c 0 0) 0) λB=>C (A P l 22 B) λE=>bO l (b0 P (l).next 22 1 [(0,a_)]) λbc o=>i o (c_ P o [22,22] E bc) λbe p=>
   C (j P 26 (.ptr c 0 0) 0) λbg=>aG p (aB P p 22 bg be) λaK=>bif ((aZ (A P d 22 B) E&&(aZ (A P l 22 B) E&&(aZ (A P o 22 B) E&&Y)))&&Y)then L aK else u) Q:=by
 have aq:=h.er.rd;have bj:=h.er.ba.one;unfold bE at aq;have aO:IntKind.i64.wrap (s.at_+1)=(ao s).at_:=rfl;obtain⟨m,aM⟩:=eL h.er.rd (ao s);have d:fc H0 r c T af (H.set r (.row X 5 [[af,J U (ao s).at_,J U s.aY,J U s.an,J U s.bl]])) g (ao s):=h.mt m (h.er.mut m aM);simp(disch:=try exact ah)only[aR,cX,b8,A,bL,aB,bL,cd,de,aa.cells,cD,cw,aq,aO];generalize H.set r (.row X 5 [[af,J U (ao s).at_,J U s.aY,J U s.an,J U s.bl]])=v at d ⊢;refine aA (Ve ae d.er aN) ?_;rintro _ F ⟨⟨cs,rfl,am⟩,n,a3⟩;refine⟨n.1,?_⟩;obtain⟨rv,gv,fv,av,aU,aV,y,aD,aE,aH,K,bf,bo,b3,aQ,c2,c3,br,bI,az⟩:=d
 have fF:=y.rd.lt;have lc:=ad.aF K;have bm:=n.1;have bt:=n.get aE ae;have bu:=n.get aH ae;have N:=n.get K ae;obtain⟨G,R,S,V,aJ,ap,aI⟩:=AR (c:=c) tr bf n a3.rd fF bI lc (λk a=>(aQ k a).1) am ae;have ay:=dq.len am;have aT:=lB tr F.next (cs:=cs) ay.1 ay.2
 have aW:dq.esz=3:=rfl;rw[aW]at S;have aS:=bf.rd;have ai:=gf V;simp only[aa.cells]at ai;rw[N]at ap;have z5:=(aw.push F (.row X 3 [cs])).get N;have bh:(F.push (.row X 3 [cs])).next<=R.next:=by simp only[ad.bb];exact aJ
 have bp:=bf.one;have bq:=bo.one;have bs:=b3.one;simp(disch:=try exact ah)only[aR,cX,A,bL,aB,bL,de,aa.cells,cD,cw,N,K,z5,ap,aT,S,gF,aS,ai,V];obtain⟨aX,a1,a2,bn,aC⟩:=aI (.row X 3 [[G,gv,fv]]);have a0:=ad.aF ap;have q:∀k,k<v.next->k≠c->k≠r->¬av k->∀z,v.get k=I z->(R.set c (.row X 3 [[G,gv,fv]])).get k=I z:=λk ab d l o z p=>a1 k z o ab d l p
 have kc:∀k,av k->c<k:=λk a=>(aQ k a).1
 refine aL _ ⟨G,gv,fv,_,(λk=>aU k/\k<v.next),(λk=>aV k/\k<v.next),⟨a2,Dt y.ba aD λk a z e=>q k (ad.aF e) ae ae (λh=>by have:=kc k h;omega) z e⟩,aD,?_,?_,ad.get_set_same a0,aX,(bo.aP λk b a g=>⟨⟨a,ad.aF g⟩,q k (ad.aF g) (by have:=(c2 k a).1;omega) (by have:=(c2 k a).1;omega) (λh=>(aQ k h).2.1 a) b g⟩),(b3.aP λk b a g=>⟨⟨a,ad.aF g⟩,q k (ad.aF g) (by have:=c3 k a;omega) (by have:=c3 k a;omega) (λh=>(aQ k h).2.2 a) b g⟩),?_,?_,?_,br,bI,?_⟩
 ·exact q _ ae ae ae (λa=>by have:=kc _ a;omega) _ aE
 ·exact q _ ae ae ae (λa=>by have:=kc _ a;omega) _ aH
 ·rintro k (a|a)
  ·exact⟨(aQ k a).1,λh=>(aQ k a).2.1 h.1,λh=>(aQ k a).2.2 h.1⟩
  ·exact⟨ae,λh=>by have:=h.2;omega,λh=>by have:=h.2;omega⟩
 ·exactλk a=>⟨(c2 k a.1).1,λh=>(c2 k a.1).2 h.1⟩
 ·exactλk a=>c3 k a.1
 ·have ab:=az.1;have p:=aC.1;refine⟨ae,λk a au=> ?_⟩;have bk:k<H0.next:=by simpa using au
  rw[aC.2 k ae ae];exact az.2 k a au
def XK{M:Nat}(bi:M<=900000000)(ar:T.length<=20000000)(h:fc H0 r c T af H g s)(ak:g.globals.length<=900000000){x:bq}(aN:cO T (ao s)=(x,s')){L:ad->O}{Q:aa->ad->Prop}(aL:∀H',fc H0 r c T af H' {g with globals:=g.globals++[x]} s'->W (L H') Q):
  W (C (bd (.ptr r 0 0)) λa4=>C (j P 63 a4 1) λa5=>C (A P H 3 a5) λa6=>C (w P .add 3 Y a6 (J U 1)) λa7=>C (bd (.ptr r 0 0)) λa8=>C (j P 63 a8 1) λa9=>aG H (aB P H 3 a9 a7) λd=>
   i d (al P aj 30 [.ptr r 0 0] d) λa_ l=>C (j P 26 (.ptr c 0 0) 1) λB=>C (A P l 23 B) λE=>bO l (b0 P (l).next 23 1 [(0,a_)]) λbc o=>i o (c_ P o [23,23] E bc) λbe p=>
   C (j P 26 (.ptr c 0 0) 1) λbg=>aG p (aB P p 23 bg be) λaK=>bif ((aZ (A P d 23 B) E&&(aZ (A P l 23 B) E&&(aZ (A P o 23 B) E&&Y)))&&Y)then L aK else u) Q:=by
 have aq:=h.er.rd;have bj:=h.er.ba.one;unfold bE at aq;have aO:IntKind.i64.wrap (s.at_+1)=(ao s).at_:=rfl;obtain⟨m,aM⟩:=eL h.er.rd (ao s);have d:fc H0 r c T af (H.set r (.row X 5 [[af,J U (ao s).at_,J U s.aY,J U s.an,J U s.bl]])) g (ao s):=h.mt m (h.er.mut m aM);simp(disch:=try exact ah)only[aR,cX,b8,A,bL,aB,bL,cd,de,aa.cells,cD,cw,aq,aO];generalize H.set r (.row X 5 [[af,J U (ao s).at_,J U s.aY,J U s.an,J U s.bl]])=v at d ⊢;refine aA (Vb d.er aN) ?_;rintro _ F ⟨⟨cs,rfl,am⟩,n,a3⟩;refine⟨n.1,?_⟩;obtain⟨rv,gv,fv,aU,av,aV,y,aD,aE,aH,K,bf,bo,b3,aQ,c2,c3,br,bI,az⟩:=d
 have fF:=y.rd.lt;have lc:=ad.aF K;have bm:=n.1;have bu:=n.get aE ae;have bv:=n.get aH ae;have N:=n.get K ae;obtain⟨G,R,S,V,aJ,ap,aI⟩:=AR (c:=c) k9 bo n a3.rd fF bI lc (λk a=>(c2 k a).1) am ae;have ay:=cQ.len am;have aT:=lB k9 F.next (cs:=cs) ay.1 ay.2
 have aW:cQ.esz=4:=rfl;rw[aW]at S;have aS:=bo.rd;have ai:=gf V;simp only[aa.cells]at ai;rw[N]at ap;have z5:=(aw.push F (.row X 4 [cs])).get N;have bh:(F.push (.row X 4 [cs])).next<=R.next:=by simp only[ad.bb];exact aJ
 have bp:=bf.one;have bs:=bo.one;have bt:=b3.one;simp(disch:=try exact ah)only[aR,cX,A,bL,aB,bL,cd,de,aa.cells,cD,cw,N,K,z5,ap,aT,S,gF,aS,ai,V];obtain⟨aX,a1,a2,bn,aC⟩:=aI (.row X 3 [[rv,G,fv]]);have a0:=ad.aF ap;have q:∀k,k<v.next->k≠c->k≠r->¬av k->∀z,v.get k=I z->(R.set c (.row X 3 [[rv,G,fv]])).get k=I z:=λk ab d l o z p=>a1 k z o ab d l p
 have kc:∀k,av k->c<k:=λk a=>(c2 k a).1
 refine aL _ ⟨rv,G,fv,(λk=>aU k/\k<v.next),_,(λk=>aV k/\k<v.next),⟨a2,Dt y.ba aD λk a z e=>q k (ad.aF e) ae ae (λh=>by have:=kc k h;omega) z e⟩,aD,?_,?_,ad.get_set_same a0,(bf.aP λk b a g=>⟨⟨a,ad.aF g⟩,q k (ad.aF g) (by have:=(aQ k a).1;omega) (by have:=(aQ k a).1;omega) (λh=>(aQ k a).2.1 h) b g⟩),aX,(b3.aP λk b a g=>⟨⟨a,ad.aF g⟩,q k (ad.aF g) (by have:=c3 k a;omega) (by have:=c3 k a;omega) (λh=>(c2 k h).2 a) b g⟩),?_,?_,?_,br,bI,?_⟩
 ·exact q _ ae ae ae (λa=>by have:=kc _ a;omega) _ aE
 ·exact q _ ae ae ae (λa=>by have:=kc _ a;omega) _ aH
 ·refineλk a=>⟨(aQ k a.1).1,λh=> ?_,λh=>(aQ k a.1).2.2 h.1⟩
  rcases h with h|h
  ·exact(aQ k a.1).2.1 h
  ·have:=a.2;omega
 ·rintro k (a|a)
  ·exact⟨(c2 k a).1,λh=>(c2 k a).2 h.1⟩
  ·exact⟨ae,λh=>by have:=h.2;omega⟩
 ·exactλk a=>c3 k a.1
 ·have ab:=az.1;have p:=aC.1;refine⟨ae,λk a au=> ?_⟩;have bk:k<H0.next:=by simpa using au
  rw[aC.2 k ae ae];exact az.2 k a au
def XJ{M:Nat}(aM:M<=900000000)(ar:T.length<=20000000)(h:fc H0 r c T af H g s)(ak:g.funcs.length<=900000000){x:Fn}(aO:hB T M (ao s)=I (x,s')){L:ad->O}{Q:aa->ad->Prop}(aL:∀H',fc H0 r c T af H' {g with funcs:=g.funcs++[x]} s'->W (L H') Q):
  W (C (bd (.ptr r 0 0)) λa5=>C (j P 63 a5 1) λa6=>C (A P H 3 a6) λa7=>C (w P .add 3 Y a7 (J U 1)) λa8=>C (bd (.ptr r 0 0)) λa9=>C (j P 63 a9 1) λa_=>aG H (aB P H 3 a_ a8) λd=>
   i d (al P aj 32 [.ptr r 0 0] d) λbc l=>C (j P 26 (.ptr c 0 0) 2) λB=>C (A P l 24 B) λE=>bO l (b0 P (l).next 24 1 [(0,bc)]) λbe o=>i o (c_ P o [24,24] E be) λbg p=>
   C (j P 26 (.ptr c 0 0) 2) λbh=>aG p (aB P p 24 bh bg) λaK=>bif ((aZ (A P d 24 B) E&&(aZ (A P l 24 B) E&&(aZ (A P o 24 B) E&&Y)))&&Y)then L aK else u) Q:=by
 have aq:=h.er.rd;have bj:=h.er.ba.one;unfold bE at aq;have aS:IntKind.i64.wrap (s.at_+1)=(ao s).at_:=rfl;obtain⟨m,aN⟩:=eL h.er.rd (ao s);have d:fc H0 r c T af (H.set r (.row X 5 [[af,J U (ao s).at_,J U s.aY,J U s.an,J U s.bl]])) g (ao s):=h.mt m (h.er.mut m aN);simp(disch:=try exact ah)only[aR,cX,b8,A,bL,aB,bL,cd,de,aa.cells,cD,cw,aq,aS];generalize H.set r (.row X 5 [[af,J U (ao s).at_,J U s.aY,J U s.an,J U s.bl]])=v at d ⊢;refine aA (U3 aM ar d.er aO) ?_;rintro _ F ⟨⟨cs,rfl,am⟩,n,a4⟩;refine⟨n.1,?_⟩;obtain⟨rv,gv,fv,aV,aW,av,y,aD,aE,aH,K,bf,bo,b3,aQ,c2,c3,br,bI,az⟩:=d
 have fF:=y.rd.lt;have lc:=ad.aF K;have bm:=n.1;have bt:=n.get aE ae;have bu:=n.get aH ae;have N:=n.get K ae;obtain⟨G,R,S,V,aJ,ap,aI⟩:=AR (c:=c) tq b3 n a4.rd fF bI lc (λk a=>c3 k a) am ae;have ay:=dh.len am;have aU:=lB tq F.next (cs:=cs) ay.1 ay.2
 have a0:dh.esz=7:=rfl;rw[a0]at S;have aT:=b3.rd;have ai:=gf V;simp only[aa.cells]at ai;rw[N]at ap;have z5:=(aw.push F (.row X 7 [cs])).get N;have bi:(F.push (.row X 7 [cs])).next<=R.next:=by simp only[ad.bb];exact aJ
 have bp:=bf.one;have bq:=bo.one;have bs:=b3.one;simp(disch:=try exact ah)only[aR,cX,A,bL,aB,bL,cd,aa.cells,cD,cw,N,K,z5,ap,aU,S,gF,aT,ai,V];obtain⟨aX,a2,a3,bn,aC⟩:=aI (.row X 3 [[rv,gv,G]]);have a1:=ad.aF ap;have q:∀k,k<v.next->k≠c->k≠r->¬av k->∀z,v.get k=I z->(R.set c (.row X 3 [[rv,gv,G]])).get k=I z:=λk ab d l o z p=>a2 k z o ab d l p
 have kc:∀k,av k->c<k:=λk a=>c3 k a
 refine aL _ ⟨rv,gv,G,(λk=>aV k/\k<v.next),(λk=>aW k/\k<v.next),_,⟨a3,Dt y.ba aD λk a z e=>q k (ad.aF e) ae ae (λh=>by have:=kc k h;omega) z e⟩,aD,?_,?_,ad.get_set_same a1,(bf.aP λk b a g=>⟨⟨a,ad.aF g⟩,q k (ad.aF g) (by have:=(aQ k a).1;omega) (by have:=(aQ k a).1;omega) (λh=>(aQ k a).2.2 h) b g⟩),(bo.aP λk b a g=>⟨⟨a,ad.aF g⟩,q k (ad.aF g) (by have:=(c2 k a).1;omega) (by have:=(c2 k a).1;omega) (λh=>(c2 k a).2 h) b g⟩),aX,?_,?_,?_,br,bI,?_⟩
 ·exact q _ ae ae ae (λa=>by have:=kc _ a;omega) _ aE
 ·exact q _ ae ae ae (λa=>by have:=kc _ a;omega) _ aH
 ·refineλk a=>⟨(aQ k a.1).1,λh=>(aQ k a.1).2.1 h.1,λh=> ?_⟩
  rcases h with h|h
  ·exact(aQ k a.1).2.2 h
  ·have:=a.2;omega
 ·refineλk a=>⟨(c2 k a.1).1,λh=> ?_⟩
  rcases h with h|h
  ·exact(c2 k a.1).2 h
  ·have:=a.2;omega
 ·rintro k (a|a)
  ·exact c3 k a
  ·omega
 ·have ab:=az.1;have p:=aC.1;refine⟨ae,λk a au=> ?_⟩;have bk:k<H0.next:=by simpa using au
  rw[aC.2 k ae ae];exact az.2 k a au
end
section
variable {H H' H0 H1:ad}{r c:Nat}{T:List Tok}{af:aa}{s s' s0:am}{g g':bw}
def U5{N:Nat}{a:aa->aa->aa->aa->ad->O}{e i:aa}{Q:aa->ad->Prop}(h:fc H0 r c T af H g s)(j:∀H',fc H0 r c T af H' g (bx T 4 s)->W (a e i (.ptr r 0 0) (.ptr c 0 0) H') Q):W (j3 (al P aj) N a e i (.ptr r 0 0) (.ptr c 0 0) (D Y) H) Q:=by
 unfold j3;simp only[e8,aK];refine aA (kx h.er 4) ?_;rintro _ l ⟨rfl,d,k⟩;exact⟨d.1,j _ (h.mt d k)⟩
def U4{N M n:Nat}(w:M<=900000000)(ar:T.length<=20000000){d:aa->aa->aa->aa->ad->O}{k l:aa}{Q:aa->ad->Prop}(h:fc H0 r c T af H g s)(F:g.bJ.length<=900000000)(G:g.globals.length<=900000000)(dt:g.funcs.length<=900000000)
  (a:(bif isRec T s then(hI T M (ao s)).bind λp=>ek T M n {g with bJ:=g.bJ++[p.1]} p.2
   else bif hV T s then ek T M n {g with globals:=g.globals++[(cO T (ao s)).1]} (bg T [59] (cO T (ao s)).2)
   else bif isFun T s then(hB T M (ao s)).bind λp=>ek T M n {g with funcs:=g.funcs++[p.1]} p.2
   else ek T M n g (bx T 2 s))=I (g',s'))
  (q:∀H' e s1,fc H0 r c T af H' e s1->e.bJ.length<=g.bJ.length+1->e.globals.length<=g.globals.length+1->e.funcs.length<=g.funcs.length+1->ek T M n e s1=I (g',s')->W (d k l (.ptr r 0 0) (.ptr c 0 0) H') Q):W (j3 (al P aj) N d k l (.ptr r 0 0) (.ptr c 0 0) (D X) H) Q:=by
 unfold isRec hV isFun at a;unfold j3;simp only[e8,aH];refine aA (dD h.er.rd h.er.ba [114,101,99,111,114,100] (by simp)) ?_;rintro _ K ⟨rfl,z⟩;refine⟨z.1,?_⟩;have m:=h.av z;cases ap:aS T s [114,101,99,111,114,100]with
 |true=>
  rw[ap,aK]at a;obtain⟨⟨x,s1⟩,f1,f2⟩:=ct.1 a;simp only[e8,aK];exact XL w ar m F f1 (L:=λH'=>d k l (.ptr r 0 0) (.ptr c 0 0) H') λH' aU=>q H' _ _ aU (by simp) (by simp) (by simp) f2
 |false=>
  rw[ap,aH]at a;simp only[e8,aH];refine aA (dD m.er.rd m.er.ba [103,108,111,98,97,108] (by simp)) ?_;rintro _ R ⟨rfl,A⟩;refine⟨A.1,?_⟩;have o:=m.av A;cases aE:aS T s [103,108,111,98,97,108]with
  |true=>
   rw[aE,aK]at a;simp only[e8,aK];refine XK w ar o G (x:=(cO T (ao s)).1) (s':=(cO T (ao s)).2) rfl (L:=λH'=>i H' (al P aj 31 [.ptr r 0 0,Z [59]] H') λV E=>d k l (.ptr r 0 0) (.ptr c 0 0) E) λH' aU=> ?_
   refine aA (g5 aU.er [59] (by simp)) ?_;rintro _ C ⟨rfl,j,y⟩;exact⟨j.1,q _ _ _ (aU.mt j y) (by simp) (by simp) (by simp) a⟩
  |false=>
   rw[aE,aH]at a;simp only[e8,aH];refine aA (dD o.er.rd o.er.ba [102,117,110,99] (by simp)) ?_;rintro _ S ⟨rfl,B⟩;refine⟨B.1,?_⟩;have v:=o.av B;cases bB:aS T s [102,117,110,99]with
   |true=>
    rw[bB,aK]at a;obtain⟨⟨x,s1⟩,f1,f2⟩:=ct.1 a;simp only[e8,aK];exact XJ w ar v dt f1 (L:=λH'=>d k l (.ptr r 0 0) (.ptr c 0 0) H') λH' aU=>q H' _ _ aU (by simp) (by simp) (by simp) f2
   |false=>
    rw[bB,aH]at a;simp only[e8,aH];refine aA (kx v.er 2) ?_;rintro _ C ⟨rfl,j,y⟩;exact⟨j.1,q _ _ _ (v.mt j y) (by simp) (by simp) (by simp) a⟩
end
section
variable {H H' H0 H1:ad}{r c:Nat}{T:List Tok}{af rv gv fv:aa}{s s' s0:am}{g g':bw}
def AT{n:Nat}(l:H.get c=I (.row X 3 [[rv,gv,fv]]))(m:∀H',bK P H' .len [22] [rv]=I (J U n))(x:rv.one=Y)(b:Bool)(F:aa->ad->O):
  (S (D b) Y H (k (j P 26 (.ptr c 0 0) 0)) λo a=>S (D b) Y a (qr (A P a 22 o)) λe d=>S (D b) Y d (λq=>et (bK P .empty .len [22] [e]) (bK P d .len [22] [e]) q) λp i=>S (D b) Y i (k (w P .eql 3 Y p (J U 12))) λs h=>C (bC (D b) (I s) (I (D X))) λv=>F v h)=F (D (b&&((n:Int)==12))) H:=by
 cases b
 ·simp only[ai,ef]
 ·simp only[ai,l,m,fg]
def AU{n:Nat}(l:H.get c=I (.row X 3 [[rv,gv,fv]]))(m:∀H',bK P H' .len [23] [gv]=I (J U n))(x:gv.one=Y)(b:Bool)(F:aa->ad->O):
  (S (D b) Y H (k (j P 26 (.ptr c 0 0) 1)) λo a=>S (D b) Y a (qr (A P a 23 o)) λe d=>S (D b) Y d (λq=>et (bK P .empty .len [23] [e]) (bK P d .len [23] [e]) q) λp i=>S (D b) Y i (k (w P .eql 3 Y p (J U 8))) λs h=>C (bC (D b) (I s) (I (D X))) λv=>F v h)=F (D (b&&((n:Int)==8))) H:=by
 cases b
 ·simp only[ai,ef]
 ·simp only[ai,l,m,fg]
def R_{n:Nat}(l:H.get c=I (.row X 3 [[rv,gv,fv]]))(m:∀H',bK P H' .len [24] [fv]=I (J U n))(x:fv.one=Y)(b:Bool)(F:aa->ad->O):
  (S (D b) Y H (k (j P 26 (.ptr c 0 0) 2)) λo a=>S (D b) Y a (qr (A P a 24 o)) λe d=>S (D b) Y d (λq=>et (bK P .empty .len [24] [e]) (bK P d .len [24] [e]) q) λp i=>S (D b) Y i (k (w P .eql 3 Y p (J U 16))) λs h=>C (bC (D b) (I s) (I (D X))) λv=>F v h)=F (D (b&&((n:Int)==16))) H:=by
 cases b
 ·simp only[ai,ef]
 ·simp only[ai,l,m,fg]
def fc.cells(h:fc H0 r c T af H g s):∃rv gv fv,H.get c=I (.row X 3 [[rv,gv,fv]])/\(∀H',bK P H' .len [22] [rv]=I (J U g.bJ.length))/\(∀H',bK P H' .len [23] [gv]=I (J U g.globals.length))/\(∀H',bK P H' .len [24] [fv]=I (J U g.funcs.length))/\rv.one=Y/\gv.one=Y/\fv.one=true:=by
 obtain⟨rv,gv,fv,d,e,i,y,j,k,l,a,bf,bo,b3,-⟩:=h;exact⟨rv,gv,fv,a,bf.jV,bo.hY,b3.jW,bf.one,bo.one,b3.one⟩
def Ah(n m:Nat):((n:Int)==(m:Int))=(n==m):=by
 by_cases h:n=m
 ·subst h;simp
 ·have:(n:Int)≠(m:Int):=ae;rw[show(n==m)=X by simpa using h];exact beq_eq_false_iff_ne.2 this
def Ch{N M:Nat}(A:M<=900000000)(ar:T.length<=20000000){y z:aa}{Q:aa->ad->Prop}
  (q:∀H,fc H0 r c T af H g' s'->W (n4 (al P aj) N y z (.ptr r 0 0) (.ptr c 0 0) H) Q):
  ∀(n m:Nat) (H:ad) (s:am) (g:bw),n<m->g.bJ.length+n<=900000000->g.globals.length+n<=900000000->g.funcs.length+n<=900000000->fc H0 r c T af H g s->ek T M n g s=I (g',s')->W (mw (al P aj) N m y z (.ptr r 0 0) (.ptr c 0 0) H) Q
 |_,0,_,_,_,ak,_,_,_,_,_=>ae
 |0,m+1,_,_,_,_,_,_,_,_,a=>by cases a
 |n+1,m+1,H,s,g,ak,aw,ay,dt,h,a=>by
  rw[ek]at a;rw[mw];unfold y2;refine aA (lj h.er.rd) ?_;rintro _ ao ⟨rfl,rfl⟩;refine⟨aV _,?_⟩;by_cases R:s.an=0
  ·have i:(s.an==0)=true:=by simpa using R
   rw[i,fg]at a;simp only[aR,i];refine dZ (im h.er.rd h.er.ba) ?_;rintro _ ap ⟨rfl,S⟩;refine⟨S.1,?_⟩;have p:=h.av S;cases w:((G T s.at_).kind != 0)with
   |false=>
    rw[w,aH]at a;cases a;simp only[aR,b8,cX,Tok.v,w,i];exact q _ p
   |true=>
    rw[w,aK]at a;simp only[aR,b8,cX,Tok.v,w,i];have full:∀e,fc H0 r c T af e g s->((isRec T s&&g.bJ.length==12)||((hV T s&&g.globals.length==8)||(isFun T s&&g.funcs.length==16)))=Y->W (j3 (al P aj) N (mw (al P aj) N m) y z (.ptr r 0 0) (.ptr c 0 0) (D Y) e) Q:=λe d B=>by
     rw[B,aK]at a;exact U5 d λo j=>Ch A ar q n m o _ _ ae ae ae ae j a
    have free:∀e,fc H0 r c T af e g s->((isRec T s&&g.bJ.length==12)||((hV T s&&g.globals.length==8)||(isFun T s&&g.funcs.length==16)))=X->W (j3 (al P aj) N (mw (al P aj) N m) y z (.ptr r 0 0) (.ptr c 0 0) (D X) e) Q:=λe d B=>by
     rw[B,aH]at a;exact U4 A ar d ae ae ae a λo au s1 j aX x F ai=>Ch A ar q n m o _ _ ae ae ae ae j ai
    refine aA (dD p.er.rd p.er.ba [114,101,99,111,114,100] (by simp)) ?_;rintro _ aq ⟨rfl,V⟩;refine⟨V.1,?_⟩;have k:=p.av V;obtain⟨rv,gv,fv,l,C,n2,E,K,L,O⟩:=k.cells;rw[AT l C K,show(12:Int)=((12:Nat):Int)from rfl,Ah];cases aX:aS T s [114,101,99,111,114,100]&&g.bJ.length==12 with
    |true=>
     simp only[e8,aK];exact full _ k (by rw[show(isRec T s&&g.bJ.length==12)=Y from aX];rfl)
    |false=>
     simp only[e8,aH];refine aA (dD k.er.rd k.er.ba [103,108,111,98,97,108] (by simp)) ?_;rintro _ e ⟨rfl,ab⟩;refine⟨ab.1,?_⟩;have d:=k.av ab;obtain⟨rv,gv,fv,l,C,n2,E,K,L,O⟩:=d.cells;rw[AU l n2 L,show(8:Int)=((8:Nat):Int)from rfl,Ah];cases x:aS T s [103,108,111,98,97,108]&&g.globals.length==8 with
     |true=>
      simp only[e8,aK];exact full _ d (by rw[show(isRec T s&&g.bJ.length==12)=X from aX,show(hV T s&&g.globals.length==8)=Y from x];rfl)
     |false=>
      simp only[e8,aH];refine aA (dD d.er.rd d.er.ba [102,117,110,99] (by simp)) ?_;rintro _ o ⟨rfl,ah⟩;refine⟨ah.1,?_⟩;have j:=d.av ah;obtain⟨rv,gv,fv,l,C,n2,E,K,L,O⟩:=j.cells;rw[R_ l E O,show(16:Int)=((16:Nat):Int)from rfl,Ah];cases F:aS T s [102,117,110,99]&&g.funcs.length==16 with
      |true=>exact full _ j (by rw[show(isRec T s&&g.bJ.length==12)=X from aX,show(hV T s&&g.globals.length==8)=X from x,show(isFun T s&&g.funcs.length==16)=Y from F];rfl)
      |false=>exact free _ j (by rw[show(isRec T s&&g.bJ.length==12)=X from aX,show(hV T s&&g.globals.length==8)=X from x,show(isFun T s&&g.funcs.length==16)=X from F];rfl)
  ·have i:(s.an==0)=false:=by simpa using R
   rw[i,ef,aH]at a;cases a;simp only[aR,i];exact q _ h
end
def Qh{af:aa}{T:List Tok}{H:ad}(h:eR H af T):bA P 63 [(0,af)]=I (.agg [af,J U 0,J U 0,J U 0,J U 0]):=by
 rcases h with⟨rfl,_⟩|⟨l,i,cap,rfl,_⟩<;>kernel_rfl
section
variable {H:ad}
def UE(s:ay){g':bw}{s':am}{M n:Nat}(a5:M<=800000000)(a6:n<=800000000)(N:(c7 s).2.1=0->ek (c7 s).1 M n .none ⟨0,0,0,0⟩=I (g',s')):W (al P aj 9 [Z s] H) (D7 H (fb s g' s')):=by
 refine bt (λ_=>Xx (n+1)) ?_;have az:=(aw.push H (.row X 3 [[.ag,.ag,.ag]])).a1 (.row X 2 [[J U 0,J U 0]]);unfold fH;simp(disch:=try exact ah)only[aR,lm,hi,mn,cd];refine aA (Pb s) ?_;rintro _ j ⟨af,rfl,O,d⟩;refine⟨d.1,?_⟩;have B:=d.get ((aw.push (H.push (.row X 3 [[.ag,.ag,.ag]])) (.row X 2 [[J U 0,J U 0]])).get (ad.a_ H (.row X 3 [[.ag,.ag,.ag]])));have w:=d.get (ad.a_ (H.push (.row X 3 [[.ag,.ag,.ag]])) (.row X 2 [[J U 0,J U 0]]));have aY:=d.1;simp only[ad.bb]at aY w;have Q:= @zc s
 unfold fb;generalize c7 s=ba at O N Q ⊢;obtain⟨T,an,bl⟩:=ba;simp only at O N Q ⊢;have q:=aw.push j (.row X 2 [[J U an,J U bl]]);have gc:=ad.a_ j (.row X 2 [[J U an,J U bl]]);have C:=q.get B;have F:=q.get w;have aZ:(j.push (.row X 2 [[J U an,J U bl]])).next=j.next+1:=by simp only[ad.bb]
 have aC:=(az.trans d).trans q;have p:=O.av q;by_cases L:an=0
 ·subst L;have z0:((0:Int) != 0)=false:=rfl;simp(disch:=try exact ah)only[aR,cX,A,bL,aB,bL,cd,aa.cells,cD,cw,b7,b8,z0];generalize j.push (.row X 2 [[J U 0,J U bl]])=a at q gc C F aZ aC p ⊢;obtain⟨ar,ak⟩:=Q rfl;have aI:=Qh p;have aM:=p.one;have aJ:∀l,cg l (.agg [af,J U 0,J U 0,J U 0,J U 0])=I (.ptr l 0 0,.row X 5 [[af,J U 0,J U 0,J U 0,J U 0]]):=λl=>ei l _ (by simp only[uv,AB,eO,aM,rs])
  have z:=aw.push a (.row X 5 [[af,J U 0,J U 0,J U 0,J U 0]]);have v:=aw.push (a.push (.row X 5 [[af,J U 0,J U 0,J U 0,J U 0]])) (.row X 3 [[.ag,.ag,.ag]]);have V:=ad.a_ (a.push (.row X 5 [[af,J U 0,J U 0,J U 0,J U 0]])) (.row X 3 [[.ag,.ag,.ag]]);have au:(a.push (.row X 5 [[af,J U 0,J U 0,J U 0,J U 0]])).next=a.next+1:=by simp only[ad.bb]
  rw[au]at V;have a3:=(aC.trans z).trans v;have a4:fc H a.next (a.next+1) T af ((a.push (.row X 5 [[af,J U 0,J U 0,J U 0,J U 0]])).push (.row X 3 [[.ag,.ag,.ag]])) .none ⟨0,0,0,0⟩:=by
   refine⟨.ag,.ag,.ag,(λ_=>False),(λ_=>False),(λ_=>False),⟨v.get (ad.a_ _ _),(p.av z).av v⟩,?_,v.get (z.get C),v.get (z.get F),V,c1.nil,c1.nil,c1.nil,λ_ h=>h.elim,λ_ h=>h.elim,λ_ h=>h.elim,ae,ae,a3.mut _⟩;intro l i m e c ap;rcases p with⟨rfl,_⟩|⟨l',a7,cap,rfl,aK⟩
   ·cases ap
   ·cases ap;obtain⟨ro,els,aX,-⟩:=aK.resolve_left (by rintro rfl;simp at ak);exact ad.aF aX
  simp(disch:=try exact ah)only[aR,aI,aJ,au];refine Ch (M:=M) ae ar.n (λaG aH=> ?_) n (n+1) _ _ .none ae (by simp only[bw.none,hi];omega) (by simp only[bw.none,hi];omega) (by simp only[bw.none,hi];omega) a4 (N rfl);obtain⟨rv,gv,fv,aN,aO,aS,y,bd,E,G,ab,bf,bo,b3,aQ,c2,c3,br,bI,aq⟩:=aH;have ao:=y.rd;unfold bE at ao;have b2:=bf.one;have cM:=bo.one;have a0:=b3.one;have aT:=ad.aF E;have aU:=ad.aF G;have bc:=ad.aF ab;have aE:aw H aG:=⟨aq.1,λl ak=>aq.2 l ak ae⟩;unfold n4;refine aA (lj y.rd) ?_;rintro _ S ⟨rfl,rfl⟩;refine⟨aV _,?_⟩;unfold lg;by_cases x:s'.an=0
  ·have K:(s'.an==0)=true:=by simpa using x
   simp(disch:=try exact ah)only[cd,ai,K,jk,ab,E,G,b2,cM,a0];rw[if_pos x];have R:∀ok:Nat->Prop,(∀k,ok k->a.next+1<k)->ce S ok ((S.set H.next (.row X 3 [[rv,gv,fv]])).set (H.next+1) (.row X 2 [[J U 0,J U 0]])) (aW H.next):=λok o k b aL g=>by
    have:=o k aL;exact⟨by unfold aW;omega,by rw[ad.get_set_other ae,ad.get_set_other ae];exact g⟩
   exact aD.2 ⟨rv,gv,fv,rfl,(bf.ax).aP (R aN λk o=>(aQ k o).1),(bo.ax).aP (R aO λk o=>(c2 k o).1),(b3.ax).aP (R aS c3),(aE.bH (aV _) _).bH ae _⟩
  ·have K:(s'.an==0)=false:=by simpa using x
   simp(disch:=try exact ah)only[cd,ai,K,gh,ao,E,G,wv];rw[if_neg x];exact aD.2 ⟨.ag,.ag,.ag,rfl,cf.nil,cf.nil,cf.nil,(aE.bH (aV _) _).bH ae _⟩
 ·have z0:(an != 0)=true:=by simpa using L
  have a8:=ad.aF C;have a9:=ad.aF F;rw[if_neg L];have aT:=ad.aF B;have aU:=ad.aF w;have a2:=az.trans d;simp(disch:=try exact ah)only[cd,ai,ad.gU,z0,B,w,wv];refine aD.2 ⟨.ag,.ag,.ag,rfl,cf.nil,cf.nil,cf.nil,?_⟩
  repeat (first|exact a2|refine aw.a1 ?_ _|refine aw.bH ?_ ae _)
