/-
  Texts of one proof, laid together: L3 L4 ShL A1 Sr Z1 Z2 Z3 Z4 Z5 Z6 Z7 Z8 Z9 Z10 Z11 X2 X3 X4 X5 X6 X7 X8 X9 X10.
-/
import Derived.Test.YtghmbpmaafnodaaDoorMF
set_option linter.unusedVariables false
set_option linter.unusedSimpArgs false
set_option linter.defProp false
open Option renaming some→D,none→Z
open Bool renaming true→X,false→U
open Go.b9.aa renaming int→I,str→Y
open Go.IntKind renaming i64→J
namespace Go.Proofs.YtghmbpmaafnodaaDoor
open Go.b9
open Nat (reduceAdd reduceLeDiff)
def tJ(k:Int)(x:aJ)(p:Int):cj P 61 [(0,I J k),(1,Y x),(3,I J p)]=D (.agg [I J k,Y x,I J 0,I J p]):=ah
def rl(k:Int)(z:Int)(p:Int):cj P 61 [(0,I J k),(2,I J z),(3,I J p)]=D (.agg [I J k,Y [],I J z,I J p]):=ah
def Gj(k:Int)(p:Int):cj P 61 [(0,I J k),(3,I J p)]=D (.agg [I J k,Y [],I J 0,I J p]):=ah
def vJ(d:Bool):∀s:aJ,runN d s<=s.length
 |[]=>bk _
 |c::r=>by
  rw[runN];have:=vJ d r;cases eu c||(!d&&ey c)with
  |true=>simp only[aY,List.length_cons];omega
  |false=>simp only[aT,List.length_cons];omega
def vc(p:Nat):Option (Int×aJ×Int×Nat)->aa
 |none=> .tuple [.agg [I J 0,Y [],I J 0,I J 0],I J 0]
 |some (k,t,v,m)=> .tuple [.agg [I J k,Y t,I J v,I J p],I J m]
def Iy{H:ae}{s:aJ}(aB:s.length<=1000000000000000000){at_:Nat}(R:at_<s.length):W (aC P az 39 [Y s,I J at_] H) λv H'=>v=vc at_ (hp (s.drop at_))/\aO H H':=by
 refine cz (λ_=>JJ 0) ?_;obtain⟨c,r,u⟩:∃c r,s.drop at_=c::r:=by
  cases h:s.drop at_ with
  |nil=>have:=drop_nil h;omega
  |cons c r=>exact⟨c,r,rfl⟩
 obtain⟨Q,ah,ai,aj⟩:=drop_cons u;have l:=jD Q;have q:=aO.push H (.row U 4 [[I J 0,Y [],I J 0,I J 0]]);have N:=λd=>vJ d (s.drop at_)
 have T:(s.drop at_).length=s.length-at_:=by simp
 simp-implicitDefEqProofs(disch:=try exact al)only[eQ,reduceAdd,reduceLeDiff,reduceIte,ax,l];refine lr (oo _) ?_;cases M:kP (c.toNat:Int)with
 |true=>
  simp-implicitDefEqProofs(disch:=try exact al)only[eQ,bf,br];refine lr (C9 aB at_ af U) ?_;have V:=N U;have n:=qU (s:=s) (a:=at_) (b:=at_+runN U (s.drop at_)) af af;rw[Nat.add_sub_cancel_left]at n;simp-implicitDefEqProofs(disch:=try exact al)only[eQ,bf,br,c5,kD,n];refine aN (w4 _) ?_;rintro _ A ⟨rfl,e⟩;refine⟨e.1,?_⟩;have g2:A.get H.next=D (.row U 4 [[I J 0,Y [],I J 0,I J 0]]):=e.get (ae.bC _ _)
  have aa:=ae.aS g2;have k:hp (s.drop at_)=(bif jn ((s.drop at_).take (runN U (s.drop at_)))then D (3,(s.drop at_).take (runN U (s.drop at_)),0,runN U (s.drop at_))else bif en ((s.drop at_).take (runN U (s.drop at_)))then D (1,(s.drop at_).take (runN U (s.drop at_)),0,runN U (s.drop at_))else Z):=by
   have w:ey c=true:=M;simp only[u,hp,w,aY]
  cases hw:jn ((s.drop at_).take (runN U (s.drop at_)))with
  |true=>
   rw[k,hw];simp-implicitDefEqProofs(disch:=try exact al)only[eQ,reduceAdd,reduceLeDiff,reduceIte,ax,tJ,g2];exact bb.2 ⟨rfl,(q.trans e).cw (bk _) _⟩
  |false=>
   rw[k,hw];simp-implicitDefEqProofs(disch:=try exact al)only[eQ,bf,br];refine aN (Fb (by simp only[List.length_take];omega)) ?_;rintro _ ag ⟨rfl,x⟩;refine⟨x.1,?_⟩;have g3:=x.get g2;have dI:=ae.aS g3;cases am:en ((s.drop at_).take (runN U (s.drop at_)))with
   |true=>
    simp-implicitDefEqProofs(disch:=try exact al)only[eQ,reduceAdd,reduceLeDiff,reduceIte,ax,tJ,g3];exact bb.2 ⟨rfl,((q.trans e).trans x).cw (bk _) _⟩
   |false=>
    simp-implicitDefEqProofs(disch:=try exact al)only[eQ,reduceAdd,reduceLeDiff,reduceIte,ax,g3];exact bb.2 ⟨rfl,((q.trans e).trans x).cw (bk _) _⟩
 |false=>
  simp-implicitDefEqProofs(disch:=try exact al)only[eQ,bf,br,l];refine lr (tU _) ?_;have w:ey c=false:=M;have g1:(H.push (.row U 4 [[I J 0,Y [],I J 0,I J 0]])).get H.next=D (.row U 4 [[I J 0,Y [],I J 0,I J 0]]):=ae.bC _ _
  cases L:lB (c.toNat:Int)with
  |true=>
   have E:eu c=true:=L;simp-implicitDefEqProofs(disch:=try exact al)only[eQ,bf,br];refine lr (C9 aB at_ af X) ?_;have V:=N X;have n:=qU (s:=s) (a:=at_) (b:=at_+runN X (s.drop at_)) af af;rw[Nat.add_sub_cancel_left]at n;simp-implicitDefEqProofs(disch:=try exact al)only[eQ,bf,br,c5,kD,n];refine lr (MU (by simp only[List.length_take];omega) (λc S=>C3 _ c S)) ?_;have k:hp (s.drop at_)=(match iM 0 ((s.drop at_).take (runN X (s.drop at_)))with
    |none=>Z
    |some v=>bif (decide (1<runN X (s.drop at_))&&c.toNat==48)||(decide (runN X (s.drop at_)<(s.drop at_).length)&&ey (((s.drop at_)[runN X (s.drop at_)]?).getD 0))then Z else D (2,[],v,runN X (s.drop at_))):=by
    simp only[u,hp,w,E,aY,aT]<;>rfl
   rw[k];cases an:iM 0 ((s.drop at_).take (runN X (s.drop at_)))with
   |none=>
    simp-implicitDefEqProofs(disch:=try exact al)only[eQ,reduceAdd,reduceLeDiff,reduceIte,ax,Bool.not_false,g1];exact bb.2 ⟨rfl,aO.push _ _⟩
   |some z=>
    generalize ak:runN X (s.drop at_)=ad at*;have aZ:decide (1<ad)=decide ((1:Int)<(ad:Int)):=by rw[decide_eq_decide];omega
    have K:((c.toNat:Int)==48)=(c.toNat==48):=by rw[Bool.eq_iff_iff];simp;omega
    have ab:decide (ad<(s.drop at_).length)=decide (((at_+ad:Nat):Int)<(s.length:Int)):=by rw[decide_eq_decide,T];omega
    rw[aZ,ab];simp only
    cases m:decide ((1:Int)<(ad:Int))with
    |true=>
     cases B:c.toNat==48 with
     |true=>
      simp-implicitDefEqProofs(disch:=try exact al)only[eQ,reduceAdd,reduceLeDiff,reduceIte,ax,Bool.not_true,m,l,K,B,g1];exact bb.2 ⟨rfl,aO.push _ _⟩
     |false=>
      cases i:decide (((at_+ad:Nat):Int)<(s.length:Int))with
      |false=>
       simp-implicitDefEqProofs(disch:=try exact al)only[eQ,reduceAdd,reduceLeDiff,reduceIte,ax,Bool.not_true,m,l,K,B,kD,i,g1,rl];exact bb.2 ⟨rfl,aO.push _ _⟩
      |true=>
       obtain⟨y,o⟩:∃y,s[at_+ad]? =D y:=⟨s[at_+ad]'(by have:=of_decide_eq_true i;omega),by simp⟩;have F:=jD o;have G:(s.drop at_)[ad]? =D y:=by rw[List.getElem?_drop];exact o
       simp-implicitDefEqProofs(disch:=try exact al)only[eQ,reduceAdd,reduceLeDiff,reduceIte,ax,Bool.not_true,m,l,K,B,kD,i,F];refine nT (oo _) ?_;rw[G];cases p:kP (y.toNat:Int)with
       |true=>
        have j:ey y=true:=p;simp-implicitDefEqProofs(disch:=try exact al)only[eQ,reduceAdd,reduceLeDiff,reduceIte,ax,g1,Option.getD_some,j];exact bb.2 ⟨rfl,aO.push _ _⟩
       |false=>
        have j:ey y=false:=p;simp-implicitDefEqProofs(disch:=try exact al)only[eQ,reduceAdd,reduceLeDiff,reduceIte,ax,g1,rl,Option.getD_some,j];exact bb.2 ⟨rfl,aO.push _ _⟩
    |false=>
     cases i:decide (((at_+ad:Nat):Int)<(s.length:Int))with
     |false=>
      simp-implicitDefEqProofs(disch:=try exact al)only[eQ,reduceAdd,reduceLeDiff,reduceIte,ax,Bool.not_true,m,kD,i,g1,rl];exact bb.2 ⟨rfl,aO.push _ _⟩
     |true=>
      obtain⟨y,o⟩:∃y,s[at_+ad]? =D y:=⟨s[at_+ad]'(by have:=of_decide_eq_true i;omega),by simp⟩;have F:=jD o;have G:(s.drop at_)[ad]? =D y:=by rw[List.getElem?_drop];exact o
      simp-implicitDefEqProofs(disch:=try exact al)only[eQ,reduceAdd,reduceLeDiff,reduceIte,ax,Bool.not_true,m,kD,i,F];refine nT (oo _) ?_;rw[G];cases p:kP (y.toNat:Int)with
      |true=>
       have j:ey y=true:=p;simp-implicitDefEqProofs(disch:=try exact al)only[eQ,reduceAdd,reduceLeDiff,reduceIte,ax,g1,Option.getD_some,j];exact bb.2 ⟨rfl,aO.push _ _⟩
      |false=>
       have j:ey y=false:=p;simp-implicitDefEqProofs(disch:=try exact al)only[eQ,reduceAdd,reduceLeDiff,reduceIte,ax,g1,rl,Option.getD_some,j];exact bb.2 ⟨rfl,aO.push _ _⟩
  |false=>
   have E:eu c=false:=L;simp-implicitDefEqProofs(disch:=try exact al)only[eQ,bf,br];refine aN (L_ aB R) ?_;rintro _ A ⟨rfl,e⟩;refine⟨e.1,?_⟩;have g2:A.get H.next=D (.row U 4 [[I J 0,Y [],I J 0,I J 0]]):=e.get (ae.bC _ _)
   have aa:=ae.aS g2;have k:hp (s.drop at_)=(bif hc (s.drop at_)==[]then Z else D (4,hc (s.drop at_),0,(hc (s.drop at_)).length)):=by
    simp only[u,hp,w,E,aT]
   rw[k];cases O:hc (s.drop at_)==[]with
   |true=>
    simp-implicitDefEqProofs(disch:=try exact al)only[eQ,reduceAdd,reduceLeDiff,reduceIte,ax,O,g2];exact bb.2 ⟨rfl,(q.trans e).cw (bk _) _⟩
   |false=>
    simp-implicitDefEqProofs(disch:=try exact al)only[eQ,reduceAdd,reduceLeDiff,reduceIte,ax,O,g2,tJ];exact bb.2 ⟨rfl,(q.trans e).cw (bk _) _⟩
def Dp(l:Nat)(t:Tok):bV P l 36 1 [(0,t.v)]=D (.aA l 0 1 4 (D 1),.row U 4 [t.cells]):=by
 obtain⟨k,x,n,p⟩:=t;kernel_rfl
def EA:P.underlying 36=D (.slice 61):=ah
def xZ:hf P 61=D 40:=ah
def xp:eE P 61=D (.agg [I J 0,Y [],I J 0,I J 0]):=ah
def FT{H:ae}{L:Nat}{cs:List aa}{cap:Option Nat}{ro:Bool}(a:H.get L=D (.row ro 4 [cs])):cQ P H [36,36] .ar (.aA L 0 1 4 cap)=D (.aA H.next 0 1 4 Z,H.push (.row U 4 [cs])):=by
 simp[cQ,hk,iT,dw,EA,sV,xZ,xp,hG,er,a,aa.cells]
def FU{H:ae}{L l n:Nat}{cs:List aa}{els:List (List aa)}{cap:Option Nat}{ro:Bool}(d:H.get L=D (.row ro 4 [cs]))(e:H.get l=D (.row U 4 els))(h:els.length=n)(i:n<=1000000000):cQ P H [36,36] (.aA l 0 n 4 Z) (.aA L 0 1 4 cap)=D (.aA H.next 0 (n+1) 4 Z,(H.set l .dead).push (.row U 4 (els++[cs]))):=by
 have a:(n+1)*40<=140737488355328:=af;have c:n+1<=9223372036854775807:=af;simp[cQ,hk,iT,dw,EA,sV,xZ,xp,hG,er,d,e,aa.cells,h,a,c];rw[List.take_of_length_le af]
def ll(H0 H:ae)(v:aa)(T:List Tok):Prop:=(v= .ar/\T=[])\/∃l,v= .aA l 0 T.length 4 Z/\H0.next<=l/\H.get l=D (.row U 4 (T.map Tok.cells))
def ll.tok{H0 H:ae}{v:aa}{T:List Tok}(h:ll H0 H v T):eS H v T:=by
 rcases h with h|⟨l,rfl,_,a⟩
 ·exact .inl h
 ·refine .inr ⟨l,0,Z,rfl,.inr ⟨U,_,a,λk t c=> ?_⟩⟩;simp[c]
def ll.aM{H0 H H':ae}{v:aa}{T:List Tok}(h:ll H0 H v T)(p:aO H H'):ll H0 H' v T:=by
 rcases h with h|⟨l,e,a,c⟩
 ·exact .inl h
 ·exact .inr ⟨l,e,a,p.get c⟩
def xd{H0 H:ae}{v:aa}{T:List Tok}(h:ll H0 H v T)(p:aO H0 H)(aE:T.length<=1000000)(t:Tok):∃d H',cQ P (H.push (.row U 4 [t.cells])) [36,36] v (.aA H.next 0 1 4 (D 1))=D (d,H')/\ll H0 H' d (T++[t])/\aO H0 H'/\(H.push (.row U 4 [t.cells])).next<=H'.next/\(∀l,l<H.next->(∀e,v≠ .aA l 0 T.length 4 e)->H'.get l=H.get l):=by
 have c:(H.push (.row U 4 [t.cells])).get H.next=D (.row U 4 [t.cells]):=ae.bC _ _
 rcases h with⟨rfl,rfl⟩|⟨l,rfl,i,a⟩
 ·refine⟨_,_,FT c,.inr ⟨_,rfl,?_,?_⟩,(p.bt _).bt _,by simp,λl m _=> ?_⟩
  ·have:=p.1;simp only[ae.bT];omega
  ·exact ae.bC (H.push (.row U 4 [t.cells])) _
  ·rw[ae.dp (by simp only[ae.bT];omega),ae.dp af]
 ·have m:=ae.aS a;have k:(H.push (.row U 4 [t.cells])).get l=D (.row U 4 (T.map Tok.cells)):=by rw[ae.dp af];exact a
  refine⟨_,_,FU c k (by simp) af,.inr ⟨(H.push (.row U 4 [t.cells])).next,by simp,?_,?_⟩,?_,by simp,λj o n=> ?_⟩
  ·have:=p.1;simp only[ae.bT,ae.dj];omega
  ·have e:((H.push (.row U 4 [t.cells])).set l .dead).next=(H.push (.row U 4 [t.cells])).next:=rfl
   simp only[List.map_append,List.map_cons,List.map_nil];rw[<-e];exact ae.bC _ _
  ·exact((p.bt _).cw i _).bt _
  ·rw[ae.dp (by simp only[ae.bT,ae.dj];omega),ae.get_set_other (by rintro rfl;exact n _ rfl),ae.dp af]
def C4(d:Bool)(c:UInt8)(r:aJ)(h:(eu c||(!d&&ey c))=X):1<=runN d (c::r):=by
 rw[runN,h];simp
def L9(s:aJ):(hc s).length<=s.length:=by
 unfold hc;cases decide (2<=s.length)&&gG (s.take 2) jj with
 |true=>simp only[aY,List.length_take];omega
 |false=>
  simp only[aT];cases s with
  |nil=>simp
  |cons c r=>simp only[List.length_cons];cases ja c gW<;>simp
def B5{s:aJ}{k:Int}{t:aJ}{v:Int}{m:Nat}(h:hp s=D (k,t,v,m)):1<=m/\m<=s.length:=by
 cases s with
 |nil=>simp[hp]at h
 |cons c r=>
  have i:=λd=>vJ d (c::r)
  rw[hp]at h;cases e:ey c with
  |true=>
   have aG:=C4 U c r (by simp[e]);rw[e,aY]at h;cases hw:jn ((c::r).take (runN U (c::r)))with
   |true=>rw[hw,aY]at h;cases h;exact⟨aG,i U⟩
   |false=>
    rw[hw,aT]at h;cases j:en ((c::r).take (runN U (c::r)))with
    |true=>rw[j,aY]at h;cases h;exact⟨aG,i U⟩
    |false=>rw[j,aT]at h;cases h
  |false=>
   rw[e,aT]at h;cases a:eu c with
   |true=>
    have aG:=C4 X c r (by simp[a]);rw[a,aY]at h;split at h
    ·cases h
    ·rename_i z n;rw[Bool.cond_eq_ite]at h;split at h
     ·cases h
     ·cases h;exact⟨aG,i X⟩
   |false=>
    rw[a,aT]at h;cases aB:hc (c::r)==[]with
    |true=>rw[aB,aY]at h;cases h
    |false=>
     rw[aB,aT]at h;cases h;have l:¬hc (c::r)=[]:=by simpa using aB
     have:=L9 (c::r);exact⟨List.length_pos_iff.2 l,this⟩
def n4:∀(s:aJ) (b:Bool),c2 b s<=s.length
 |[],b=>by cases b<;>simp[c2]
 |c::r,X=>by
  have a:=n4 r X;have d:=n4 r U;rw[c2];cases c.toNat==10<;>simp only[aY,aT,List.length_cons]<;>omega
 |c::r,U=>by
  have a:=n4 r X;have d:=n4 r U;rw[c2];cases iB c
  ·cases(c==47&&r.head?==D 47)<;>simp only[aY,aT,List.length_cons]<;>omega
  ·simp only[aY,List.length_cons];omega
def wZ(H0:ae)(x:List Tok×Int×Int)(r:aa)(H':ae):Prop:=∃ao,r= .tuple [ao,.agg [I J x.2.1,I J x.2.2]]/\eS H' ao x.1/\aO H0 H'
def oq(T:List Tok):Nat ⊕ List Tok->List Tok×Int×Int
 | .inl e=>([],1,e)
 | .inr l=>(T++l,0,0)
def Gg(k p:Int):cj P 29 [(0,I J k),(1,I J p)]=D (.agg [I J k,I J p]):=ah
def D4{H0:ae}{s:aJ}(aB:s.length<=100000)(N:Nat):∀(n:Nat) (rest:aJ) (at_ m:Nat) (T:List Tok) (v:aa) (H:ae),s.drop at_=rest->at_<=s.length->ll (H0.push (.row U 2 [[I J 0,I J 0]])) H v T->aO (H0.push (.row U 2 [[I J 0,I J 0]])) H->T.length<=at_->rest.length<n->rest.length<m->
  W (lR (aC P az) N m (Y s) (.ptr H0.next 0 0) v (I J at_) H) (wZ H0 (oq T (gk n rest at_)))
 |0,_,_,_,_,_,_,_,_,_,_,_,x,_=>af
 |_,_,_,0,_,_,_,_,_,_,_,_,_,hm=>af
 |n+1,[],at_,m+1,T,v,H,h,R,i,p,aE,x,hm=>by
  have hlen:=drop_nil h;have u:¬((at_:Int)<(s.length:Int)):=af;have S:s.length=at_:=af;have g:H.get H0.next=D (.row U 2 [[I J 0,I J 0]]):=p.get (ae.bC _ _)
  have kN:=ae.aS g;obtain⟨E,H',d,j,A,L,K⟩:=xd i p af ⟨0,[],0,s.length⟩;have a:=Dp H.next ⟨0,[],0,s.length⟩
  simp only[Tok.v]at a;simp-implicitDefEqProofs(disch:=try exact al)only[lR,jb,kf,kY,kg,ke,reduceAdd,reduceLeDiff,reduceIte,ax,u,decide_false,Gj,a,d,eI];have gE:H'.get H0.next=D (.row U 2 [[I J 0,I J 0]]):=by
   rw[K _ kN ?_];exact g;intro e he;rcases i with⟨rfl,_⟩|⟨l,rfl,ai,_⟩
   ·cases he
   ·cases he;simp only[ae.bT]at ai;omega
  have aF:=ae.aS gE;have y:bj (D (.agg [I J 0,I J 0])) (.agg [I J 0,I J 0])=true:=by simp[bj,aa.beq,fX.beq]
  simp-implicitDefEqProofs(disch:=try exact al)only[jb,kf,kY,kg,ke,reduceAdd,reduceLeDiff,reduceIte,ax,gE,y];have am:aO H0 H':=(aO.push _ _).trans A;have an:aO H0 (H'.set H0.next (.row U 2 [[I J 0,I J 0]])):=am.cw (bk _) _;refine bb.2 ⟨E,rfl,?_,an⟩;rw[gk];simp only[oq];rw[S]at j;exact j.tok.aX λl ro els e=>by
   rw[ae.get_set_other];exact e;rintro rfl;rw[gE]at e;cases e
 |n+1,c::r,at_,m+1,T,v,H,h,R,i,p,aE,x,hm=>by
  obtain⟨aw,ay,O,aD⟩:=drop_cons h;have u:((at_:Int)<(s.length:Int)):=af;have g:H.get H0.next=D (.row U 2 [[I J 0,I J 0]]):=p.get (ae.bC _ _)
  have kN:=ae.aS g;simp-implicitDefEqProofs(disch:=try exact al)only[lR,jb,kf,kY,kg,ke,reduceAdd,reduceLeDiff,reduceIte,ax,u,decide_true];refine aN (Iy af O) ?_;rintro _ F ⟨rfl,o⟩;refine⟨o.1,?_⟩;have g2:=o.get g;have aG:=ae.aS g2;have ab:=i.aM o;replace p:=p.trans o;rw[h,gk];cases aj:hp (c::r)with
  |none=>
   simp only[vc];simp-implicitDefEqProofs(disch:=try exact al)only[jb,kf,kY,kg,ke,reduceAdd,reduceLeDiff,reduceIte,ax,Gg,beq_self_eq_true,g2,ae.hr];have y:bj (D (.agg [I J 1,I J at_])) (.agg [I J 1,I J at_])=true:=by simp[bj,aa.beq,fX.beq]
   refine bb.2 ⟨.ar,rfl,.inl ⟨rfl,rfl⟩,?_⟩;exact(((aO.push _ _).trans p).cw (bk _) _).bt _
  |some q=>
   obtain⟨k,t,z,b⟩:=q;obtain⟨av,M⟩:=B5 aj;have V:((b:Int)==0)=false:=by simp;omega
   simp only[vc];simp only[List.length_cons]at M x hm;obtain⟨E,H',d,j,A,L,K⟩:=xd (ab.aM (aO.push F (.row U 4 [Tok.cells ⟨k,t,z,at_⟩]))) (p.bt _) af ⟨k,t,z,at_⟩;have a:=Dp (F.next+1) ⟨k,t,z,at_⟩;simp only[Tok.v]at a;simp only[Tok.cells,ae.bT]at d L;simp only[Tok.cells]at a;have y:∀au:ae,bj (D (.agg [I J k,Y t,I J z,I J at_])) (.agg [I J k,Y t,I J z,I J at_])=true:=λ_=>by simp[bj,aa.beq,fX.beq]
   simp-implicitDefEqProofs(disch:=try exact al)only[jb,kf,kY,kg,ke,reduceAdd,reduceLeDiff,reduceIte,ax,V,a,d,eI,kD];have G:s.drop (at_+b)=(c::r).drop b:=by rw[<-List.drop_drop,h]
   have ad:=n4 ((c::r).drop b) U;simp only[List.length_drop,List.length_cons]at ad;refine lr (xV af (at_:=at_+b) af) ?_;rw[G];simp only[kf];have ag:at_+b+c2 U ((c::r).drop b)<=s.length:=af;have ak:=D4 aB N n (s.drop (at_+b+c2 U ((c::r).drop b))) (at_+b+c2 U ((c::r).drop b)) m (T++[⟨k,t,z,at_⟩]) E H' rfl ag j A (by simp;omega) (by simp;omega) (by simp;omega);refine ak.mono ?_;rintro w aq ⟨ao,aZ,B,ap⟩;have ah:s.drop (at_+b+c2 U ((c::r).drop b))=((c::r).drop b).drop (c2 U ((c::r).drop b)):=by rw[<-List.drop_drop,G]
   rw[ah]at aZ B;have Q:oq (T++[⟨k,t,z,at_⟩]) (gk n (((c::r).drop b).drop (c2 U ((c::r).drop b))) (at_+b+c2 U ((c::r).drop b)))=oq T (match gk n (((c::r).drop b).drop (c2 U ((c::r).drop b))) (at_+b+c2 U ((c::r).drop b))with
     | .inl e=> .inl e
     | .inr l=> .inr (⟨k,t,z,at_⟩::l)):=by
    cases gk n (((c::r).drop b).drop (c2 U ((c::r).drop b))) (at_+b+c2 U ((c::r).drop b))with
    |inl e=>rfl
    |inr l=>simp[oq]
   rw[Q]at aZ B;exact⟨ao,aZ,B,ap⟩
def w1{H:ae}(s:aJ):W (aC P az 14 [Y s] H) (wZ H (dx s)):=by
 refine cz (λ_=>Js (s.length+1)) ?_;by_cases c:(6000:Int)<(s.length:Int)
 ·have a:6000<s.length:=af;simp-implicitDefEqProofs(disch:=try exact al)only[jb,kf,kY,kg,ke,reduceAdd,reduceLeDiff,reduceIte,ax,c,decide_true];refine bb.2 ⟨.ar,by simp[dx,a],.inl ⟨rfl,by simp[dx,a]⟩,aO.push _ _⟩
 ·have a:¬6000<s.length:=af;simp-implicitDefEqProofs(disch:=try exact al)only[jb,kf,kg,ke,reduceAdd,reduceLeDiff,reduceIte,ax,c,decide_false];refine lr (xV (s:=s) af (at_:=0) af) ?_;simp only[List.drop_zero,Nat.zero_add,kg];have h:=n4 s U;refine(D4 (H0:=H) af (s.length+1) (s.length+1) (s.drop (c2 U s)) (c2 U s) (s.length+1) [] .ar _ rfl h (.inl ⟨rfl,rfl⟩) (.refl _) (by simp) (by simp;omega) (by simp;omega)).mono ?_;rintro v H' ⟨ao,aZ,d,i⟩;have e:oq [] (gk (s.length+1) (s.drop (c2 U s)) (c2 U s))=dx s:=by
   simp only[dx,if_neg a,qb];cases gk (s.length+1) (s.drop (c2 U s)) (c2 U s)<;>rfl
  rw[e]at aZ d;exact⟨ao,aZ,d,i⟩
section
set_option maxRecDepth 100000
noncomputable section
end
end
end Go.Proofs.YtghmbpmaafnodaaDoor
namespace Go.Proofs.YtghmbpmaafnodaaDoor.eR
open Go.b9
open Nat (reduceAdd reduceLeDiff)
structure gP(H:ae):Prop where
 sS:H.get 0=some (.row true 1 ji)
def gP.aM{H H':ae}(h:gP H)(p:aO H H'):gP H':=⟨p.get h.sS⟩
end Go.Proofs.YtghmbpmaafnodaaDoor.eR
namespace Go.Proofs.YtghmbpmaafnodaaDoor
open Go.b9
open Nat (reduceAdd reduceLeDiff)
def kw(x:aJ):Int:=match x with
 |c::_=>if 97<=c.toNat/\c.toNat<=122 then 3 else 4
 |[]=>4
def a1(T:List Tok)(s:aw)(x:aJ):Bool:=b_ T s (kw x) x
def bl(T:List Tok)(x:aJ)(s:aw):aw:=bif a1 T s x then aD s else cL T 2 s
def eU(s:aw):aw:={s with bP:=jR (s.bP+1)}
def cN(T:List Tok)(x:aJ)(s:aw):aw:=bif a1 T s x&&decide (50<=s.bP)then cL T 4 s else eU (bl T x s)
def dn(T:List Tok)(x:aJ)(s:aw):aw:=eo (bl T x s)
def bu(T:List Tok)(s:aw):aJ×aw:=bif s.aF==0&&(au T s.at_).kind==1 then((au T s.at_).text,aD s)else([],cL T 2 s)
def takeN(T:List Tok)(x:aJ):Nat->aw->aw
 |0,s=>s
 |n+1,s=>takeN T x n (bl T x s)
def gm(T:List Tok):Nat->Int->aw->(Int×aw) ⊕ aw
 |0,d,s=>bif a1 T s [91]then .inr (cL T 4 s)else .inl (d,s)
 |n+1,d,s=>bif a1 T s [91]then gm T n (d+1) (aD s)else .inl (d,s)
def fl(T:List Tok)(d:Int)(s:aw):(aJ×Int)×aw:=bif a1 T s [105,110,116]||a1 T s [98,111,111,108]then(((au T s.at_).text,d),takeN T [93] d.toNat (aD s)) else(((bu T s).1,d),takeN T [93] d.toNat (bu T s).2)
def cM(T:List Tok)(s:aw):(aJ×Int)×aw:=match gm T 3 0 s with
 | .inr s'=>(([],0),s')
 | .inl (d,s')=>fl T d s'
def j8(x:aJ):List (aJ×Int)->Int
 |[]=>0
 |(y,k)::r=>bif y==x then k else j8 x r
def ez(lev:Nat)(t:Tok):Int:=bif t.kind != 4 then 0 else j8 t.text (jE[lev]?.getD [])
mutual
def dP(T:List Tok):Nat->Nat->aw->ad aL
 |0,_,_=>Z
 |n+1,lev,s=>if lev=5 then jl T n s else(dP T n (lev+1) s).bind λp=>hI T n lev p.1 p.2
def hI(T:List Tok):Nat->Nat->aL->aw->ad aL
 |0,_,_,_=>Z
 |n+1,lev,e,s=>bif s.aF==0&&ez lev (au T s.at_) != 0 then
  (dP T n (lev+1) (aD s)).bind λp=>hI T n lev (.mk {kind:=ez lev (au T s.at_),pos:=(au T s.at_).pos} [e,p.1]) p.2
  else D (e,s)
def jl(T:List Tok):Nat->aw->ad aL
 |0,_=>Z
 |n+1,s=>bif a1 T s [45]then kB T n 12 s else bif a1 T s [33]then kB T n 13 s else(hJ T n s).bind λp=>fh T n p.1 p.2
def kB(T:List Tok):Nat->Int->aw->ad aL
 |0,_,_=>Z
 |n+1,k,s=>(dP T n 5 (cN T (au T s.at_).text s)).bind λp=>D (.mk {kind:=k,pos:=(au T s.at_).pos} [p.1],eo p.2)
def fh(T:List Tok):Nat->aL->aw->ad aL
 |0,_,_=>Z
 |n+1,e,s=>bif a1 T s [46]then fh T n (.mk {kind:=5,name:=(bu T (aD s)).1,pos:=(au T s.at_).pos} [e]) (bu T (aD s)).2
  else bif a1 T s [91]then(dP T n 0 (cN T [91] s)).bind λp=>fh T n (.mk {kind:=6,pos:=(au T s.at_).pos} [e,p.1]) (dn T [93] p.2)
  else D (e,s)
def gT(T:List Tok):Nat->aw->ad aL
 |0,_=>Z
 |n+1,s=>(dP T n 0 (cN T [40] s)).bind λp=>D (p.1,dn T [41] p.2)
def hJ(T:List Tok):Nat->aw->ad aL
 |0,_=>Z
 |n+1,s=>bif s.aF==0&&(au T s.at_).kind==2 then D (.mk {kind:=1,n:=(au T s.at_).n,pos:=(au T s.at_).pos} [],aD s)
  else bif a1 T s [116,114,117,101]||a1 T s [102,97,108,115,101]then D (.mk {kind:=2,n:=bif (au T s.at_).text==[116,114,117,101]then 1 else 0,pos:=(au T s.at_).pos} [],aD s)
  else bif a1 T s [110,117,108,108]then D (.mk {kind:=3,cf:=(cM T (aD s)).1.1,c4:=(cM T (aD s)).1.2,pos:=(au T s.at_).pos} [],(cM T (aD s)).2)
  else bif a1 T s [110,101,119]then j5 T n (au T s.at_).pos (aD s)
  else bif a1 T s [108,101,110]then(gT T n (aD s)).bind λp=>D (.mk {kind:=10,pos:=(au T s.at_).pos} [p.1],p.2)
  else bif a1 T s [114,101,97,100]then D (.mk {kind:=11,pos:=(au T s.at_).pos} [],dn T [41] (cN T [40] (aD s)))
  else bif a1 T s [40]then gT T n s
  else bif a1 T (bu T s).2 [40]then(h1 T n (bu T s).2).bind λp=>D (.mk {kind:=7,name:=(bu T s).1,pos:=(au T s.at_).pos} p.1,p.2)
  else D (.mk {kind:=4,name:=(bu T s).1,pos:=(au T s.at_).pos} [],(bu T s).2)
def j5(T:List Tok):Nat->Int->aw->ad aL
 |0,_,_=>Z
 |n+1,pos,s=>bif a1 T s [91]then
  (gT T n (bl T [93] (cM T (aD s)).2)).bind λp=>D (.mk {kind:=9,cf:=(cM T (aD s)).1.1,c4:=(cM T (aD s)).1.2,pos:=pos} [p.1],p.2)
  else D (.mk {kind:=8,cf:=(bu T s).1,pos:=pos} [],(bu T s).2)
def h1(T:List Tok):Nat->aw->ad (List aL)
 |0,_=>Z
 |n+1,s=>bif a1 T (cN T [40] s) [41]then D ([],dn T [41] (cN T [40] s))
  else(dP T n 0 (cN T [40] s)).bind λp=>gS T n [p.1] p.2
def gS(T:List Tok):Nat->List aL->aw->ad (List aL)
 |0,_,_=>Z
 |n+1,l,s=>bif a1 T s [44]then(dP T n 0 (aD s)).bind λp=>gS T n (l++[p.1]) p.2 else D (l,dn T [41] s)
end
def left(T:List Tok)(s:aw):Nat:=if s.aF=0/\0<=s.at_/\s.at_<T.length then T.length-s.at_.toNat else 0
def ee{α:Type}(p q:α×aw):Prop:=(p.2.aF=0/\q=p)\/(p.2.aF≠0/\q.2.aF=p.2.aF/\q.2.cS=p.2.cS)
def jA{T:List Tok}{s:aw}(h:s.aF≠0)(k:Int)(x:aJ):b_ T s k x=false:=by simp[b_,h]
def ev{T:List Tok}{s:aw}(h:s.aF≠0)(x:aJ):a1 T s x=false:=jA h _ _
def fj{T:List Tok}{s:aw}(h:s.aF≠0)(e:Int):cL T e s=s:=by simp[cL,h]
def AU{T:List Tok}{s:aw}(h:s.aF≠0):∀l,lE T s l=0
 |[]=>rfl
 |(x,k)::r=>by simp[lE,jA h,AU h r]
def HQ{T:List Tok}{s:aw}(h:s.aF≠0)(lev:Nat):lF T lev s=0:=AU h _
def Gy{T:List Tok}{s:aw}(h:s.aF≠0)(n:Nat)(c:2<=n):rn T n s=D (.zero,s):=by
 obtain⟨n,rfl⟩:∃m,n=m+2:=⟨n-2,af⟩;have a:(s.aF==0)=false:=by simpa using h
 simp[rn,kL,h,jw,a]
def MI{T:List Tok}{s:aw}(h:s.aF≠0)(n:Nat)(a:3<=n):nK T n s=D (.zero,s):=by
 obtain⟨n,rfl⟩:∃m,n=m+1:=⟨n-1,af⟩;simp[nK,jA h,Gy h n af]
def CX{T:List Tok}{s:aw}(h:s.aF≠0)(n:Nat)(a:1<=n)(lev:Nat)(e:aL):mX T n lev e s=D (e,s):=by
 obtain⟨n,rfl⟩:∃m,n=m+1:=⟨n-1,af⟩;simp[mX,HQ h]
def CV{T:List Tok}{s:aw}(h:s.aF≠0):∀(n lev:Nat),lev<=5->9<=n+lev->ht T n lev s=D (.zero,s)
 |0,lev,c,d=>af
 |n+1,lev,c,d=>by
  by_cases a:lev=5
  ·simp[ht,a,MI h n af]
  ·simp[ht,a,CV h n (lev+1) af af,CX h n af]
def uF{T:List Tok}{s:aw}{k:Int}{x:aJ}(h:b_ T s k x=X):s.aF=0/\(au T s.at_).kind=k/\(au T s.at_).text=x:=by
 simpa [b_]using h
def my(T:List Tok)(s:aw):aL:= .mk {kind:=4,pos:=(au T s.at_).pos} []
def BP{T:List Tok}{s:aw}(h:s.aF≠0):bu T s=([],s):=by
 have a:(s.aF==0)=false:=by simpa using h
 simp[bu,a,fj h]
def G0{T:List Tok}{s:aw}(h:s.aF≠0)(n:Nat)(c:1<=n):hJ T n s=D (my T s,s):=by
 obtain⟨n,rfl⟩:∃m,n=m+1:=⟨n-1,af⟩;have a:(s.aF==0)=false:=by simpa using h
 simp[hJ,a,ev h,BP h,my]
def tK{T:List Tok}{s:aw}(h:s.aF≠0)(n:Nat)(a:1<=n)(e:aL):fh T n e s=D (e,s):=by
 obtain⟨n,rfl⟩:∃m,n=m+1:=⟨n-1,af⟩;simp[fh,ev h]
def MJ{T:List Tok}{s:aw}(h:s.aF≠0)(n:Nat)(a:2<=n):jl T n s=D (my T s,s):=by
 obtain⟨n,rfl⟩:∃m,n=m+1:=⟨n-1,af⟩;simp[jl,ev h,G0 h n af,tK h n af]
def yq{T:List Tok}{s:aw}(h:s.aF≠0)(n:Nat)(c:1<=n)(lev:Nat)(e:aL):hI T n lev e s=D (e,s):=by
 obtain⟨n,rfl⟩:∃m,n=m+1:=⟨n-1,af⟩;have a:(s.aF==0)=false:=by simpa using h
 simp[hI,a]
def pT{T:List Tok}{s:aw}(h:s.aF≠0):∀(n lev:Nat),lev<=5->9<=n+lev->dP T n lev s=D (my T s,s)
 |0,lev,c,d=>af
 |n+1,lev,c,d=>by
  by_cases a:lev=5
  ·simp[dP,a,MJ h n af]
  ·simp[dP,a,pT h n (lev+1) af af,yq h n af]
def Bd{x:aJ}:∀l:List (aJ×Int),(∀p∈l,p.2≠0)->∀T s,s.aF=0->(au T s.at_).kind=4->lE T s l=j8 (au T s.at_).text l
 |[],_,_,_,_,_=>rfl
 |(y,k)::r,h,T,s,a,c=>by
  have e:=Bd (x:=x) r (λp aG=>h p (by simp[aG])) T s a c;have d:b_ T s 4 y=(y==(au T s.at_).text):=by
   simp only[b_,a,c,beq_self_eq_true,Bool.true_and];exact BEq.comm
  simp[lE,j8,e,d]
def uJ{T:List Tok}{s:aw}(a:(au T s.at_).kind≠4):∀l,lE T s l=0
 |[]=>rfl
 |(y,k)::r=>by
  have c:b_ T s 4 y=false:=by simp[b_,a]
  simp[lE,c,uJ a r]
def HR{T:List Tok}{s:aw}(c:s.aF=0){lev:Nat}(d:lev<5):lF T lev s=ez lev (au T s.at_):=by
 by_cases a:(au T s.at_).kind=4
 ·have:((au T s.at_).kind != 4)=false:=by simp[a]
  simp only[lF,ez,this,aT];refine Bd (x:=[]) _ ?_ T s c a;have:lev=0\/lev=1\/lev=2\/lev=3\/lev=4:=af;rcases this with rfl|rfl|rfl|rfl|rfl<;>simp[jE]
 ·have:((au T s.at_).kind != 4)=true:=by simp[a]
  simp[lF,ez,this,uJ a]
def e1(s s':aw):Prop:=(s.aF=0/\s'=s)\/(s.aF≠0/\s'.aF=s.aF/\s'.cS=s.cS)
def e1.refl(s:aw):e1 s s:=by
 by_cases h:s.aF=0
 ·exact .inl ⟨h,rfl⟩
 ·exact .inr ⟨h,rfl,rfl⟩
def e1.out{s s':aw}(h:e1 s s'):e1 (eo s) (eo s'):=by
 rcases h with⟨h,rfl⟩|⟨h,a,c⟩
 ·exact .inl ⟨h,rfl⟩
 ·exact .inr ⟨h,a,c⟩
def iz{T:List Tok}{s:aw}(h:s.aF=0)(e:Int):(cL T e s).aF=e/\(cL T e s).cS=(au T s.at_).pos:=by simp[cL,h]
def wy{T:List Tok}{s s':aw}(h:e1 s s'){x:aJ}(d:kw x=4):e1 (ej T x s).2 (bl T x s'):=by
 rcases h with⟨h,rfl⟩|⟨h,a,e⟩
 ·cases c:b_ T s' 4 x with
  |true=>simp only[ej,bl,a1,d,c,aY];exact .refl _
  |false=>simp only[ej,bl,a1,d,c,aT];exact .refl _
 ·have ba:s'.aF≠0:=by rw[a];exact h
  simp only[ej,bl,jA h,ev ba,aT,fj h,fj ba];exact .inr ⟨h,a,e⟩
def lz{T:List Tok}{s s':aw}(h:e1 s s'){x:aJ}(o:kw x=4):e1 (h3 T x s).2 (dn T x s'):=by
 have n:=wy (T:=T) h.out o;have k:e1 (bl T x (eo s')) (dn T x s'):=by
  by_cases i:s'.aF=0
  ·have l:a1 T (eo s') x=a1 T s' x:=rfl;cases m:a1 T s' x with
   |true=>simp only[dn,bl,l,m,aY];exact .inl ⟨i,rfl⟩
   |false=>
    simp only[dn,bl,l,m,aT];have j:(eo s').aF=0:=i;refine .inr ⟨by rw[(iz j 2).1];decide,?_,?_⟩
    ·rw[(iz j 2).1];exact(iz i 2).1
    ·rw[(iz j 2).2];exact(iz i 2).2
  ·have j:(eo s').aF≠0:=i;simp only[dn,bl,ev i,ev j,aT,fj i,fj j];exact .refl _
 rcases n with⟨a,b⟩|⟨a,b,c⟩
 ·rcases k with⟨d,e⟩|⟨d,e,f⟩
  ·exact .inl ⟨a,by rw[e,b];rfl⟩
  ·exact absurd (by rw[b];exact a) d
 ·rcases k with⟨d,e⟩|⟨d,e,f⟩
  ·exact absurd (b.symm.trans d) a
  ·exact .inr ⟨a,e.trans b,f.trans c⟩
def vg{T:List Tok}{s:aw}(h:s.aF=0){x:aJ}(d:kw x=4):
  ((ds T x s).1=X/\b_ T s 4 x=X/\(ds T x s).2=eU (aD s)/\cN T x s=eU (aD s))\/
  ((ds T x s).1=U/\(ds T x s).2.aF≠0/\e1 (ds T x s).2 (cN T x s)):=by
 cases c:b_ T s 4 x with
 |true=>
  by_cases a:50<=s.bP
  ·refine .inr ?_;simp only[ds,cN,a1,d,c,aY,Bool.true_and,decide_eq_true a,if_pos a];exact⟨trivial,by rw[(iz h 4).1];decide,.refl _⟩
  ·refine .inl ?_;simp only[ds,cN,bl,a1,d,c,aY,Bool.true_and,decide_eq_false a,if_neg a,aT];exact⟨trivial,trivial,rfl,trivial⟩
 |false=>
  refine .inr ?_;simp only[ds,cN,bl,a1,d,c,aT,Bool.false_and];exact⟨trivial,by rw[(iz h 2).1];decide,.inr ⟨by rw[(iz h 2).1];decide,rfl,rfl⟩⟩
def ee.of{α:Type}{a b:α}{s s':aw}(h:e1 s s')(e:s.aF=0->b=a):ee (a,s) (b,s'):=by
 rcases h with⟨h,rfl⟩|⟨h,c,d⟩
 ·exact .inl ⟨h,by rw[e h]⟩
 ·exact .inr ⟨h,c,d⟩
def ee.st{α:Type}{p q:α×aw}(h:ee p q):e1 p.2 q.2:=by
 rcases h with⟨h,rfl⟩|⟨h,a,c⟩
 ·exact .inl ⟨h,rfl⟩
 ·exact .inr ⟨h,a,c⟩
def s3{T:List Tok}{x:aJ}(a:kw x=4):∀(n:Nat) {s s':aw},e1 s s'->e1 (jS T x n s) (takeN T x n s')
 |0,_,_,h=>h
 |n+1,_,_,h=>s3 a n (wy h a)
def v8{T:List Tok}{x:aJ}:∀(n:Nat) {s:aw},s.aF≠0->takeN T x n s=s
 |0,_,_=>rfl
 |n+1,s,h=>by simp[takeN,bl,ev h,fj h,v8 n h]
def wv{T:List Tok}{x:aJ}:∀(n:Nat) {s:aw},s.aF≠0->jS T x n s=s
 |0,_,_=>rfl
 |n+1,s,h=>by simp[jS,ej,jA h,fj h,wv n h]
def B1{T:List Tok}:∀(n:Nat) (d:Int) (s:aw),gm T n d s=gV T n d s
 |0,d,s=>rfl
 |n+1,d,s=>by
  have:a1 T s [91]=b_ T s 4 [91]:=rfl;simp[gm,gV,this,B1 n]
def Iu{T:List Tok}(d:Int)(s:aw):ee (iG T d s) (fl T d s):=by
 have c:a1 T s [105,110,116]=b_ T s 3 [105,110,116]:=rfl;have e:a1 T s [98,111,111,108]=b_ T s 3 [98,111,111,108]:=rfl;by_cases a:s.aF=0
 ·cases i:b_ T s 3 [105,110,116]with
  |true=>
   simp only[iG,fl,c,e,i,Bool.not_true,Bool.false_and,Bool.and_false,aT,Bool.true_or,aY];exact ee.of (s3 rfl _ (.refl _)) λ_=>rfl
  |false=>
   cases j:b_ T s 3 [98,111,111,108]with
   |true=>
    simp only[iG,fl,c,e,i,j,Bool.not_true,Bool.and_false,aT,Bool.false_or,aY];exact ee.of (s3 rfl _ (.refl _)) λ_=>rfl
   |false=>
    by_cases l:(au T s.at_).kind=1
    ·simp only[iG,fl,c,e,i,j,bu,a,l,Bool.not_false,Bool.and_self,Bool.and_true,bne_self_eq_false,aT,Bool.or_self,beq_self_eq_true,aY];exact ee.of (s3 rfl _ (.refl _)) λ_=>rfl
    ·have k:((au T s.at_).kind==1)=false:=by simpa using l
     have n:((au T s.at_).kind != 1)=true:=by simpa using l
     have m:(cL T 2 s).aF≠0:=by rw[(iz a 2).1];decide
     simp only[iG,fl,c,e,i,j,bu,a,k,n,Bool.not_false,Bool.and_self,Bool.and_false,aY,Bool.or_self,aT,v8 _ m];exact ee.of (.refl _) λh=>absurd h m
 ·have k:(s.aF==0)=false:=by simpa using a
  have o:(aD s).aF≠0:=a;simp only[iG,fl,c,e,jA a,bu,k,Bool.false_and,Bool.or_self,aT,fj a,v8 _ a,wv _ o,Bool.not_false,Bool.and_self,Bool.and_true];cases(au T s.at_).kind != 1 with
  |true=>exact .inr ⟨a,rfl,rfl⟩
  |false=>exact .inr ⟨a,rfl,rfl⟩
def of_same(T:List Tok)(s:aw):ee (eN T s) (cM T s):=by
 simp only[eN,cM,B1];cases gV T 3 0 s with
 |inr s'=>exact ee.of (.refl _) λ_=>rfl
 |inl p=>exact Iu p.1 p.2
def lG{T:List Tok}{s:aw}(h:s.aF≠0):left T s=0:=by simp[left,h]
def A1{T:List Tok}(s:aw):left T (eU s)=left T s:=rfl
def H5{T:List Tok}(s:aw):left T (eo s)=left T s:=rfl
def mH{T:List Tok}(s:aw)(e:Int):left T (cL T e s)<=left T s:=by
 by_cases h:s.aF=0
 ·unfold left;simp only[cL,h,if_true,true_and];split
  ·rename_i a;rw[if_pos a.2];omega
  ·omega
 ·rw[fj h];omega
def MB{T:List Tok}{a:Int}(h:(au T a).kind≠0):0<=a/\a<T.length:=by
 unfold au at h;split at h
 ·exact absurd rfl h
 ·omega
def j7{T:List Tok}(aE:T.length<=40000000){s:aw}(d:s.aF=0)(e:(au T s.at_).kind≠0):left T (aD s)+1<=left T s:=by
 obtain⟨a,c⟩:=MB e;have hw:jR (s.at_+1)=s.at_+1:=wrap_i64 af af;have h:left T s=T.length-s.at_.toNat:=by
  unfold left;rw[if_pos ⟨d,a,c⟩]
 have i:left T (aD s)<=T.length-(s.at_+1).toNat:=by
  unfold left;simp only[aD,hw];split<;>omega
 omega
def lH{T:List Tok}(aE:T.length<=40000000){s:aw}{k:Int}{x:aJ}(d:k≠0)(h:b_ T s k x=X):left T (aD s)+1<=left T s:=by
 obtain⟨a,c,_⟩:=uF h;exact j7 aE a (by rw[c];exact d)
def uP{T:List Tok}(aE:T.length<=40000000)(s:aw)(x:aJ):left T (ej T x s).2<=left T s:=by
 cases h:b_ T s 4 x with
 |true=>simp only[ej,h,aY];have:=lH aE cp h;omega
 |false=>simp only[ej,h,aT];exact mH s 2
def oj{T:List Tok}(aE:T.length<=40000000)(s:aw)(x:aJ):left T (h3 T x s).2<=left T s:=uP aE (eo s) x
def A6{T:List Tok}(aE:T.length<=40000000)(x:aJ):∀(n:Nat) (s:aw),left T (jS T x n s)<=left T s
 |0,s=>bk _
 |n+1,s=>Nat.le_trans (A6 aE x n _) (uP aE s x)
def A5{T:List Tok}(aE:T.length<=40000000):∀(n:Nat) (d:Int) (s:aw),(∀a s',gV T n d s= .inl (a,s')->left T s'<=left T s)/\(∀s',gV T n d s= .inr s'->left T s'<=left T s)
 |0,d,s=>by
  cases h:b_ T s 4 [91]with
  |true=>simp only[gV,h,aY];exact⟨by simp,by rintro _ ⟨⟩;exact mH s 4⟩
  |false=>simp only[gV,h,aT];exact⟨by rintro _ _ ⟨⟩;exact bk _,by simp⟩
 |n+1,d,s=>by
  cases h:b_ T s 4 [91]with
  |true=>
   simp only[gV,h,aY];obtain⟨i1,i2⟩:=A5 aE n (d+1) (aD s);have c:=lH aE cp h;exact⟨λa s' ba=>by have:=i1 a s' ba;omega,λs' ba=>by have:=i2 s' ba;omega⟩
  |false=>simp only[gV,h,aT];exact⟨by rintro _ _ ⟨⟩;exact bk _,by simp⟩
def A4{T:List Tok}(aE:T.length<=40000000)(d:Int)(s:aw):left T (iG T d s).2<=left T s:=by
 by_cases e:s.aF=0
 ·cases c:((au T s.at_).kind != 1&&(!b_ T s 3 [105,110,116]&& !b_ T s 3 [98,111,111,108]))with
  |true=>simp only[iG,c,aY];exact mH s 2
  |false=>
   simp only[iG,c,aT];have a:(au T s.at_).kind≠0:=by
    intro a;have i:∀x,b_ T s 3 x=false:=λx=>by simp[b_,a]
    simp[a,i]at c
   have:=A6 aE [93] d.toNat (aD s);have:=j7 aE e a;omega
 ·have h:(aD s).aF≠0:=e;simp only[iG];cases((au T s.at_).kind != 1&&(!b_ T s 3 [105,110,116]&& !b_ T s 3 [98,111,111,108]))with
  |true=>exact mH s 2
  |false=>simp only[aT,wv _ h,lG h];omega
def A3{T:List Tok}(aE:T.length<=40000000)(s:aw):left T (eN T s).2<=left T s:=by
 obtain⟨i1,i2⟩:=A5 aE 3 0 s;simp only[eN];cases h:gV T 3 0 s with
 |inr s'=>exact i2 s' h
 |inl p=>
  have:=i1 p.1 p.2 h;have:=A4 aE p.1 p.2;exact Nat.le_trans (A4 aE p.1 p.2) (i1 p.1 p.2 h)
def dO{α:Type}(T:List Tok)(s:aw)(a b:Option (α×aw)):Prop:=∃p q,a=D p/\b=D q/\ee p q/\left T p.2<=left T s
def il(T:List Tok)(k:Nat):Prop:=∀(s:aw),left T s<=k->∀(lev n a:Nat),lev<=5->30*k+20<=n+lev->30*k+20<=a+lev->dO T s (ht T n lev s) (dP T a lev s)
def Jj{T:List Tok}{s:aw}(h:s.aF≠0)(lev n a:Nat)(c:lev<=5)(d:9<=n+lev)(e:9<=a+lev):dO T s (ht T n lev s) (dP T a lev s):=
 ⟨_,_,CV h n lev c d,pT h a lev c e,.inr ⟨h,rfl,rfl⟩,bk _⟩
def vD{T:List Tok}(aE:T.length<=40000000){k:Nat}(p:∀j,j<k->il T j){s:aw}(m:s.aF=0)(aB:left T s<=k){x:aJ}(o:kw x=4)(lev n d:Nat)(i:lev<=5)(u:30*k+9<=n)(v:30*k+9<=d):
  ((ds T x s).1=X/\left T (ds T x s).2+1<=left T s/\dO T (ds T x s).2 (ht T n lev (ds T x s).2) (dP T d lev (cN T x s)))\/
  ((ds T x s).1=U/\(ds T x s).2.aF≠0/\(cN T x s).aF=(ds T x s).2.aF/\(cN T x s).cS=(ds T x s).2.cS/\dP T d lev (cN T x s)=D (my T (cN T x s),cN T x s)):=by
 rcases vg (T:=T) m o with⟨h,a,c,e⟩|⟨h,a,c⟩
 ·refine .inl ⟨h,?_,?_⟩
  ·rw[c,A1];exact lH aE cp a
  ·have q:=lH aE cp a;rw[c,e];exact p (k-1) af _ (by rw[A1];omega) lev n d i af af
 ·rcases c with⟨c,_⟩|⟨_,e,l⟩
  ·exact absurd c a
  ·exact .inr ⟨h,a,e,l,pT (by rw[e];exact a) d lev i af⟩
def vS{T:List Tok}(aE:T.length<=40000000){k:Nat}(A:∀j,j<k->il T j){s:aw}(w:s.aF=0)(aB:left T s<=k)(n l:Nat)(y:30*k+9<=n)(z:30*k+9<=l):dO T s (jQ T (n+1) [40] [41] s) (gT T (l+1) s):=by
 rcases vD aE A w aB (x:=[40]) rfl 0 n l af y z with⟨d,a,p,q,c,e,i,B⟩|⟨d,a,c,e,i⟩
 ·refine⟨(p.1,(h3 T [41] p.2).2),(q.1,dn T [41] q.2),?_,?_,?_,?_⟩
  ·simp[jQ,d,c]
  ·simp[gT,e]
  ·rcases i with⟨h,rfl⟩|⟨h,u,v⟩
   ·exact ee.of (lz (.inl ⟨h,rfl⟩) rfl) λ_=>rfl
   ·refine ee.of (lz (.inr ⟨h,u,v⟩) rfl) λo=>absurd o ?_
    have:(eo p.2).aF≠0:=h;simp only[h3,ej,jA this,aT,fj this];exact h
  ·have:=oj aE p.2 [41];simp only
   omega
 ·refine⟨(.zero,(ds T [40] s).2),_,by simp[jQ,d],by simp only[gT,i];rfl,?_,?_⟩
  ·have m:(cN T [40] s).aF≠0:=by rw[c];exact a
   have o:=lz (T:=T) (x:=[41]) (e1.refl (cN T [40] s)) rfl;refine .inr ⟨a,?_,?_⟩<;>simp[dn,bl,ev m,fj m,eo,c,e]
  ·simp only[lG a];omega
def dO.le{α:Type}{T:List Tok}{s s0:aw}{a b:Option (α×aw)}(h:dO T s a b)(j:left T s<=left T s0):dO T s0 a b:=by
 obtain⟨p,q,c,d,e,i⟩:=h;exact⟨p,q,c,d,e,Nat.le_trans i j⟩
def x8{T:List Tok}{s:aw}(h:s.aF≠0)(x:aJ):(h3 T x s).2.aF≠0:=by
 have a:(eo s).aF≠0:=h;simp only[h3,ej,jA a,aT,fj a];exact h
def Bj{T:List Tok}(aE:T.length<=40000000){k:Nat}(y:∀j,j<k->il T j):∀(c n d:Nat) (s s':aw) (l l':List aL),left T s<=c->c<=k->30*c+10<=n->30*c+10<=d->e1 s s'->(s.aF=0->l'=l)->dO T s (ov T n l s) (gS T d l' s')
 |c,0,d,s,s',l,l',u,v,w,x,e,m=>af
 |c,n+1,0,s,s',l,l',u,v,w,x,e,m=>af
 |c,n+1,d+1,s,s',l,l',u,v,w,x,e,m=>by
  by_cases a:s.aF=0
  ·obtain⟨_,rfl⟩:s.aF=0/\s'=s:=e.resolve_right (by rintro⟨h,_⟩;exact h a);cases m a;have o:a1 T s' [44]=b_ T s' 4 [44]:=rfl;cases i:b_ T s' 4 [44]with
   |true=>
    have A:=lH aE cp i;obtain⟨p,q,g1,g2,g3,g4⟩:=y (c-1) af (aD s') af 0 n d af af af;have:=Bj aE y (c-1) n d p.2 q.2 (l++[p.1]) (l++[q.1]) af af af af g3.st (λaG=>by
     rcases g3 with⟨_,rfl⟩|⟨h,_⟩
     ·rfl
     ·exact absurd aG h)
    have:=this.le (s0:=s') af;simpa [ov,o_,i,gS,o,g1,g2]using this
   |false=>
    refine⟨(l,(h3 T [41] s').2),(l,dn T [41] s'),by simp[ov,o_,i],by simp[gS,o,i],ee.of (lz (.refl _) rfl) λ_=>rfl,oj aE s' [41]⟩
  ·have z:s'.aF≠0:=by
    rcases e with⟨h,_⟩|⟨_,h,_⟩
    ·exact absurd h a
    ·rw[h];exact a
   refine⟨(l,(h3 T [41] s).2),(l',dn T [41] s'),by simp[ov,o_,jA a],by simp[gS,ev z],ee.of (lz e rfl) λh=>absurd h (x8 a _),oj aE s [41]⟩
def F8{T:List Tok}(aE:T.length<=40000000){k:Nat}(z:∀j,j<k->il T j){s:aw}(y:s.aF=0)(aB:left T s<=k)(n a:Nat)(H:30*k+10<=n)(K:30*k+10<=a):dO T s (qc T (n+1) s) (h1 T (a+1) s):=by
 rcases vg (T:=T) y (x:=[40]) rfl with⟨e,c,i,w⟩|⟨e,c,i⟩
 ·have F:=lH aE cp c;have G:left T (eU (aD s))=left T (aD s):=rfl;have E:(eU (aD s)).aF=0:=y;have v:a1 T (eU (aD s)) [41]=b_ T (eU (aD s)) 4 [41]:=rfl;cases u:b_ T (eU (aD s)) 4 [41]with
  |true=>
   refine⟨([],(h3 T [41] (eU (aD s))).2),([],dn T [41] (eU (aD s))),by simp[qc,e,i,u],by simp[h1,w,v,u],ee.of (lz (.refl _) rfl) λ_=>rfl,?_⟩;have:=oj aE (eU (aD s)) [41];simp only
   omega
  |false=>
   obtain⟨p,q,g1,g2,g3,g4⟩:=z (k-1) af (eU (aD s)) af 0 n a af af af;have:=Bj aE z k n a p.2 q.2 [p.1] [q.1] af af af af g3.st (λaG=>by
    rcases g3 with⟨_,rfl⟩|⟨h,_⟩
    ·rfl
    ·exact absurd aG h)
   have:=this.le (s0:=s) af;simpa [qc,e,i,u,h1,w,v,g1,g2]using this
 ·have o:=i.resolve_left (by rintro⟨h,_⟩;exact c h);have d:(cN T [40] s).aF≠0:=by rw[o.2.1];exact c
  have B:=pT (T:=T) d a 0 af af;have A:∀l,gS T a l (cN T [40] s)=D (l,dn T [41] (cN T [40] s)):=λl=>by
   obtain⟨a,rfl⟩:∃m,a=m+1:=⟨a-1,af⟩;simp[gS,ev d]
  refine⟨([],(ds T [40] s).2),_,by simp[qc,e],by simp only[h1,ev d,aT,B,Option.bind_some,A];rfl,?_,?_⟩
  ·refine .inr ⟨c,?_,?_⟩<;>simp[dn,bl,ev d,fj d,eo,o.2.1,o.2.2]
  ·simp only[lG c];omega
def CW{T:List Tok}(aE:T.length<=40000000){k:Nat}(E:∀j,j<k->il T j){lev:Nat}(B:lev<5):∀(c n i:Nat) (s s':aw) (e d:aL),left T s<=c->c<=k->30*c+10<=n->30*c+10<=i->e1 s s'->(s.aF=0->d=e)->dO T s (mX T n lev e s) (hI T i lev d s')
 |c,0,i,s,s',e,d,w,x,y,z,l,o=>af
 |c,n+1,0,s,s',e,d,w,x,y,z,l,o=>af
 |c,n+1,i+1,s,s',e,d,w,x,y,z,l,o=>by
  by_cases a:s.aF=0
  ·obtain⟨_,rfl⟩:s.aF=0/\s'=s:=l.resolve_right (by rintro⟨h,_⟩;exact h a);cases o a;have u:=HR (T:=T) a B;have A:(s'.aF==0)=true:=by simpa using a
   by_cases m:lF T lev s'=0
   ·have v:(ez lev (au T s'.at_) != 0)=false:=by rw[<-u];simpa using m
    exact⟨(e,s'),(e,s'),by simp[mX,m],by simp[hI,A,v],.inl ⟨a,rfl⟩,bk _⟩
   ·have v:(ez lev (au T s'.at_) != 0)=true:=by rw[<-u];simpa using m
    have H:(au T s'.at_).kind≠0:=by
     intro F;exact m (uJ (by rw[F];decide) _)
    have K:=j7 aE a H;obtain⟨p,q,g1,g2,g3,g4⟩:=E (c-1) af (aD s') af (lev+1) n i af af af;have:=CW aE E B (c-1) n i p.2 q.2 (.mk {kind:=lF T lev s',pos:=(au T s'.at_).pos} [e,p.1]) (.mk {kind:=ez lev (au T s'.at_),pos:=(au T s'.at_).pos} [e,q.1]) af af af af g3.st (λaG=>by
     rcases g3 with⟨_,rfl⟩|⟨h,_⟩
     ·rw[u]
     ·exact absurd aG h)
    have:=this.le (s0:=s') af;simpa [mX,m,hI,A,v,g1,g2]using this
  ·have G:s'.aF≠0:=by
    rcases l with⟨h,_⟩|⟨_,h,_⟩
    ·exact absurd h a
    ·rw[h];exact a
   exact⟨(e,s),(d,s'),CX a (n+1) af lev e,yq G (i+1) af lev d,ee.of l λh=>absurd h a,bk _⟩
def GY{T:List Tok}{s:aw}(h:s.aF=0)(e:aL):ee (iW T e s) (aL.mk {kind:=5,name:=(bu T (aD s)).1,pos:=(au T s.at_).pos} [e],(bu T (aD s)).2):=by
 have i:(aD s).aF=0:=h;by_cases c:(au T (aD s).at_).kind=1
 ·refine Or.inl ⟨?_,?_⟩
  ·have a:((au T (aD s).at_).kind != 1)=false:=by simp[c]
   simp only[iW,a,aT];exact h
  ·simp[iW,bu,c,i]
 ·have a:((au T (aD s).at_).kind==1)=false:=by simpa using c
  have d:((au T (aD s).at_).kind != 1)=true:=by simpa using c
  have j:=iz (T:=T) i 2;refine Or.inr ⟨?_,?_,?_⟩
  ·simp only[iW,d,aY];show(cL T 2 (aD s)).aF≠0;rw[j.1];decide
  ·simp only[iW,bu,a,d,aY,Bool.and_false,aT];rfl
  ·simp only[iW,bu,a,d,aY,Bool.and_false,aT];rfl
def H3{T:List Tok}(aE:T.length<=40000000){s:aw}(d:s.aF=0)(j:(au T s.at_).kind≠0)(e:aL):left T (iW T e s).2+1<=left T s:=by
 have k:=j7 aE d j;have h:(aD s).aF=0:=d;by_cases c:(au T (aD s).at_).kind=1
 ·have a:((au T (aD s).at_).kind != 1)=false:=by simp[c]
  have:=j7 aE h (by rw[c];decide);simp only[iW,a,aT];omega
 ·have a:((au T (aD s).at_).kind != 1)=true:=by simpa using c
  have i:(aD (cL T 2 (aD s))).aF≠0:=by show(cL T 2 (aD s)).aF≠0;rw[(iz h 2).1];decide
  simp only[iW,a,aY,lG i];omega
def tQ{T:List Tok}(aE:T.length<=40000000){k:Nat}(G:∀j,j<k->il T j):∀(c n l:Nat) (s s':aw) (e o:aL),left T s<=c->c<=k->30*c+12<=n->30*c+12<=l->e1 s s'->(s.aF=0->o=e)->dO T s (jw T n e s) (fh T l o s')
 |c,0,l,s,s',e,o,B,H,K,L,w,E=>af
 |c,n+1,0,s,s',e,o,B,H,K,L,w,E=>af
 |c,n+1,l+1,s,s',e,o,B,H,K,L,w,E=>by
  by_cases a:s.aF=0
  ·obtain⟨_,rfl⟩:s.aF=0/\s'=s:=w.resolve_right (by rintro⟨h,_⟩;exact h a);cases E a;have d:(s'.aF==0)=true:=by simpa using a
   have v:a1 T s' [46]=((au T s'.at_).kind==4&&(au T s'.at_).text==[46]):=by show b_ T s' 4 [46]=_;simp only[b_,d,Bool.true_and]
   have z:a1 T s' [91]=((au T s'.at_).kind==4&&(au T s'.at_).text==[91]):=by show b_ T s' 4 [91]=_;simp only[b_,d,Bool.true_and]
   cases i:(au T s'.at_).kind==4 with
   |false=>exact⟨(e,s'),(e,s'),by simp[jw,d,i],by simp[fh,v,z,i],.inl ⟨a,rfl⟩,bk _⟩
   |true=>
    have R:(au T s'.at_).kind=4:=by simpa using i
    cases u:(au T s'.at_).text==[46]with
    |true=>
     have W:=H3 aE a (by rw[R];decide) e;have aB:=GY (T:=T) a e;have:=(tQ aE G (c-1) n l _ _ (iW T e s').1 _ af af af af aB.st (λaG=>by
      rcases aB with⟨_,h⟩|⟨h,_⟩
      ·exact congrArg Prod.fst h
      ·exact absurd aG h)).le (s0:=s') af
     simpa [jw,d,i,u,fh,v]using this
    |false=>
     cases y:(au T s'.at_).text==[91]with
     |false=>exact⟨(e,s'),(e,s'),by simp[jw,d,i,u,y],by simp[fh,v,z,i,u,y],.inl ⟨a,rfl⟩,bk _⟩
     |true=>
      obtain⟨n,rfl⟩:∃m,n=m+1:=⟨n-1,af⟩;have S:∀j,j<c->il T j:=λj V=>G j af
      rcases vD aE S a B (x:=[91]) rfl 0 n l af af af with⟨bH,bX,p,q,ck,dr,A,ab⟩|⟨bH,bX,ck,dr,A⟩
      ·have P:=lz (T:=T) (x:=[93]) A.st rfl;have aa:=oj aE p.2 [93];have:=(tQ aE G (c-1) (n+1) l (h3 T [93] p.2).2 (dn T [93] q.2) (.mk {kind:=6,pos:=(au T s'.at_).pos} [e,p.1]) (.mk {kind:=6,pos:=(au T s'.at_).pos} [e,q.1]) af af af af P (λaG=>by
        rcases A with⟨_,rfl⟩|⟨h,_⟩
        ·rfl
        ·exact absurd aG (x8 h _))).le (s0:=s') af
       simpa [jw,d,i,u,y,jQ,bH,ck,fh,v,z,dr]using this
      ·have F:(cN T [91] s').aF≠0:=by rw[ck];exact bX
       have M:((ds T [91] s').2.aF==0)=false:=by simpa using bX
       have N:(dn T [93] (cN T [91] s'))=eo (cN T [91] s'):=by simp[dn,bl,ev F,fj F]
       have O:(eo (cN T [91] s')).aF≠0:=F;refine⟨(.mk {kind:=6,pos:=(au T s'.at_).pos} [e,.zero],(ds T [91] s').2),(.mk {kind:=6,pos:=(au T s'.at_).pos} [e,my T (cN T [91] s')],eo (cN T [91] s')),?_,?_,.inr ⟨bX,ck,dr⟩,?_⟩
       ·simp[jw,d,i,u,y,jQ,bH,M]
       ·simp[fh,v,z,i,u,y,A,N,tK O l af]
       ·simp only[lG bX];omega
  ·have Q:s'.aF≠0:=by
    rcases w with⟨h,_⟩|⟨_,h,_⟩
    ·exact absurd h a
    ·rw[h];exact a
   have d:(s.aF==0)=false:=by simpa using a
   exact⟨(e,s),(o,s'),by simp[jw,d],tK Q (l+1) af o,ee.of w λh=>absurd h a,bk _⟩
def dO.pure{α:Type}{T:List Tok}{s:aw}{p q:α×aw}(h:ee p q)(a:left T p.2<=left T s):dO T s (D p) (D q):=⟨p,q,rfl,rfl,h,a⟩
def dO.map{α β:Type}{T:List Tok}{s:aw}{a b:Option (α×aw)}(h:dO T s a b)(f:α->β):dO T s (a.bind λp=>D (f p.1,p.2)) (b.bind λp=>D (f p.1,p.2)):=by
 obtain⟨p,q,rfl,rfl,e,i⟩:=h;refine⟨(f p.1,p.2),(f q.1,q.2),rfl,rfl,?_,i⟩;rcases e with⟨h,rfl⟩|⟨h,c,d⟩
 ·exact .inl ⟨h,rfl⟩
 ·exact .inr ⟨h,c,d⟩
def Is{T:List Tok}(aE:T.length<=40000000){k:Nat}(i:∀j,j<k->il T j){s:aw}(a:s.aF=0)(d:(au T s.at_).kind=1)(aB:left T s<=k)(n c:Nat)(u:30*k+9<=n)(v:30*k+9<=c):
  dO T s (u9 T (n+1) s) (bif a1 T (bu T s).2 [40]then(h1 T (c+1) (bu T s).2).bind λp=>D (.mk {kind:=7,name:=(bu T s).1,pos:=(au T s.at_).pos} p.1,p.2)else D (.mk {kind:=4,name:=(bu T s).1,pos:=(au T s.at_).pos} [],(bu T s).2)):=by
 have h:bu T s=((au T s.at_).text,aD s):=by simp[bu,a,d]
 have o:=j7 aE a (by rw[d];decide);have e:a1 T (aD s) [40]=b_ T (aD s) 4 [40]:=rfl;rw[h];simp only[u9,e];cases b_ T (aD s) 4 [40]with
 |true=>
  obtain⟨n,rfl⟩:∃m,n=m+1:=⟨n-1,af⟩;have:=F8 aE (k:=k-1) (λj q=>i j af) (s:=aD s) a af n c af af;exact(this.map λl=>aL.mk {kind:=7,name:=(au T s.at_).text,pos:=(au T s.at_).pos} l).le af
 |false=>exact dO.pure (.inl ⟨a,rfl⟩) (by simp only;omega)
def Hg{T:List Tok}(aE:T.length<=40000000){k:Nat}(O:∀j,j<k->il T j){s:aw}(o:s.aF=0)(L:(au T s.at_).kind=3)(aB:left T s<=k)(n a:Nat)(W:30*k+9<=n)(aa:30*k+9<=a):
  dO T s (um T (n+1) s) (j5 T (a+1) (au T s.at_).pos (aD s)):=by
 have P:=j7 aE o (by rw[L];decide);have p:(aD s).aF=0:=o;have z:a1 T (aD s) [91]=b_ T (aD s) 4 [91]:=rfl;simp only[um,j5,z];cases c:b_ T (aD s) 4 [91]with
 |true=>
  have Q:=lH aE cp c;have v:=of_same T (aD (aD s));have hw:=wy (T:=T) (x:=[93]) v.st rfl;have S:=A3 aE (aD (aD s));have V:=uP aE (eN T (aD (aD s))).2 [93];simp only[aY];obtain⟨n,rfl⟩:∃m,n=m+1:=⟨n-1,af⟩;obtain⟨a,rfl⟩:∃m,a=m+1:=⟨a-1,af⟩;by_cases aG:(ej T [93] (eN T (aD (aD s))).2).2.aF=0
  ·have M:(eN T (aD (aD s))).2.aF=0:=by
    by_cases h:(eN T (aD (aD s))).2.aF=0
    ·exact h
    ·exact absurd aG (by simp only[ej,jA h,aT,fj h];exact h)
   have w:=(v.resolve_right (by rintro⟨h,_⟩;exact h M)).2;have y:=(hw.resolve_right (by rintro⟨h,_⟩;exact h aG)).2;rw[w]at y;rw[w,y];have:=vS aE (k:=k-1) (λj R=>O j af) (s:=(ej T [93] (eN T (aD (aD s))).2).2) aG af n a af af;exact(this.map λe=>aL.mk {kind:=9,cf:=(eN T (aD (aD s))).1.1,c4:=(eN T (aD (aD s))).1.2,pos:=(au T s.at_).pos} [e]).le af
  ·have q:=hw.resolve_left (by rintro⟨h,_⟩;exact aG h);have i:(bl T [93] (cM T (aD (aD s))).2).aF≠0:=by rw[q.2.1];exact aG
   have F:(ds T [40] (ej T [93] (eN T (aD (aD s))).2).2)=(U,(ej T [93] (eN T (aD (aD s))).2).2):=by simp[ds,jA aG,fj aG]
   have G:cN T [40] (bl T [93] (cM T (aD (aD s))).2)=eU (bl T [93] (cM T (aD (aD s))).2):=by
    simp only[cN,ev i,Bool.false_and,aT];rw[bl,ev i,aT,fj i]
   have l:(eU (bl T [93] (cM T (aD (aD s))).2)).aF≠0:=i;have H:dn T [41] (eU (bl T [93] (cM T (aD (aD s))).2))=eo (eU (bl T [93] (cM T (aD (aD s))).2)):=by
    unfold dn;rw[bl,ev l,aT,fj l]
   have N:jQ T (n+1) [40] [41] (ej T [93] (eN T (aD (aD s))).2).2=D (.zero,(ej T [93] (eN T (aD (aD s))).2).2):=by simp[jQ,F]
   have K:gT T (a+1) (bl T [93] (cM T (aD (aD s))).2)=D (my T (eU (bl T [93] (cM T (aD (aD s))).2)),eo (eU (bl T [93] (cM T (aD (aD s))).2))):=by
    simp only[gT,G,pT l a 0 af af,Option.bind_some,H]
   simp only[N,K,Option.bind_some];exact dO.pure (.inr ⟨aG,q.2.1,q.2.2⟩) (by simp only[lG aG];omega)
 |false=>
  simp only[aT];by_cases d:(au T (aD s).at_).kind=1
  ·have c:((au T (aD s).at_).kind != 1)=false:=by simp[d]
   have:=j7 aE p (by rw[d];decide);have A:bu T (aD s)=((au T (aD s).at_).text,aD (aD s)):=by simp[bu,p,d]
   simp only[c,aT,A];exact dO.pure (.inl ⟨o,rfl⟩) (by simp only;omega)
  ·have c:((au T (aD s).at_).kind==1)=false:=by simpa using d
   have E:((au T (aD s).at_).kind != 1)=true:=by simpa using d
   have B:=iz (T:=T) p 2;have u:(aD (cL T 2 (aD s))).aF≠0:=by show(cL T 2 (aD s)).aF≠0;rw[B.1];decide
   simp only[E,aY,bu,c,Bool.and_false,aT];exact dO.pure (.inr ⟨u,rfl,rfl⟩) (by simp only[lG u];omega)
def p4{T:List Tok}{s:aw}(a:s.aF=0)(x:aJ):a1 T s x=((au T s.at_).kind==kw x&&(au T s.at_).text==x):=by simp[a1,b_,a]
def H4{T:List Tok}(aE:T.length<=40000000)(s:aw)(x:aJ):left T (ds T x s).2<=left T s:=by
 cases h:b_ T s 4 x with
 |true=>
  simp only[ds,h,aY];split
  ·exact mH s 4
  ·have:=lH aE cp h;have e:left T {s with at_:=jR (s.at_+1),bP:=jR (s.bP+1)}=left T (aD s):=rfl;simp only[e];omega
 |false=>simp only[ds,h,aT];exact mH s 2
def I6{T:List Tok}{s:aw}(k:s.aF=0):ee (qD T s) (aL.mk {kind:=11,pos:=(au T s.at_).pos} [],dn T [41] (cN T [40] (aD s))):=by
 have l:(aD s).aF=0:=k;simp only[qD];rcases vg (T:=T) l (x:=[40]) rfl with⟨c,a,d,j⟩|⟨c,a,d⟩
 ·simp only[c,d,j,aY];exact ee.of (lz (.refl _) rfl) λ_=>rfl
 ·simp only[c,aT];have e:=d.resolve_left (by rintro⟨h,_⟩;exact a h);have i:(cN T [40] (aD s)).aF≠0:=by rw[e.2.1];exact a
  refine .inr ⟨a,?_,?_⟩<;>simp[dn,bl,ev i,fj i,eo,e.2.1,e.2.2]
def H6{T:List Tok}(aE:T.length<=40000000)(s:aw):left T (qD T s).2<=left T (aD s):=by
 have a:=H4 aE (aD s) [40];simp only[qD];cases(ds T [40] (aD s)).1 with
 |true=>simp only[aY];have:=oj aE (ds T [40] (aD s)).2 [41];omega
 |false=>simp only[aT];omega
def G1{T:List Tok}{s:aw}(d:s.aF=0)(a:(au T s.at_).kind≠1):bu T s=([],cL T 2 s)/\(cL T 2 s).aF≠0:=by
 have c:((au T s.at_).kind==1)=false:=by simpa using a
 exact⟨by simp[bu,c],by rw[(iz d 2).1];decide⟩
def G2{T:List Tok}(aE:T.length<=40000000){k:Nat}(A:∀j,j<k->il T j){s:aw}(a:s.aF=0)(aB:left T s<=k)(n c:Nat)(ak:30*k+10<=n)(al:30*k+10<=c):
  dO T s (kL T (n+1) s) (hJ T (c+1) s):=by
 obtain⟨n,rfl⟩:∃m,n=m+1:=⟨n-1,af⟩;obtain⟨c,rfl⟩:∃m,c=m+1:=⟨c-1,af⟩;have ah:(s.aF==0)=true:=by simpa using a
 have l:kw [116,114,117,101]=3:=rfl;have o:kw [102,97,108,115,101]=3:=rfl;have q:kw [110,117,108,108]=3:=rfl;have u:kw [110,101,119]=3:=rfl;have v:kw [108,101,110]=3:=rfl;have w:kw [114,101,97,100]=3:=rfl;have x:kw [40]=4:=rfl;have B:(au T s.at_).kind≠1->dO T s (D (aL.zero,cL T 2 s)) (bif a1 T (bu T s).2 [40]then(h1 T (c+1) (bu T s).2).bind λp=>D (.mk {kind:=7,name:=(bu T s).1,pos:=(au T s.at_).pos} p.1,p.2)else D (.mk {kind:=4,name:=(bu T s).1,pos:=(au T s.at_).pos} [],(bu T s).2)):=by
  intro d;obtain⟨P,E⟩:=G1 (T:=T) a d;rw[P];simp only[ev E,aT];exact dO.pure (.inr ⟨E,rfl,rfl⟩) (mH s 2)
 by_cases y:(au T s.at_).kind=2
 ·have:=j7 aE a (by rw[y];decide);simp only[kL,hJ,a,y,ne_eq,not_true,if_false,if_true,beq_self_eq_true,Bool.and_self,aY];exact dO.pure (.inl ⟨a,rfl⟩) (by simp only;omega)
 have O:((au T s.at_).kind==2)=false:=by simpa using y
 by_cases d:(au T s.at_).kind=1
 ·have:=Is aE A a d aB n c af af;have V:((1:Int)==3)=false:=rfl;have ad:((1:Int)==4)=false:=rfl;have R:((1:Int)==2)=false:=rfl;have Q:¬((1:Int)=2):=cp;simpa only[kL,hJ,a,d,Q,ne_eq,not_true,if_false,if_true,beq_self_eq_true,Bool.and_false,Bool.true_and,V,ad,R,aT,p4 a,l,o,q,u,v,w,x,Bool.false_and,Bool.or_self,or_true,true_or]using this
 by_cases z:(au T s.at_).kind=4
 ·have G:((4:Int)==3)=false:=rfl;have F:((4:Int)==2)=false:=rfl;have H:¬((4:Int)=2):=cp;have K:¬((4:Int)=1):=cp;have L:((4:Int)=3\/(4:Int)=4):= .inr rfl;cases N:(au T s.at_).text==[40]with
  |true=>
   have:=vS aE A a aB n c af af;simpa only[kL,hJ,a,z,H,K,L,G,F,N,ne_eq,not_true,if_false,if_true,beq_self_eq_true,Bool.and_false,Bool.true_and,aT,aY,p4 a,l,o,q,u,v,w,x,Bool.false_and,Bool.or_self,or_true,true_or]using this
  |false=>
   have:=B d;simpa only[kL,hJ,a,z,H,K,L,G,F,N,ne_eq,not_true,if_false,if_true,beq_self_eq_true,Bool.and_false,Bool.true_and,aT,aY,p4 a,l,o,q,u,v,w,x,Bool.false_and,Bool.or_self,or_true,true_or]using this
 by_cases i:(au T s.at_).kind=3
 ·have ai:=j7 aE a (by rw[i];decide);have ag:(aD s).aF=0:=a;have ae:((3:Int)==4)=false:=rfl;have S:((3:Int)==2)=false:=rfl;have W:¬((3:Int)=2):=cp;have aa:¬((3:Int)=1):=cp;have ab:((3:Int)=3\/(3:Int)=4):= .inl rfl;simp only[kL,hJ,a,i,W,aa,ab,ae,S,ne_eq,not_true,if_false,if_true,beq_self_eq_true,Bool.and_false,Bool.true_and,aT,aY,p4 a,l,o,q,u,v,w,x,Bool.false_and];cases t1:(au T s.at_).text==[116,114,117,101]||(au T s.at_).text==[102,97,108,115,101]with
  |true=>simp only[aY];exact dO.pure (.inl ⟨a,rfl⟩) (by simp only[D9];omega)
  |false=>
   cases t2:(au T s.at_).text==[110,117,108,108]with
   |true=>
    simp only[aY,aT];have M:=of_same T (aD s);refine dO.pure ?_ (by have:=A3 aE (aD s);simp only[BV];omega);refine ee.of M.st λh=> ?_
    rw[(M.resolve_right (by rintro⟨ba,_⟩;exact ba h)).2]
   |false=>
    cases t3:(au T s.at_).text==[110,101,119]with
    |true=>simp only[aY,aT];exact Hg aE A a i aB n c af af
    |false=>
     cases t4:(au T s.at_).text==[108,101,110]with
     |true=>
      simp only[aY,aT];have:=vS aE (k:=k-1) (λj aj=>A j af) (s:=aD s) ag af n c af af;exact(this.map λe=>aL.mk {kind:=10,pos:=(au T s.at_).pos} [e]).le af
     |false=>
      cases t5:(au T s.at_).text==[114,101,97,100]with
      |true=>
       simp only[aY,aT];exact dO.pure (I6 a) (by have:=H6 aE s;omega)
      |false=>simp only[aT];exact B d
 ·have b3:((au T s.at_).kind==3)=false:=by simpa using i
  have cK:((au T s.at_).kind==4)=false:=by simpa using z
  have:=B d;simpa only[kL,hJ,a,d,y,i,z,O,b3,cK,ne_eq,not_true,if_false,if_true,beq_self_eq_true,Bool.and_false,Bool.true_and,aT,aY,p4 a,l,o,q,u,v,w,x,Bool.false_and,Bool.or_self,or_self]using this
def MK{T:List Tok}(aE:T.length<=40000000){k:Nat}(o:∀j,j<k->il T j){s:aw}(w:s.aF=0)(aB:left T s<=k)(n a:Nat)(H:30*k+14<=n)(K:30*k+14<=a):
  dO T s (nK T n s) (jl T a s):=by
 obtain⟨n,rfl⟩:∃m,n=m+1:=⟨n-1,af⟩;obtain⟨a,rfl⟩:∃m,a=m+1:=⟨a-1,af⟩;have z:a1 T s [45]=b_ T s 4 [45]:=rfl;have A:a1 T s [33]=b_ T s 4 [33]:=rfl;have y:∀(x:aJ) (u:Int),kw x=4->b_ T s 4 x=X->dO T s (sR T n x u s) (kB T a u s):=by
  intro x u G E;obtain⟨n,rfl⟩:∃m,n=m+1:=⟨n-1,af⟩;obtain⟨a,rfl⟩:∃m,a=m+1:=⟨a-1,af⟩;have F:(au T s.at_).text=x:=(uF E).2.2;simp only[sR,kB,F];rcases vD aE o w aB G 5 (n+1) a af af af with⟨i,l,p,q,d,e,c,v⟩|⟨i,l,d,e,c⟩
  ·have B:nK T n (ds T x s).2=D p:=by rw[ht]at d;exact d
   simp only[i,B,e,Option.bind_some,aY];refine dO.pure ?_ (by rw[H5];omega);refine ee.of c.st.out λh=> ?_
   rw[(c.resolve_right (by rintro⟨ba,_⟩;exact ba h)).2]
  ·simp only[i,c,Option.bind_some,aT];exact dO.pure (.inr ⟨l,d,e⟩) (by simp only[lG l];omega)
 simp only[nK,jl,z,A];cases i1:b_ T s 4 [45]with
 |true=>simp only[aY];exact y [45] 12 rfl i1
 |false=>
  cases i2:b_ T s 4 [33]with
  |true=>simp only[aY,aT];exact y [33] 13 rfl i2
  |false=>
   simp only[aT];obtain⟨n,rfl⟩:∃m,n=m+2:=⟨n-2,af⟩;obtain⟨a,rfl⟩:∃m,a=m+1:=⟨a-1,af⟩;obtain⟨p,q,d,e,c,v⟩:=G2 aE o w aB n a af af;have:=(tQ aE o k (n+1) (a+1) p.2 q.2 p.1 q.1 af af af af c.st (λh=>by
    rw[(c.resolve_right (by rintro⟨ba,_⟩;exact ba h)).2])).le v
   rw[rn];simpa only[d,e,Option.bind_some]using this
def CY{T:List Tok}(aE:T.length<=40000000){k:Nat}(c:∀j,j<k->il T j){s:aw}(d:s.aF=0)(aB:left T s<=k):∀(j lev n a:Nat),lev+j=5->30*k+20<=n+lev->30*k+20<=a+lev->dO T s (ht T n lev s) (dP T a lev s)
 |0,lev,n,a,i,l,o=>by
  obtain rfl:lev=5:=af;obtain⟨n,rfl⟩:∃m,n=m+1:=⟨n-1,af⟩;obtain⟨a,rfl⟩:∃m,a=m+1:=⟨a-1,af⟩;simp only[ht,dP,if_true];exact MK aE c d aB n a af af
 |j+1,lev,n,a,i,l,o=>by
  have e:¬lev=5:=af;obtain⟨n,rfl⟩:∃m,n=m+1:=⟨n-1,af⟩;obtain⟨a,rfl⟩:∃m,a=m+1:=⟨a-1,af⟩;obtain⟨p,q,g1,g2,g3,g4⟩:=CY aE c d aB j (lev+1) n a af af af;have:=(CW aE c (lev:=lev) af k n a p.2 q.2 p.1 q.1 af af af af g3.st (λh=>by
   rw[(g3.resolve_right (by rintro⟨ba,_⟩;exact ba h)).2])).le g4
  simpa only[ht,dP,e,if_false,g1,g2,Option.bind_some]using this
def CZ{T:List Tok}(aE:T.length<=40000000):∀k,il T k:=by
 intro k
 induction k using Nat.strongRecOn with
 |_ k i=>
  intro s aB lev n c d e h;by_cases a:s.aF=0
  ·exact CY aE i a aB (5-lev) lev n c af e h
  ·exact Jj a lev n c d af af
def bM.cells(a:bM)(kv:aa):List aa:=[I J a.kind,I J a.n,Y a.name,Y a.cf,I J a.c4,kv,I J a.pos,I J a.sT,I J a.D7,I J a.pa,I J a.ref]
mutual
def cu(H:ae)(ok:Nat->Prop):aL->aa->Prop
 | .mk a ks,v=>∃kv,v= .agg (a.cells kv)/\((kv= .ar/\ks.length=0)\/(∃l i cap ro els,kv= .aA l i ks.length 11 cap/\ok l/\H.get l=D (.row ro 11 els)/\dd H ok ks (els.drop i))\/∃l i cap,kv= .aA l i 0 11 cap/\ks.length=0)
def dd(H:ae)(ok:Nat->Prop):List aL->List (List aa)->Prop
 |[],_=>True
 |e::es,[]=>False
 |e::es,cs::css=>cu H ok e (.agg cs)/\dd H ok es css
end
def b8(H:ae)(ok:Nat->Prop)(ks:List aL)(kv:aa):Prop:=(kv= .ar/\ks.length=0)\/(∃l i cap ro els,kv= .aA l i ks.length 11 cap/\ok l/\H.get l=D (.row ro 11 els)/\dd H ok ks (els.drop i))\/∃l i cap,kv= .aA l i 0 11 cap/\ks.length=0
def gO{H:ae}{ok:Nat->Prop}{a:bM}{ks:List aL}{v:aa}:cu H ok (.mk a ks) v↔∃kv,v= .agg (a.cells kv)/\b8 H ok ks kv:=by
 rw[cu];rfl
def c9(H:ae)(ok:Nat->Prop)(H':ae)(ok':Nat->Prop):Prop:=∀l ro els,ok l->H.get l=D (.row ro 11 els)->ok' l/\H'.get l=D (.row ro 11 els)
mutual
def cu.aX{H H':ae}{ok ok':Nat->Prop}(p:c9 H ok H' ok'):∀(e:aL) (v:aa),cu H ok e v->cu H' ok' e v
 | .mk a ks,v,h=>by
  rw[cu]at h ⊢;obtain⟨kv,n,c⟩:=h;refine⟨kv,n,?_⟩;rcases c with c|⟨l,i,cap,ro,els,d,j,k,m⟩|c
  ·exact .inl c
  ·obtain⟨aZ,o⟩:=p l ro els j k;exact .inr (.inl ⟨l,i,cap,ro,els,d,aZ,o,dd.aX p ks _ m⟩)
  ·exact .inr (.inr c)
def dd.aX{H H':ae}{ok ok':Nat->Prop}(p:c9 H ok H' ok'):∀(es:List aL) (cs:List (List aa)),dd H ok es cs->dd H' ok' es cs
 |[],_,_=>by rw[dd];trivial
 |e::es,[],h=>by rw[dd]at h;exact h.elim
 |e::es,cs::css,h=>by
  rw[dd]at h ⊢;exact⟨cu.aX p e _ h.1,dd.aX p es css h.2⟩
end
def b8.aX{H H':ae}{ok ok':Nat->Prop}(p:c9 H ok H' ok'){ks:List aL}{v:aa}(h:b8 H ok ks v):b8 H' ok' ks v:=by
 rcases h with a|⟨l,i,cap,ro,els,c,d,e,j⟩|a
 ·exact .inl a
 ·obtain⟨aZ,k⟩:=p l ro els d e;exact .inr (.inl ⟨l,i,cap,ro,els,c,aZ,k,dd.aX p ks _ j⟩)
 ·exact .inr (.inr a)
def c9.mut{r:Nat}{H H':ae}{ok ok':Nat->Prop}(m:b5 r H H')(c:¬ok r)(a:∀l,ok l->ok' l):c9 H ok H' ok':=λl ro els h e=>⟨a l h,m.get e (by rintro rfl;exact c h)⟩
def c9.aM{H H':ae}{ok ok':Nat->Prop}(m:aO H H')(a:∀l,ok l->ok' l):c9 H ok H' ok':=λl ro els h e=>⟨a l h,m.get e⟩
def bg(n:Nat):Nat->Prop:=λl=>n<=l
def cu.agg{H:ae}{ok:Nat->Prop}{e:aL}{v:aa}(h:cu H ok e v):∃k n ch ai d kv p t1 t2 t3 m,v= .agg [I J k,I J n,Y ch,Y ai,I J d,kv,I J p,I J t1,I J t2,I J t3,I J m]/\kv.one=true:=by
 cases e with|mk a ks=>
 rw[gO]at h;obtain⟨kv,c,j⟩:=h;refine⟨_,_,_,_,_,kv,_,_,_,_,_,c,?_⟩;rcases j with⟨rfl,_⟩|⟨l,i,cap,ro,els,rfl,_⟩|⟨l,i,cap,rfl,_⟩<;>rfl
def cu.leaf(H:ae)(ok:Nat->Prop)(a:bM):cu H ok (.mk a []) (.agg (a.cells .ar)):=by
 rw[gO];exact⟨_,rfl,.inl ⟨rfl,rfl⟩⟩
def jh(l:Nat)(cs:List aa)(h:cs.length=11)(a:cs.all aa.one=X):bV P l 41 1 [(0,.agg cs)]=D (.aA l 0 1 11 (D 1),.row U 11 [cs]):=by
 have:bV P l 41 1 [(0,.agg cs)]=(ir 11 (List.replicate 1 [I J 0,I J 0,Y [],Y [],I J 0,.ar,I J 0,I J 0,I J 0,I J 0,I J 0]) [(0,.agg cs)]).bind λels=>D (.aA l 0 1 11 (D 1),.row U 11 els):=ah
 rw[this];simp[ir,aa.cells,h,a]
def vT(l:Nat)(cs a:List aa)(h:cs.length=11)(c:cs.all aa.one=X)(ba:a.length=11)(d:a.all aa.one=X):bV P l 41 2 [(0,.agg cs),(1,.agg a)]=D (.aA l 0 2 11 (D 2),.row U 11 [cs,a]):=by
 have:bV P l 41 2 [(0,.agg cs),(1,.agg a)]=(ir 11 (List.replicate 2 [I J 0,I J 0,Y [],Y [],I J 0,.ar,I J 0,I J 0,I J 0,I J 0,I J 0]) [(0,.agg cs),(1,.agg a)]).bind λels=>D (.aA l 0 2 11 (D 2),.row U 11 els):=ah
 rw[this];have e:List.replicate 2 [aa.int J 0,I J 0,Y [],Y [],I J 0,.ar,I J 0,I J 0,I J 0,I J 0,I J 0]=[[aa.int J 0,I J 0,Y [],Y [],I J 0,.ar,I J 0,I J 0,I J 0,I J 0,I J 0],[aa.int J 0,I J 0,Y [],Y [],I J 0,.ar,I J 0,I J 0,I J 0,I J 0,I J 0]]:=rfl;rw[e];simp[ir,aa.cells,h,c,ba,d]
def c9.push{H:ae}{ok ok':Nat->Prop}(b:bO)(a:∀l,ok l->ok' l):c9 H ok (H.push b) ok':=c9.aM (aO.push H b) a
def c9.set{H:ae}{ok ok':Nat->Prop}{l:Nat}(b:bO)(h:¬ok l)(c:∀l,ok l->ok' l):c9 H ok (H.set l b) ok':=λj ro els a e=>⟨c j a,by rw[ae.get_set_other (by rintro rfl;exact h a)];exact e⟩
def c9.kO{H:ae}{ok ok':Nat->Prop}(h:∀l,ok l->ok' l):c9 H ok H ok':=λl ro els a e=>⟨h l a,e⟩
def cu.cells{H:ae}{ok:Nat->Prop}{e:aL}{v:aa}(h:cu H ok e v):∃cs,v= .agg cs/\cs.length=11/\cs.all aa.one=true:=by
 obtain⟨k,n,ch,ai,d,kv,p,t1,t2,t3,c,rfl,a⟩:=h.agg;exact⟨_,rfl,rfl,by simp only[List.all_cons,List.all_nil,gH,hq,a,Bool.and_self]⟩
def cu.same{H:ae}{ok:Nat->Prop}{e:aL}{v:aa}(h:cu H ok e v):bj (D v) v=true:=by
 cases e with|mk a ks=>
 rw[gO]at h;obtain⟨kv,rfl,c⟩:=h;have:aa.beq kv kv=true:=by rcases c with⟨rfl,_⟩|⟨l,i,cap,ro,els,rfl,_⟩|⟨l,i,cap,rfl,_⟩<;>simp[aa.beq]
 simp[bj,aa.beq,fX.beq,bM.cells,this]
def th(ok:Nat->Prop)(H:ae)(r:Nat)(T:List Tok)(ao cr:aa)(e:aL)(s':aw)(v:aa)(H':ae):Prop:=b5 r H H'/\js H' r T ao cr s'/\cu H' ok e v
abbrev pz(H:ae):=th (bg H.next) H
def pz.box{H c:ae}{r:Nat}{T:List Tok}{ao cr:aa}{s s':aw}{a:bM}{ks:List aL}{kv:aa}{b:Nat}{lo:Nat}(h:js H r T ao cr s)(m:b5 r H c)(e:iP c r ao cr s')(i:H.next<=b)(n:b<lo)(j:b8 c (bg lo) ks kv)(d:bO):
  pz H r T ao cr (.mk a ks) s' (.agg (a.cells kv)) (c.set b d):=by
 have k:=h.rd.lt;have m':=m.cw (.inr i) d;refine⟨m',h.mut m' ?_,?_⟩
 ·unfold iP at e ⊢;rw[ae.get_set_other af];exact e
 ·rw[gO];exact⟨kv,rfl,j.aX (c9.set _ (by unfold bg;omega) λl k=>by unfold bg at*;omega)⟩
def b8.nil(H:ae)(ok:Nat->Prop):b8 H ok [] .ar:= .inl ⟨rfl,rfl⟩
def th.fin{ok:Nat->Prop}{H bJ:ae}{r:Nat}{T:List Tok}{ao cr:aa}{s s':aw}{a:bM}{ks:List aL}{kv:aa}(e:js H r T ao cr s)(m:b5 r H bJ)(c:iP bJ r ao cr s')(d:b8 bJ ok ks kv):th ok H r T ao cr (.mk a ks) s' (.agg (a.cells kv)) bJ:=
 ⟨m,e.mut m c,gO.2 ⟨kv,rfl,d⟩⟩
def b8.mO{H:ae}{ok:Nat->Prop}{L:Nat}{e:aL}{cs:List aa}{cap:Option Nat}{ro:Bool}(a:H.get L=D (.row ro 11 [cs]))(c:ok L)(h:cu H ok e (.agg cs)):b8 H ok [e] (.aA L 0 1 11 cap):=by
 refine .inr (.inl ⟨L,0,cap,ro,[cs],rfl,c,a,?_⟩);simp only[List.drop_zero];rw[dd,dd];exact⟨h,trivial⟩
def b8.wo{H:ae}{ok:Nat->Prop}{L:Nat}{e f:aL}{cs a:List aa}{cap:Option Nat}{ro:Bool}(c:H.get L=D (.row ro 11 [cs,a]))(d:ok L)(h:cu H ok e (.agg cs))(ba:cu H ok f (.agg a)):b8 H ok [e,f] (.aA L 0 2 11 cap):=by
 refine .inr (.inl ⟨L,0,cap,ro,[cs,a],rfl,d,c,?_⟩);simp only[List.drop_zero];rw[dd,dd,dd];exact⟨h,ba,trivial⟩
def cu.mut{H H':ae}{ok ok':Nat->Prop}{r:Nat}{e:aL}{v:aa}(h:cu H ok e v)(m:b5 r H H')(c:¬ok r)(a:∀l,ok l->ok' l):cu H' ok' e v:=cu.aX (c9.mut m c a) e v h
def cu.new{H H':ae}{ok:Nat->Prop}{n:Nat}{e:aL}{v:aa}(h:cu H (bg n) e v)(m:cP (· <n) H H')(c:∀l,n<=l->ok l):cu H' ok e v:=
 cu.aX (λl ro els a g=>⟨c l a,m.get g (Nat.not_lt.2 a)⟩) e v h
def fc(n:Nat):Prop:=∀{H:ae} {r:Nat} {T:List Tok} {ao cr:aa} {s:aw},js H r T ao cr s->cr≠ .ar->∀(lev:Nat),lev<=5->∀(e:aL) (s':aw),ht T n lev s=D (e,s')->W (aC P az 165 [.ptr r 0 0,I J lev] H) (pz H r T ao cr e s')
def pz.ret{H a:ae}{r:Nat}{T:List Tok}{ao cr:aa}{s s':aw}{e:aL}{v:aa}{b n:Nat}(i:js H r T ao cr s)(m:b5 r H a)(d:iP a r ao cr s')(j:H.next<=b)(he:cu a (bg n) e v)(k:b<n)(c:bO):pz H r T ao cr e s' v (a.set b c):=by
 have o:=i.rd.lt;have m':=m.cw (.inr j) c;refine⟨m',i.mut m' ?_,he.new (cP.cw (S:=(· <n)) (cP.refl _ _) (.inl k) _) λl h=>by unfold bg;omega⟩;unfold iP at d ⊢;rw[ae.get_set_other af];exact d
def dd.append{H:ae}{ok:Nat->Prop}:∀(es:List aL) (cs:List (List aa)) (e:aL) (c:List aa),dd H ok es cs->cs.length=es.length->cu H ok e (.agg c)->dd H ok (es++[e]) (cs++[c])
 |[],[],e,c,_,_,h=>by
  simp only[List.nil_append];rw[dd,dd];exact⟨h,trivial⟩
 |[],_::_,e,c,_,a,_=>by simp at a
 |_::_,[],e,c,h,_,_=>by rw[dd]at h;exact h.elim
 |i::es,d::cs,e,c,h,a,he=>by
  rw[dd]at h;simp only[List.cons_append];rw[dd];exact⟨h.1,dd.append es cs e c h.2 (by simpa using a) he⟩
def EB:P.underlying 41=D (.slice 45):=ah
def xY:hf P 45=D 120:=ah
def xo:eE P 45=D (.agg [I J 0,I J 0,Y [],Y [],I J 0,.ar,I J 0,I J 0,I J 0,I J 0,I J 0]):=ah
def FV{H:ae}{L:Nat}{cs:List aa}{cap:Option Nat}{ro:Bool}(a:H.get L=D (.row ro 11 [cs])):cQ P H [41,41] .ar (.aA L 0 1 11 cap)=D (.aA H.next 0 1 11 Z,H.push (.row U 11 [cs])):=by
 simp[cQ,hk,iT,dw,EB,sU,xY,xo,hG,er,a,aa.cells]
def FW{H:ae}{L l n:Nat}{cs:List aa}{els:List (List aa)}{cap:Option Nat}{ro:Bool}(d:H.get L=D (.row ro 11 [cs]))(e:H.get l=D (.row U 11 els))(h:els.length=n)(i:n<=1000000000):cQ P H [41,41] (.aA l 0 n 11 Z) (.aA L 0 1 11 cap)=D (.aA H.next 0 (n+1) 11 Z,(H.set l .dead).push (.row U 11 (els++[cs]))):=by
 have a:(n+1)*120<=140737488355328:=af;have c:n+1<=9223372036854775807:=af;simp[cQ,hk,iT,dw,EB,sU,xY,xo,hG,er,d,e,aa.cells,h,a,c];rw[List.take_of_length_le af]
def fn(n:Nat):aa:= .func (.func n) [] []
