/-
  Texts of one proof, laid together: L3 L4 ShL A1 Sr Z1 Z2 Z3 Z4 Z5 Z6 Z7 Z8 Z9 Z10 Z11 X2 X3 X4 X5 X6 X7 X8 X9 X10.
-/
import Derived.Test.YtghmbpmaafnodaaDoorMF
set_option linter.unusedVariables false
set_option linter.unusedSimpArgs false
set_option linter.defProp false
open Option renaming some→D,none→Z
open Bool renaming true→X,false→U
open Go.b9.aa renaming int→I,str→Y
open Go.IntKind renaming i64→J
namespace Go.Proofs.YtghmbpmaafnodaaDoor
open Go.b9
open Nat (reduceAdd reduceLeDiff)
def tN(k:Int)(x:aK)(p:Int):ch P 61 [(0,I J k),(1,Y x),(3,I J p)]=D (.agg [I J k,Y x,I J 0,I J p]):=ah
def rn(k:Int)(z:Int)(p:Int):ch P 61 [(0,I J k),(2,I J z),(3,I J p)]=D (.agg [I J k,Y [],I J z,I J p]):=ah
def Gj(k:Int)(p:Int):ch P 61 [(0,I J k),(3,I J p)]=D (.agg [I J k,Y [],I J 0,I J p]):=ah
def vM(d:Bool):∀s:aK,runN d s<=s.length
 |[]=>bj _
 |c::r=>by
  rw[runN];have:=vM d r;cases eu c||(!d&&ey c)with
  |true=>simp only[aZ,List.length_cons];omega
  |false=>simp only[aT,List.length_cons];omega
def vf(p:Nat):Option (Int×aK×Int×Nat)->aa
 |none=> .tuple [.agg [I J 0,Y [],I J 0,I J 0],I J 0]
 |some (k,t,v,m)=> .tuple [.agg [I J k,Y t,I J v,I J p],I J m]
def IA{H:ad}{s:aK}(aB:s.length<=1000000000000000000){at_:Nat}(R:at_<s.length):W (aC P ay 39 [Y s,I J at_] H) λv H'=>v=vf at_ (hp (s.drop at_))/\aO H H':=by
 refine cz (λ_=>JG 0) ?_;obtain⟨c,r,u⟩:∃c r,s.drop at_=c::r:=by
  cases h:s.drop at_ with
  |nil=>have:=drop_nil h;omega
  |cons c r=>exact⟨c,r,rfl⟩
 obtain⟨Q,ah,ai,aj⟩:=drop_cons u;have l:=jB Q;have q:=aO.push H (.row U 4 [[I J 0,Y [],I J 0,I J 0]]);have N:=λd=>vM d (s.drop at_)
 have T:(s.drop at_).length=s.length-at_:=by simp
 simp-implicitDefEqProofs(disch:=try exact al)only[eS,reduceAdd,reduceLeDiff,reduceIte,ax,l];refine ln (oo _) ?_;cases M:kM (c.toNat:Int)with
 |true=>
  simp-implicitDefEqProofs(disch:=try exact al)only[eS,bg,br];refine ln (C4 aB at_ af U) ?_;have V:=N U;have n:=qU (s:=s) (a:=at_) (b:=at_+runN U (s.drop at_)) af af;rw[Nat.add_sub_cancel_left]at n;simp-implicitDefEqProofs(disch:=try exact al)only[eS,bg,br,c5,kA,n];refine aN (w2 _) ?_;rintro _ A ⟨rfl,e⟩;refine⟨e.1,?_⟩;have g2:A.get H.next=D (.row U 4 [[I J 0,Y [],I J 0,I J 0]]):=e.get (ad.bC _ _)
  have aa:=ad.aR g2;have k:hp (s.drop at_)=(bif jl ((s.drop at_).take (runN U (s.drop at_)))then D (3,(s.drop at_).take (runN U (s.drop at_)),0,runN U (s.drop at_))else bif en ((s.drop at_).take (runN U (s.drop at_)))then D (1,(s.drop at_).take (runN U (s.drop at_)),0,runN U (s.drop at_))else Z):=by
   have w:ey c=true:=M;simp only[u,hp,w,aZ]
  cases hw:jl ((s.drop at_).take (runN U (s.drop at_)))with
  |true=>
   rw[k,hw];simp-implicitDefEqProofs(disch:=try exact al)only[eS,reduceAdd,reduceLeDiff,reduceIte,ax,tN,g2];exact bb.2 ⟨rfl,(q.trans e).cv (bj _) _⟩
  |false=>
   rw[k,hw];simp-implicitDefEqProofs(disch:=try exact al)only[eS,bg,br];refine aN (Fa (by simp only[List.length_take];omega)) ?_;rintro _ ag ⟨rfl,x⟩;refine⟨x.1,?_⟩;have g3:=x.get g2;have dI:=ad.aR g3;cases am:en ((s.drop at_).take (runN U (s.drop at_)))with
   |true=>
    simp-implicitDefEqProofs(disch:=try exact al)only[eS,reduceAdd,reduceLeDiff,reduceIte,ax,tN,g3];exact bb.2 ⟨rfl,((q.trans e).trans x).cv (bj _) _⟩
   |false=>
    simp-implicitDefEqProofs(disch:=try exact al)only[eS,reduceAdd,reduceLeDiff,reduceIte,ax,g3];exact bb.2 ⟨rfl,((q.trans e).trans x).cv (bj _) _⟩
 |false=>
  simp-implicitDefEqProofs(disch:=try exact al)only[eS,bg,br,l];refine ln (tY _) ?_;have w:ey c=false:=M;have g1:(H.push (.row U 4 [[I J 0,Y [],I J 0,I J 0]])).get H.next=D (.row U 4 [[I J 0,Y [],I J 0,I J 0]]):=ad.bC _ _
  cases L:lz (c.toNat:Int)with
  |true=>
   have E:eu c=true:=L;simp-implicitDefEqProofs(disch:=try exact al)only[eS,bg,br];refine ln (C4 aB at_ af X) ?_;have V:=N X;have n:=qU (s:=s) (a:=at_) (b:=at_+runN X (s.drop at_)) af af;rw[Nat.add_sub_cancel_left]at n;simp-implicitDefEqProofs(disch:=try exact al)only[eS,bg,br,c5,kA,n];refine ln (MU (by simp only[List.length_take];omega) (λc S=>CY _ c S)) ?_;have k:hp (s.drop at_)=(match iL 0 ((s.drop at_).take (runN X (s.drop at_)))with
    |none=>Z
    |some v=>bif (decide (1<runN X (s.drop at_))&&c.toNat==48)||(decide (runN X (s.drop at_)<(s.drop at_).length)&&ey (((s.drop at_)[runN X (s.drop at_)]?).getD 0))then Z else D (2,[],v,runN X (s.drop at_))):=by
    simp only[u,hp,w,E,aZ,aT]<;>rfl
   rw[k];cases an:iL 0 ((s.drop at_).take (runN X (s.drop at_)))with
   |none=>
    simp-implicitDefEqProofs(disch:=try exact al)only[eS,reduceAdd,reduceLeDiff,reduceIte,ax,Bool.not_false,g1];exact bb.2 ⟨rfl,aO.push _ _⟩
   |some z=>
    generalize ak:runN X (s.drop at_)=ae at*;have aY:decide (1<ae)=decide ((1:Int)<(ae:Int)):=by rw[decide_eq_decide];omega
    have K:((c.toNat:Int)==48)=(c.toNat==48):=by rw[Bool.eq_iff_iff];simp;omega
    have ab:decide (ae<(s.drop at_).length)=decide (((at_+ae:Nat):Int)<(s.length:Int)):=by rw[decide_eq_decide,T];omega
    rw[aY,ab];simp only
    cases m:decide ((1:Int)<(ae:Int))with
    |true=>
     cases B:c.toNat==48 with
     |true=>
      simp-implicitDefEqProofs(disch:=try exact al)only[eS,reduceAdd,reduceLeDiff,reduceIte,ax,Bool.not_true,m,l,K,B,g1];exact bb.2 ⟨rfl,aO.push _ _⟩
     |false=>
      cases i:decide (((at_+ae:Nat):Int)<(s.length:Int))with
      |false=>
       simp-implicitDefEqProofs(disch:=try exact al)only[eS,reduceAdd,reduceLeDiff,reduceIte,ax,Bool.not_true,m,l,K,B,kA,i,g1,rn];exact bb.2 ⟨rfl,aO.push _ _⟩
      |true=>
       obtain⟨y,o⟩:∃y,s[at_+ae]? =D y:=⟨s[at_+ae]'(by have:=of_decide_eq_true i;omega),by simp⟩;have F:=jB o;have G:(s.drop at_)[ae]? =D y:=by rw[List.getElem?_drop];exact o
       simp-implicitDefEqProofs(disch:=try exact al)only[eS,reduceAdd,reduceLeDiff,reduceIte,ax,Bool.not_true,m,l,K,B,kA,i,F];refine nV (oo _) ?_;rw[G];cases p:kM (y.toNat:Int)with
       |true=>
        have j:ey y=true:=p;simp-implicitDefEqProofs(disch:=try exact al)only[eS,reduceAdd,reduceLeDiff,reduceIte,ax,g1,Option.getD_some,j];exact bb.2 ⟨rfl,aO.push _ _⟩
       |false=>
        have j:ey y=false:=p;simp-implicitDefEqProofs(disch:=try exact al)only[eS,reduceAdd,reduceLeDiff,reduceIte,ax,g1,rn,Option.getD_some,j];exact bb.2 ⟨rfl,aO.push _ _⟩
    |false=>
     cases i:decide (((at_+ae:Nat):Int)<(s.length:Int))with
     |false=>
      simp-implicitDefEqProofs(disch:=try exact al)only[eS,reduceAdd,reduceLeDiff,reduceIte,ax,Bool.not_true,m,kA,i,g1,rn];exact bb.2 ⟨rfl,aO.push _ _⟩
     |true=>
      obtain⟨y,o⟩:∃y,s[at_+ae]? =D y:=⟨s[at_+ae]'(by have:=of_decide_eq_true i;omega),by simp⟩;have F:=jB o;have G:(s.drop at_)[ae]? =D y:=by rw[List.getElem?_drop];exact o
      simp-implicitDefEqProofs(disch:=try exact al)only[eS,reduceAdd,reduceLeDiff,reduceIte,ax,Bool.not_true,m,kA,i,F];refine nV (oo _) ?_;rw[G];cases p:kM (y.toNat:Int)with
      |true=>
       have j:ey y=true:=p;simp-implicitDefEqProofs(disch:=try exact al)only[eS,reduceAdd,reduceLeDiff,reduceIte,ax,g1,Option.getD_some,j];exact bb.2 ⟨rfl,aO.push _ _⟩
      |false=>
       have j:ey y=false:=p;simp-implicitDefEqProofs(disch:=try exact al)only[eS,reduceAdd,reduceLeDiff,reduceIte,ax,g1,rn,Option.getD_some,j];exact bb.2 ⟨rfl,aO.push _ _⟩
  |false=>
   have E:eu c=false:=L;simp-implicitDefEqProofs(disch:=try exact al)only[eS,bg,br];refine aN (L7 aB R) ?_;rintro _ A ⟨rfl,e⟩;refine⟨e.1,?_⟩;have g2:A.get H.next=D (.row U 4 [[I J 0,Y [],I J 0,I J 0]]):=e.get (ad.bC _ _)
   have aa:=ad.aR g2;have k:hp (s.drop at_)=(bif hc (s.drop at_)==[]then Z else D (4,hc (s.drop at_),0,(hc (s.drop at_)).length)):=by
    simp only[u,hp,w,E,aT]
   rw[k];cases O:hc (s.drop at_)==[]with
   |true=>
    simp-implicitDefEqProofs(disch:=try exact al)only[eS,reduceAdd,reduceLeDiff,reduceIte,ax,O,g2];exact bb.2 ⟨rfl,(q.trans e).cv (bj _) _⟩
   |false=>
    simp-implicitDefEqProofs(disch:=try exact al)only[eS,reduceAdd,reduceLeDiff,reduceIte,ax,O,g2,tN];exact bb.2 ⟨rfl,(q.trans e).cv (bj _) _⟩
def Di(l:Nat)(t:Tok):bV P l 36 1 [(0,t.v)]=D (.aA l 0 1 4 (D 1),.row U 4 [t.cells]):=by
 obtain⟨k,x,n,p⟩:=t;kernel_rfl
def Eu:P.underlying 36=D (.slice 61):=ah
def xX:hf P 61=D 40:=ah
def xn:eF P 61=D (.agg [I J 0,Y [],I J 0,I J 0]):=ah
def FT{H:ad}{L:Nat}{cs:List aa}{cap:Option Nat}{ro:Bool}(a:H.get L=D (.row ro 4 [cs])):cQ P H [36,36] .ar (.aA L 0 1 4 cap)=D (.aA H.next 0 1 4 Z,H.push (.row U 4 [cs])):=by
 simp[cQ,hk,iR,dx,Eu,sW,xX,xn,hH,er,a,aa.cells]
def FU{H:ad}{L l n:Nat}{cs:List aa}{els:List (List aa)}{cap:Option Nat}{ro:Bool}(d:H.get L=D (.row ro 4 [cs]))(e:H.get l=D (.row U 4 els))(h:els.length=n)(i:n<=1000000000):cQ P H [36,36] (.aA l 0 n 4 Z) (.aA L 0 1 4 cap)=D (.aA H.next 0 (n+1) 4 Z,(H.set l .dead).push (.row U 4 (els++[cs]))):=by
 have a:(n+1)*40<=140737488355328:=af;have c:n+1<=9223372036854775807:=af;simp[cQ,hk,iR,dx,Eu,sW,xX,xn,hH,er,d,e,aa.cells,h,a,c];rw[List.take_of_length_le af]
def lh(H0 H:ad)(v:aa)(T:List Tok):Prop:=(v= .ar/\T=[])\/∃l,v= .aA l 0 T.length 4 Z/\H0.next<=l/\H.get l=D (.row U 4 (T.map Tok.cells))
def lh.tok{H0 H:ad}{v:aa}{T:List Tok}(h:lh H0 H v T):eC H v T:=by
 rcases h with h|⟨l,rfl,_,a⟩
 ·exact .inl h
 ·refine .inr ⟨l,0,Z,rfl,.inr ⟨U,_,a,λk t c=> ?_⟩⟩;simp[c]
def lh.aM{H0 H H':ad}{v:aa}{T:List Tok}(h:lh H0 H v T)(p:aO H H'):lh H0 H' v T:=by
 rcases h with h|⟨l,e,a,c⟩
 ·exact .inl h
 ·exact .inr ⟨l,e,a,p.get c⟩
def xb{H0 H:ad}{v:aa}{T:List Tok}(h:lh H0 H v T)(p:aO H0 H)(aE:T.length<=1000000)(t:Tok):∃d H',cQ P (H.push (.row U 4 [t.cells])) [36,36] v (.aA H.next 0 1 4 (D 1))=D (d,H')/\lh H0 H' d (T++[t])/\aO H0 H'/\(H.push (.row U 4 [t.cells])).next<=H'.next/\(∀l,l<H.next->(∀e,v≠ .aA l 0 T.length 4 e)->H'.get l=H.get l):=by
 have c:(H.push (.row U 4 [t.cells])).get H.next=D (.row U 4 [t.cells]):=ad.bC _ _
 rcases h with⟨rfl,rfl⟩|⟨l,rfl,i,a⟩
 ·refine⟨_,_,FT c,.inr ⟨_,rfl,?_,?_⟩,(p.bt _).bt _,by simp,λl m _=> ?_⟩
  ·have:=p.1;simp only[ad.bT];omega
  ·exact ad.bC (H.push (.row U 4 [t.cells])) _
  ·rw[ad.dp (by simp only[ad.bT];omega),ad.dp af]
 ·have m:=ad.aR a;have k:(H.push (.row U 4 [t.cells])).get l=D (.row U 4 (T.map Tok.cells)):=by rw[ad.dp af];exact a
  refine⟨_,_,FU c k (by simp) af,.inr ⟨(H.push (.row U 4 [t.cells])).next,by simp,?_,?_⟩,?_,by simp,λj o n=> ?_⟩
  ·have:=p.1;simp only[ad.bT,ad.dj];omega
  ·have e:((H.push (.row U 4 [t.cells])).set l .dead).next=(H.push (.row U 4 [t.cells])).next:=rfl
   simp only[List.map_append,List.map_cons,List.map_nil];rw[<-e];exact ad.bC _ _
  ·exact((p.bt _).cv i _).bt _
  ·rw[ad.dp (by simp only[ad.bT,ad.dj];omega),ad.get_set_other (by rintro rfl;exact n _ rfl),ad.dp af]
def CZ(d:Bool)(c:UInt8)(r:aK)(h:(eu c||(!d&&ey c))=X):1<=runN d (c::r):=by
 rw[runN,h];simp
def L6(s:aK):(hc s).length<=s.length:=by
 unfold hc;cases decide (2<=s.length)&&gI (s.take 2) jh with
 |true=>simp only[aZ,List.length_take];omega
 |false=>
  simp only[aT];cases s with
  |nil=>simp
  |cons c r=>simp only[List.length_cons];cases iZ c gX<;>simp
def B3{s:aK}{k:Int}{t:aK}{v:Int}{m:Nat}(h:hp s=D (k,t,v,m)):1<=m/\m<=s.length:=by
 cases s with
 |nil=>simp[hp]at h
 |cons c r=>
  have i:=λd=>vM d (c::r)
  rw[hp]at h;cases e:ey c with
  |true=>
   have aG:=CZ U c r (by simp[e]);rw[e,aZ]at h;cases hw:jl ((c::r).take (runN U (c::r)))with
   |true=>rw[hw,aZ]at h;cases h;exact⟨aG,i U⟩
   |false=>
    rw[hw,aT]at h;cases j:en ((c::r).take (runN U (c::r)))with
    |true=>rw[j,aZ]at h;cases h;exact⟨aG,i U⟩
    |false=>rw[j,aT]at h;cases h
  |false=>
   rw[e,aT]at h;cases a:eu c with
   |true=>
    have aG:=CZ X c r (by simp[a]);rw[a,aZ]at h;split at h
    ·cases h
    ·rename_i z n;rw[Bool.cond_eq_ite]at h;split at h
     ·cases h
     ·cases h;exact⟨aG,i X⟩
   |false=>
    rw[a,aT]at h;cases aB:hc (c::r)==[]with
    |true=>rw[aB,aZ]at h;cases h
    |false=>
     rw[aB,aT]at h;cases h;have l:¬hc (c::r)=[]:=by simpa using aB
     have:=L6 (c::r);exact⟨List.length_pos_iff.2 l,this⟩
def n6:∀(s:aK) (b:Bool),c2 b s<=s.length
 |[],b=>by cases b<;>simp[c2]
 |c::r,X=>by
  have a:=n6 r X;have d:=n6 r U;rw[c2];cases c.toNat==10<;>simp only[aZ,aT,List.length_cons]<;>omega
 |c::r,U=>by
  have a:=n6 r X;have d:=n6 r U;rw[c2];cases iB c
  ·cases(c==47&&r.head?==D 47)<;>simp only[aZ,aT,List.length_cons]<;>omega
  ·simp only[aZ,List.length_cons];omega
def wX(H0:ad)(x:List Tok×Int×Int)(r:aa)(H':ad):Prop:=∃ao,r= .tuple [ao,.agg [I J x.2.1,I J x.2.2]]/\eC H' ao x.1/\aO H0 H'
def oq(T:List Tok):Nat ⊕ List Tok->List Tok×Int×Int
 | .inl e=>([],1,e)
 | .inr l=>(T++l,0,0)
def Gg(k p:Int):ch P 29 [(0,I J k),(1,I J p)]=D (.agg [I J k,I J p]):=ah
def DY{H0:ad}{s:aK}(aB:s.length<=100000)(N:Nat):∀(n:Nat) (rest:aK) (at_ m:Nat) (T:List Tok) (v:aa) (H:ad),s.drop at_=rest->at_<=s.length->lh (H0.push (.row U 2 [[I J 0,I J 0]])) H v T->aO (H0.push (.row U 2 [[I J 0,I J 0]])) H->T.length<=at_->rest.length<n->rest.length<m->
  W (lP (aC P ay) N m (Y s) (.ptr H0.next 0 0) v (I J at_) H) (wX H0 (oq T (gm n rest at_)))
 |0,_,_,_,_,_,_,_,_,_,_,_,x,_=>af
 |_,_,_,0,_,_,_,_,_,_,_,_,_,hm=>af
 |n+1,[],at_,m+1,T,v,H,h,R,i,p,aE,x,hm=>by
  have hlen:=drop_nil h;have u:¬((at_:Int)<(s.length:Int)):=af;have S:s.length=at_:=af;have g:H.get H0.next=D (.row U 2 [[I J 0,I J 0]]):=p.get (ad.bC _ _)
  have kK:=ad.aR g;obtain⟨E,H',d,j,A,L,K⟩:=xb i p af ⟨0,[],0,s.length⟩;have a:=Di H.next ⟨0,[],0,s.length⟩
  simp only[Tok.v]at a;simp-implicitDefEqProofs(disch:=try exact al)only[lP,i_,kd,kV,ke,kc,reduceAdd,reduceLeDiff,reduceIte,ax,u,decide_false,Gj,a,d,eK];have gG:H'.get H0.next=D (.row U 2 [[I J 0,I J 0]]):=by
   rw[K _ kK ?_];exact g;intro e he;rcases i with⟨rfl,_⟩|⟨l,rfl,ai,_⟩
   ·cases he
   ·cases he;simp only[ad.bT]at ai;omega
  have aF:=ad.aR gG;have y:bh (D (.agg [I J 0,I J 0])) (.agg [I J 0,I J 0])=true:=by simp[bh,aa.beq,fY.beq]
  simp-implicitDefEqProofs(disch:=try exact al)only[i_,kd,kV,ke,kc,reduceAdd,reduceLeDiff,reduceIte,ax,gG,y];have am:aO H0 H':=(aO.push _ _).trans A;have an:aO H0 (H'.set H0.next (.row U 2 [[I J 0,I J 0]])):=am.cv (bj _) _;refine bb.2 ⟨E,rfl,?_,an⟩;rw[gm];simp only[oq];rw[S]at j;exact j.tok.aX λl ro els e=>by
   rw[ad.get_set_other];exact e;rintro rfl;rw[gG]at e;cases e
 |n+1,c::r,at_,m+1,T,v,H,h,R,i,p,aE,x,hm=>by
  obtain⟨aw,az,O,aD⟩:=drop_cons h;have u:((at_:Int)<(s.length:Int)):=af;have g:H.get H0.next=D (.row U 2 [[I J 0,I J 0]]):=p.get (ad.bC _ _)
  have kK:=ad.aR g;simp-implicitDefEqProofs(disch:=try exact al)only[lP,i_,kd,kV,ke,kc,reduceAdd,reduceLeDiff,reduceIte,ax,u,decide_true];refine aN (IA af O) ?_;rintro _ F ⟨rfl,o⟩;refine⟨o.1,?_⟩;have g2:=o.get g;have aG:=ad.aR g2;have ab:=i.aM o;replace p:=p.trans o;rw[h,gm];cases aj:hp (c::r)with
  |none=>
   simp only[vf];simp-implicitDefEqProofs(disch:=try exact al)only[i_,kd,kV,ke,kc,reduceAdd,reduceLeDiff,reduceIte,ax,Gg,beq_self_eq_true,g2,ad.hr];have y:bh (D (.agg [I J 1,I J at_])) (.agg [I J 1,I J at_])=true:=by simp[bh,aa.beq,fY.beq]
   refine bb.2 ⟨.ar,rfl,.inl ⟨rfl,rfl⟩,?_⟩;exact(((aO.push _ _).trans p).cv (bj _) _).bt _
  |some q=>
   obtain⟨k,t,z,b⟩:=q;obtain⟨av,M⟩:=B3 aj;have V:((b:Int)==0)=false:=by simp;omega
   simp only[vf];simp only[List.length_cons]at M x hm;obtain⟨E,H',d,j,A,L,K⟩:=xb (ab.aM (aO.push F (.row U 4 [Tok.cells ⟨k,t,z,at_⟩]))) (p.bt _) af ⟨k,t,z,at_⟩;have a:=Di (F.next+1) ⟨k,t,z,at_⟩;simp only[Tok.v]at a;simp only[Tok.cells,ad.bT]at d L;simp only[Tok.cells]at a;have y:∀au:ad,bh (D (.agg [I J k,Y t,I J z,I J at_])) (.agg [I J k,Y t,I J z,I J at_])=true:=λ_=>by simp[bh,aa.beq,fY.beq]
   simp-implicitDefEqProofs(disch:=try exact al)only[i_,kd,kV,ke,kc,reduceAdd,reduceLeDiff,reduceIte,ax,V,a,d,eK,kA];have G:s.drop (at_+b)=(c::r).drop b:=by rw[<-List.drop_drop,h]
   have ae:=n6 ((c::r).drop b) U;simp only[List.length_drop,List.length_cons]at ae;refine ln (xT af (at_:=at_+b) af) ?_;rw[G];simp only[kd];have ag:at_+b+c2 U ((c::r).drop b)<=s.length:=af;have ak:=DY aB N n (s.drop (at_+b+c2 U ((c::r).drop b))) (at_+b+c2 U ((c::r).drop b)) m (T++[⟨k,t,z,at_⟩]) E H' rfl ag j A (by simp;omega) (by simp;omega) (by simp;omega);refine ak.mono ?_;rintro w aq ⟨ao,aY,B,ap⟩;have ah:s.drop (at_+b+c2 U ((c::r).drop b))=((c::r).drop b).drop (c2 U ((c::r).drop b)):=by rw[<-List.drop_drop,G]
   rw[ah]at aY B;have Q:oq (T++[⟨k,t,z,at_⟩]) (gm n (((c::r).drop b).drop (c2 U ((c::r).drop b))) (at_+b+c2 U ((c::r).drop b)))=oq T (match gm n (((c::r).drop b).drop (c2 U ((c::r).drop b))) (at_+b+c2 U ((c::r).drop b))with
     | .inl e=> .inl e
     | .inr l=> .inr (⟨k,t,z,at_⟩::l)):=by
    cases gm n (((c::r).drop b).drop (c2 U ((c::r).drop b))) (at_+b+c2 U ((c::r).drop b))with
    |inl e=>rfl
    |inr l=>simp[oq]
   rw[Q]at aY B;exact⟨ao,aY,B,ap⟩
def wY{H:ad}(s:aK):W (aC P ay 14 [Y s] H) (wX H (dy s)):=by
 refine cz (λ_=>Jp (s.length+1)) ?_;by_cases c:(6000:Int)<(s.length:Int)
 ·have a:6000<s.length:=af;simp-implicitDefEqProofs(disch:=try exact al)only[i_,kd,kV,ke,kc,reduceAdd,reduceLeDiff,reduceIte,ax,c,decide_true];refine bb.2 ⟨.ar,by simp[dy,a],.inl ⟨rfl,by simp[dy,a]⟩,aO.push _ _⟩
 ·have a:¬6000<s.length:=af;simp-implicitDefEqProofs(disch:=try exact al)only[i_,kd,ke,kc,reduceAdd,reduceLeDiff,reduceIte,ax,c,decide_false];refine ln (xT (s:=s) af (at_:=0) af) ?_;simp only[List.drop_zero,Nat.zero_add,ke];have h:=n6 s U;refine(DY (H0:=H) af (s.length+1) (s.length+1) (s.drop (c2 U s)) (c2 U s) (s.length+1) [] .ar _ rfl h (.inl ⟨rfl,rfl⟩) (.refl _) (by simp) (by simp;omega) (by simp;omega)).mono ?_;rintro v H' ⟨ao,aY,d,i⟩;have e:oq [] (gm (s.length+1) (s.drop (c2 U s)) (c2 U s))=dy s:=by
   simp only[dy,if_neg a,p_];cases gm (s.length+1) (s.drop (c2 U s)) (c2 U s)<;>rfl
  rw[e]at aY d;exact⟨ao,aY,d,i⟩
section
set_option maxRecDepth 100000
noncomputable section
end
end
end Go.Proofs.YtghmbpmaafnodaaDoor
namespace Go.Proofs.YtghmbpmaafnodaaDoor.e0
open Go.b9
open Nat (reduceAdd reduceLeDiff)
structure hC(H:ad):Prop where
 sT:H.get 0=some (.row true 1 jg)
def hC.aM{H H':ad}(h:hC H)(p:aO H H'):hC H':=⟨p.get h.sT⟩
end Go.Proofs.YtghmbpmaafnodaaDoor.e0
namespace Go.Proofs.YtghmbpmaafnodaaDoor
open Go.b9
open Nat (reduceAdd reduceLeDiff)
def kw(x:aK):Int:=match x with
 |c::_=>if 97<=c.toNat/\c.toNat<=122 then 3 else 4
 |[]=>4
def a1(T:List Tok)(s:av)(x:aK):Bool:=b_ T s (kw x) x
def bl(T:List Tok)(x:aK)(s:av):av:=bif a1 T s x then aD s else cL T 2 s
def eU(s:av):av:={s with bP:=jP (s.bP+1)}
def cN(T:List Tok)(x:aK)(s:av):av:=bif a1 T s x&&decide (50<=s.bP)then cL T 4 s else eU (bl T x s)
def dn(T:List Tok)(x:aK)(s:av):av:=eo (bl T x s)
def bu(T:List Tok)(s:av):aK×av:=bif s.aF==0&&(au T s.at_).kind==1 then((au T s.at_).text,aD s)else([],cL T 2 s)
def takeN(T:List Tok)(x:aK):Nat->av->av
 |0,s=>s
 |n+1,s=>takeN T x n (bl T x s)
def gp(T:List Tok):Nat->Int->av->(Int×av) ⊕ av
 |0,d,s=>bif a1 T s [91]then .inr (cL T 4 s)else .inl (d,s)
 |n+1,d,s=>bif a1 T s [91]then gp T n (d+1) (aD s)else .inl (d,s)
def fm(T:List Tok)(d:Int)(s:av):(aK×Int)×av:=bif a1 T s [105,110,116]||a1 T s [98,111,111,108]then(((au T s.at_).text,d),takeN T [93] d.toNat (aD s)) else(((bu T s).1,d),takeN T [93] d.toNat (bu T s).2)
def cM(T:List Tok)(s:av):(aK×Int)×av:=match gp T 3 0 s with
 | .inr s'=>(([],0),s')
 | .inl (d,s')=>fm T d s'
def j6(x:aK):List (aK×Int)->Int
 |[]=>0
 |(y,k)::r=>bif y==x then k else j6 x r
def ez(lev:Nat)(t:Tok):Int:=bif t.kind != 4 then 0 else j6 t.text (jC[lev]?.getD [])
mutual
def dP(T:List Tok):Nat->Nat->av->ae aL
 |0,_,_=>Z
 |n+1,lev,s=>if lev=5 then ji T n s else(dP T n (lev+1) s).bind λp=>hJ T n lev p.1 p.2
def hJ(T:List Tok):Nat->Nat->aL->av->ae aL
 |0,_,_,_=>Z
 |n+1,lev,e,s=>bif s.aF==0&&ez lev (au T s.at_) != 0 then
  (dP T n (lev+1) (aD s)).bind λp=>hJ T n lev (.mk {kind:=ez lev (au T s.at_),pos:=(au T s.at_).pos} [e,p.1]) p.2
  else D (e,s)
def ji(T:List Tok):Nat->av->ae aL
 |0,_=>Z
 |n+1,s=>bif a1 T s [45]then ky T n 12 s else bif a1 T s [33]then ky T n 13 s else(hK T n s).bind λp=>fi T n p.1 p.2
def ky(T:List Tok):Nat->Int->av->ae aL
 |0,_,_=>Z
 |n+1,k,s=>(dP T n 5 (cN T (au T s.at_).text s)).bind λp=>D (.mk {kind:=k,pos:=(au T s.at_).pos} [p.1],eo p.2)
def fi(T:List Tok):Nat->aL->av->ae aL
 |0,_,_=>Z
 |n+1,e,s=>bif a1 T s [46]then fi T n (.mk {kind:=5,name:=(bu T (aD s)).1,pos:=(au T s.at_).pos} [e]) (bu T (aD s)).2
  else bif a1 T s [91]then(dP T n 0 (cN T [91] s)).bind λp=>fi T n (.mk {kind:=6,pos:=(au T s.at_).pos} [e,p.1]) (dn T [93] p.2)
  else D (e,s)
def gU(T:List Tok):Nat->av->ae aL
 |0,_=>Z
 |n+1,s=>(dP T n 0 (cN T [40] s)).bind λp=>D (p.1,dn T [41] p.2)
def hK(T:List Tok):Nat->av->ae aL
 |0,_=>Z
 |n+1,s=>bif s.aF==0&&(au T s.at_).kind==2 then D (.mk {kind:=1,n:=(au T s.at_).n,pos:=(au T s.at_).pos} [],aD s)
  else bif a1 T s [116,114,117,101]||a1 T s [102,97,108,115,101]then D (.mk {kind:=2,n:=bif (au T s.at_).text==[116,114,117,101]then 1 else 0,pos:=(au T s.at_).pos} [],aD s)
  else bif a1 T s [110,117,108,108]then D (.mk {kind:=3,cc:=(cM T (aD s)).1.1,c4:=(cM T (aD s)).1.2,pos:=(au T s.at_).pos} [],(cM T (aD s)).2)
  else bif a1 T s [110,101,119]then j3 T n (au T s.at_).pos (aD s)
  else bif a1 T s [108,101,110]then(gU T n (aD s)).bind λp=>D (.mk {kind:=10,pos:=(au T s.at_).pos} [p.1],p.2)
  else bif a1 T s [114,101,97,100]then D (.mk {kind:=11,pos:=(au T s.at_).pos} [],dn T [41] (cN T [40] (aD s)))
  else bif a1 T s [40]then gU T n s
  else bif a1 T (bu T s).2 [40]then(h1 T n (bu T s).2).bind λp=>D (.mk {kind:=7,name:=(bu T s).1,pos:=(au T s.at_).pos} p.1,p.2)
  else D (.mk {kind:=4,name:=(bu T s).1,pos:=(au T s.at_).pos} [],(bu T s).2)
def j3(T:List Tok):Nat->Int->av->ae aL
 |0,_,_=>Z
 |n+1,pos,s=>bif a1 T s [91]then
  (gU T n (bl T [93] (cM T (aD s)).2)).bind λp=>D (.mk {kind:=9,cc:=(cM T (aD s)).1.1,c4:=(cM T (aD s)).1.2,pos:=pos} [p.1],p.2)
  else D (.mk {kind:=8,cc:=(bu T s).1,pos:=pos} [],(bu T s).2)
def h1(T:List Tok):Nat->av->ae (List aL)
 |0,_=>Z
 |n+1,s=>bif a1 T (cN T [40] s) [41]then D ([],dn T [41] (cN T [40] s))
  else(dP T n 0 (cN T [40] s)).bind λp=>gT T n [p.1] p.2
def gT(T:List Tok):Nat->List aL->av->ae (List aL)
 |0,_,_=>Z
 |n+1,l,s=>bif a1 T s [44]then(dP T n 0 (aD s)).bind λp=>gT T n (l++[p.1]) p.2 else D (l,dn T [41] s)
end
def left(T:List Tok)(s:av):Nat:=if s.aF=0/\0<=s.at_/\s.at_<T.length then T.length-s.at_.toNat else 0
def ee{α:Type}(p q:α×av):Prop:=(p.2.aF=0/\q=p)\/(p.2.aF≠0/\q.2.aF=p.2.aF/\q.2.cS=p.2.cS)
def jy{T:List Tok}{s:av}(h:s.aF≠0)(k:Int)(x:aK):b_ T s k x=false:=by simp[b_,h]
def ev{T:List Tok}{s:av}(h:s.aF≠0)(x:aK):a1 T s x=false:=jy h _ _
def fk{T:List Tok}{s:av}(h:s.aF≠0)(e:Int):cL T e s=s:=by simp[cL,h]
def AS{T:List Tok}{s:av}(h:s.aF≠0):∀l,lC T s l=0
 |[]=>rfl
 |(x,k)::r=>by simp[lC,jy h,AS h r]
def HR{T:List Tok}{s:av}(h:s.aF≠0)(lev:Nat):lD T lev s=0:=AS h _
def Gy{T:List Tok}{s:av}(h:s.aF≠0)(n:Nat)(c:2<=n):rq T n s=D (.zero,s):=by
 obtain⟨n,rfl⟩:∃m,n=m+2:=⟨n-2,af⟩;have a:(s.aF==0)=false:=by simpa using h
 simp[rq,kI,h,ju,a]
def MG{T:List Tok}{s:av}(h:s.aF≠0)(n:Nat)(a:3<=n):nM T n s=D (.zero,s):=by
 obtain⟨n,rfl⟩:∃m,n=m+1:=⟨n-1,af⟩;simp[nM,jy h,Gy h n af]
def CS{T:List Tok}{s:av}(h:s.aF≠0)(n:Nat)(a:1<=n)(lev:Nat)(e:aL):na T n lev e s=D (e,s):=by
 obtain⟨n,rfl⟩:∃m,n=m+1:=⟨n-1,af⟩;simp[na,HR h]
def CQ{T:List Tok}{s:av}(h:s.aF≠0):∀(n lev:Nat),lev<=5->9<=n+lev->ht T n lev s=D (.zero,s)
 |0,lev,c,d=>af
 |n+1,lev,c,d=>by
  by_cases a:lev=5
  ·simp[ht,a,MG h n af]
  ·simp[ht,a,CQ h n (lev+1) af af,CS h n af]
def uJ{T:List Tok}{s:av}{k:Int}{x:aK}(h:b_ T s k x=X):s.aF=0/\(au T s.at_).kind=k/\(au T s.at_).text=x:=by
 simpa [b_]using h
def mB(T:List Tok)(s:av):aL:= .mk {kind:=4,pos:=(au T s.at_).pos} []
def BN{T:List Tok}{s:av}(h:s.aF≠0):bu T s=([],s):=by
 have a:(s.aF==0)=false:=by simpa using h
 simp[bu,a,fk h]
def G1{T:List Tok}{s:av}(h:s.aF≠0)(n:Nat)(c:1<=n):hK T n s=D (mB T s,s):=by
 obtain⟨n,rfl⟩:∃m,n=m+1:=⟨n-1,af⟩;have a:(s.aF==0)=false:=by simpa using h
 simp[hK,a,ev h,BN h,mB]
def tO{T:List Tok}{s:av}(h:s.aF≠0)(n:Nat)(a:1<=n)(e:aL):fi T n e s=D (e,s):=by
 obtain⟨n,rfl⟩:∃m,n=m+1:=⟨n-1,af⟩;simp[fi,ev h]
def MH{T:List Tok}{s:av}(h:s.aF≠0)(n:Nat)(a:2<=n):ji T n s=D (mB T s,s):=by
 obtain⟨n,rfl⟩:∃m,n=m+1:=⟨n-1,af⟩;simp[ji,ev h,G1 h n af,tO h n af]
def yo{T:List Tok}{s:av}(h:s.aF≠0)(n:Nat)(c:1<=n)(lev:Nat)(e:aL):hJ T n lev e s=D (e,s):=by
 obtain⟨n,rfl⟩:∃m,n=m+1:=⟨n-1,af⟩;have a:(s.aF==0)=false:=by simpa using h
 simp[hJ,a]
def pR{T:List Tok}{s:av}(h:s.aF≠0):∀(n lev:Nat),lev<=5->9<=n+lev->dP T n lev s=D (mB T s,s)
 |0,lev,c,d=>af
 |n+1,lev,c,d=>by
  by_cases a:lev=5
  ·simp[dP,a,MH h n af]
  ·simp[dP,a,pR h n (lev+1) af af,yo h n af]
def Bb{x:aK}:∀l:List (aK×Int),(∀p∈l,p.2≠0)->∀T s,s.aF=0->(au T s.at_).kind=4->lC T s l=j6 (au T s.at_).text l
 |[],_,_,_,_,_=>rfl
 |(y,k)::r,h,T,s,a,c=>by
  have e:=Bb (x:=x) r (λp aG=>h p (by simp[aG])) T s a c;have d:b_ T s 4 y=(y==(au T s.at_).text):=by
   simp only[b_,a,c,beq_self_eq_true,Bool.true_and];exact BEq.comm
  simp[lC,j6,e,d]
def uN{T:List Tok}{s:av}(a:(au T s.at_).kind≠4):∀l,lC T s l=0
 |[]=>rfl
 |(y,k)::r=>by
  have c:b_ T s 4 y=false:=by simp[b_,a]
  simp[lC,c,uN a r]
def HS{T:List Tok}{s:av}(c:s.aF=0){lev:Nat}(d:lev<5):lD T lev s=ez lev (au T s.at_):=by
 by_cases a:(au T s.at_).kind=4
 ·have:((au T s.at_).kind != 4)=false:=by simp[a]
  simp only[lD,ez,this,aT];refine Bb (x:=[]) _ ?_ T s c a;have:lev=0\/lev=1\/lev=2\/lev=3\/lev=4:=af;rcases this with rfl|rfl|rfl|rfl|rfl<;>simp[jC]
 ·have:((au T s.at_).kind != 4)=true:=by simp[a]
  simp[lD,ez,this,uN a]
def e2(s s':av):Prop:=(s.aF=0/\s'=s)\/(s.aF≠0/\s'.aF=s.aF/\s'.cS=s.cS)
def e2.refl(s:av):e2 s s:=by
 by_cases h:s.aF=0
 ·exact .inl ⟨h,rfl⟩
 ·exact .inr ⟨h,rfl,rfl⟩
def e2.out{s s':av}(h:e2 s s'):e2 (eo s) (eo s'):=by
 rcases h with⟨h,rfl⟩|⟨h,a,c⟩
 ·exact .inl ⟨h,rfl⟩
 ·exact .inr ⟨h,a,c⟩
def iz{T:List Tok}{s:av}(h:s.aF=0)(e:Int):(cL T e s).aF=e/\(cL T e s).cS=(au T s.at_).pos:=by simp[cL,h]
def wA{T:List Tok}{s s':av}(h:e2 s s'){x:aK}(d:kw x=4):e2 (ej T x s).2 (bl T x s'):=by
 rcases h with⟨h,rfl⟩|⟨h,a,e⟩
 ·cases c:b_ T s' 4 x with
  |true=>simp only[ej,bl,a1,d,c,aZ];exact .refl _
  |false=>simp only[ej,bl,a1,d,c,aT];exact .refl _
 ·have ba:s'.aF≠0:=by rw[a];exact h
  simp only[ej,bl,jy h,ev ba,aT,fk h,fk ba];exact .inr ⟨h,a,e⟩
def lv{T:List Tok}{s s':av}(h:e2 s s'){x:aK}(o:kw x=4):e2 (h3 T x s).2 (dn T x s'):=by
 have n:=wA (T:=T) h.out o;have k:e2 (bl T x (eo s')) (dn T x s'):=by
  by_cases i:s'.aF=0
  ·have l:a1 T (eo s') x=a1 T s' x:=rfl;cases m:a1 T s' x with
   |true=>simp only[dn,bl,l,m,aZ];exact .inl ⟨i,rfl⟩
   |false=>
    simp only[dn,bl,l,m,aT];have j:(eo s').aF=0:=i;refine .inr ⟨by rw[(iz j 2).1];decide,?_,?_⟩
    ·rw[(iz j 2).1];exact(iz i 2).1
    ·rw[(iz j 2).2];exact(iz i 2).2
  ·have j:(eo s').aF≠0:=i;simp only[dn,bl,ev i,ev j,aT,fk i,fk j];exact .refl _
 rcases n with⟨a,b⟩|⟨a,b,c⟩
 ·rcases k with⟨d,e⟩|⟨d,e,f⟩
  ·exact .inl ⟨a,by rw[e,b];rfl⟩
  ·exact absurd (by rw[b];exact a) d
 ·rcases k with⟨d,e⟩|⟨d,e,f⟩
  ·exact absurd (b.symm.trans d) a
  ·exact .inr ⟨a,e.trans b,f.trans c⟩
def vj{T:List Tok}{s:av}(h:s.aF=0){x:aK}(d:kw x=4):
  ((dr T x s).1=X/\b_ T s 4 x=X/\(dr T x s).2=eU (aD s)/\cN T x s=eU (aD s))\/
  ((dr T x s).1=U/\(dr T x s).2.aF≠0/\e2 (dr T x s).2 (cN T x s)):=by
 cases c:b_ T s 4 x with
 |true=>
  by_cases a:50<=s.bP
  ·refine .inr ?_;simp only[dr,cN,a1,d,c,aZ,Bool.true_and,decide_eq_true a,if_pos a];exact⟨trivial,by rw[(iz h 4).1];decide,.refl _⟩
  ·refine .inl ?_;simp only[dr,cN,bl,a1,d,c,aZ,Bool.true_and,decide_eq_false a,if_neg a,aT];exact⟨trivial,trivial,rfl,trivial⟩
 |false=>
  refine .inr ?_;simp only[dr,cN,bl,a1,d,c,aT,Bool.false_and];exact⟨trivial,by rw[(iz h 2).1];decide,.inr ⟨by rw[(iz h 2).1];decide,rfl,rfl⟩⟩
def ee.of{α:Type}{a b:α}{s s':av}(h:e2 s s')(e:s.aF=0->b=a):ee (a,s) (b,s'):=by
 rcases h with⟨h,rfl⟩|⟨h,c,d⟩
 ·exact .inl ⟨h,by rw[e h]⟩
 ·exact .inr ⟨h,c,d⟩
def ee.st{α:Type}{p q:α×av}(h:ee p q):e2 p.2 q.2:=by
 rcases h with⟨h,rfl⟩|⟨h,a,c⟩
 ·exact .inl ⟨h,rfl⟩
 ·exact .inr ⟨h,a,c⟩
def s4{T:List Tok}{x:aK}(a:kw x=4):∀(n:Nat) {s s':av},e2 s s'->e2 (jQ T x n s) (takeN T x n s')
 |0,_,_,h=>h
 |n+1,_,_,h=>s4 a n (wA h a)
def wb{T:List Tok}{x:aK}:∀(n:Nat) {s:av},s.aF≠0->takeN T x n s=s
 |0,_,_=>rfl
 |n+1,s,h=>by simp[takeN,bl,ev h,fk h,wb n h]
def wz{T:List Tok}{x:aK}:∀(n:Nat) {s:av},s.aF≠0->jQ T x n s=s
 |0,_,_=>rfl
 |n+1,s,h=>by simp[jQ,ej,jy h,fk h,wz n h]
def BZ{T:List Tok}:∀(n:Nat) (d:Int) (s:av),gp T n d s=gW T n d s
 |0,d,s=>rfl
 |n+1,d,s=>by
  have:a1 T s [91]=b_ T s 4 [91]:=rfl;simp[gp,gW,this,BZ n]
def Iw{T:List Tok}(d:Int)(s:av):ee (iF T d s) (fm T d s):=by
 have c:a1 T s [105,110,116]=b_ T s 3 [105,110,116]:=rfl;have e:a1 T s [98,111,111,108]=b_ T s 3 [98,111,111,108]:=rfl;by_cases a:s.aF=0
 ·cases i:b_ T s 3 [105,110,116]with
  |true=>
   simp only[iF,fm,c,e,i,Bool.not_true,Bool.false_and,Bool.and_false,aT,Bool.true_or,aZ];exact ee.of (s4 rfl _ (.refl _)) λ_=>rfl
  |false=>
   cases j:b_ T s 3 [98,111,111,108]with
   |true=>
    simp only[iF,fm,c,e,i,j,Bool.not_true,Bool.and_false,aT,Bool.false_or,aZ];exact ee.of (s4 rfl _ (.refl _)) λ_=>rfl
   |false=>
    by_cases l:(au T s.at_).kind=1
    ·simp only[iF,fm,c,e,i,j,bu,a,l,Bool.not_false,Bool.and_self,Bool.and_true,bne_self_eq_false,aT,Bool.or_self,beq_self_eq_true,aZ];exact ee.of (s4 rfl _ (.refl _)) λ_=>rfl
    ·have k:((au T s.at_).kind==1)=false:=by simpa using l
     have n:((au T s.at_).kind != 1)=true:=by simpa using l
     have m:(cL T 2 s).aF≠0:=by rw[(iz a 2).1];decide
     simp only[iF,fm,c,e,i,j,bu,a,k,n,Bool.not_false,Bool.and_self,Bool.and_false,aZ,Bool.or_self,aT,wb _ m];exact ee.of (.refl _) λh=>absurd h m
 ·have k:(s.aF==0)=false:=by simpa using a
  have o:(aD s).aF≠0:=a;simp only[iF,fm,c,e,jy a,bu,k,Bool.false_and,Bool.or_self,aT,fk a,wb _ a,wz _ o,Bool.not_false,Bool.and_self,Bool.and_true];cases(au T s.at_).kind != 1 with
  |true=>exact .inr ⟨a,rfl,rfl⟩
  |false=>exact .inr ⟨a,rfl,rfl⟩
def of_same(T:List Tok)(s:av):ee (eP T s) (cM T s):=by
 simp only[eP,cM,BZ];cases gW T 3 0 s with
 |inr s'=>exact ee.of (.refl _) λ_=>rfl
 |inl p=>exact Iw p.1 p.2
def lE{T:List Tok}{s:av}(h:s.aF≠0):left T s=0:=by simp[left,h]
def AZ{T:List Tok}(s:av):left T (eU s)=left T s:=rfl
def H6{T:List Tok}(s:av):left T (eo s)=left T s:=rfl
def mL{T:List Tok}(s:av)(e:Int):left T (cL T e s)<=left T s:=by
 by_cases h:s.aF=0
 ·unfold left;simp only[cL,h,if_true,true_and];split
  ·rename_i a;rw[if_pos a.2];omega
  ·omega
 ·rw[fk h];omega
def Mz{T:List Tok}{a:Int}(h:(au T a).kind≠0):0<=a/\a<T.length:=by
 unfold au at h;split at h
 ·exact absurd rfl h
 ·omega
def j5{T:List Tok}(aE:T.length<=40000000){s:av}(d:s.aF=0)(e:(au T s.at_).kind≠0):left T (aD s)+1<=left T s:=by
 obtain⟨a,c⟩:=Mz e;have hw:jP (s.at_+1)=s.at_+1:=wrap_i64 af af;have h:left T s=T.length-s.at_.toNat:=by
  unfold left;rw[if_pos ⟨d,a,c⟩]
 have i:left T (aD s)<=T.length-(s.at_+1).toNat:=by
  unfold left;simp only[aD,hw];split<;>omega
 omega
def lF{T:List Tok}(aE:T.length<=40000000){s:av}{k:Int}{x:aK}(d:k≠0)(h:b_ T s k x=X):left T (aD s)+1<=left T s:=by
 obtain⟨a,c,_⟩:=uJ h;exact j5 aE a (by rw[c];exact d)
def uT{T:List Tok}(aE:T.length<=40000000)(s:av)(x:aK):left T (ej T x s).2<=left T s:=by
 cases h:b_ T s 4 x with
 |true=>simp only[ej,h,aZ];have:=lF aE cu h;omega
 |false=>simp only[ej,h,aT];exact mL s 2
def oj{T:List Tok}(aE:T.length<=40000000)(s:av)(x:aK):left T (h3 T x s).2<=left T s:=uT aE (eo s) x
def A4{T:List Tok}(aE:T.length<=40000000)(x:aK):∀(n:Nat) (s:av),left T (jQ T x n s)<=left T s
 |0,s=>bj _
 |n+1,s=>Nat.le_trans (A4 aE x n _) (uT aE s x)
def A3{T:List Tok}(aE:T.length<=40000000):∀(n:Nat) (d:Int) (s:av),(∀a s',gW T n d s= .inl (a,s')->left T s'<=left T s)/\(∀s',gW T n d s= .inr s'->left T s'<=left T s)
 |0,d,s=>by
  cases h:b_ T s 4 [91]with
  |true=>simp only[gW,h,aZ];exact⟨by simp,by rintro _ ⟨⟩;exact mL s 4⟩
  |false=>simp only[gW,h,aT];exact⟨by rintro _ _ ⟨⟩;exact bj _,by simp⟩
 |n+1,d,s=>by
  cases h:b_ T s 4 [91]with
  |true=>
   simp only[gW,h,aZ];obtain⟨i1,i2⟩:=A3 aE n (d+1) (aD s);have c:=lF aE cu h;exact⟨λa s' ba=>by have:=i1 a s' ba;omega,λs' ba=>by have:=i2 s' ba;omega⟩
  |false=>simp only[gW,h,aT];exact⟨by rintro _ _ ⟨⟩;exact bj _,by simp⟩
def A2{T:List Tok}(aE:T.length<=40000000)(d:Int)(s:av):left T (iF T d s).2<=left T s:=by
 by_cases e:s.aF=0
 ·cases c:((au T s.at_).kind != 1&&(!b_ T s 3 [105,110,116]&& !b_ T s 3 [98,111,111,108]))with
  |true=>simp only[iF,c,aZ];exact mL s 2
  |false=>
   simp only[iF,c,aT];have a:(au T s.at_).kind≠0:=by
    intro a;have i:∀x,b_ T s 3 x=false:=λx=>by simp[b_,a]
    simp[a,i]at c
   have:=A4 aE [93] d.toNat (aD s);have:=j5 aE e a;omega
 ·have h:(aD s).aF≠0:=e;simp only[iF];cases((au T s.at_).kind != 1&&(!b_ T s 3 [105,110,116]&& !b_ T s 3 [98,111,111,108]))with
  |true=>exact mL s 2
  |false=>simp only[aT,wz _ h,lE h];omega
def A1{T:List Tok}(aE:T.length<=40000000)(s:av):left T (eP T s).2<=left T s:=by
 obtain⟨i1,i2⟩:=A3 aE 3 0 s;simp only[eP];cases h:gW T 3 0 s with
 |inr s'=>exact i2 s' h
 |inl p=>
  have:=i1 p.1 p.2 h;have:=A2 aE p.1 p.2;exact Nat.le_trans (A2 aE p.1 p.2) (i1 p.1 p.2 h)
def dO{α:Type}(T:List Tok)(s:av)(a b:Option (α×av)):Prop:=∃p q,a=D p/\b=D q/\ee p q/\left T p.2<=left T s
def il(T:List Tok)(k:Nat):Prop:=∀(s:av),left T s<=k->∀(lev n a:Nat),lev<=5->30*k+20<=n+lev->30*k+20<=a+lev->dO T s (ht T n lev s) (dP T a lev s)
def Jg{T:List Tok}{s:av}(h:s.aF≠0)(lev n a:Nat)(c:lev<=5)(d:9<=n+lev)(e:9<=a+lev):dO T s (ht T n lev s) (dP T a lev s):=
 ⟨_,_,CQ h n lev c d,pR h a lev c e,.inr ⟨h,rfl,rfl⟩,bj _⟩
def vG{T:List Tok}(aE:T.length<=40000000){k:Nat}(p:∀j,j<k->il T j){s:av}(m:s.aF=0)(aB:left T s<=k){x:aK}(o:kw x=4)(lev n d:Nat)(i:lev<=5)(u:30*k+9<=n)(v:30*k+9<=d):
  ((dr T x s).1=X/\left T (dr T x s).2+1<=left T s/\dO T (dr T x s).2 (ht T n lev (dr T x s).2) (dP T d lev (cN T x s)))\/
  ((dr T x s).1=U/\(dr T x s).2.aF≠0/\(cN T x s).aF=(dr T x s).2.aF/\(cN T x s).cS=(dr T x s).2.cS/\dP T d lev (cN T x s)=D (mB T (cN T x s),cN T x s)):=by
 rcases vj (T:=T) m o with⟨h,a,c,e⟩|⟨h,a,c⟩
 ·refine .inl ⟨h,?_,?_⟩
  ·rw[c,AZ];exact lF aE cu a
  ·have q:=lF aE cu a;rw[c,e];exact p (k-1) af _ (by rw[AZ];omega) lev n d i af af
 ·rcases c with⟨c,_⟩|⟨_,e,l⟩
  ·exact absurd c a
  ·exact .inr ⟨h,a,e,l,pR (by rw[e];exact a) d lev i af⟩
def vV{T:List Tok}(aE:T.length<=40000000){k:Nat}(A:∀j,j<k->il T j){s:av}(w:s.aF=0)(aB:left T s<=k)(n l:Nat)(y:30*k+9<=n)(z:30*k+9<=l):dO T s (jO T (n+1) [40] [41] s) (gU T (l+1) s):=by
 rcases vG aE A w aB (x:=[40]) rfl 0 n l af y z with⟨d,a,p,q,c,e,i,B⟩|⟨d,a,c,e,i⟩
 ·refine⟨(p.1,(h3 T [41] p.2).2),(q.1,dn T [41] q.2),?_,?_,?_,?_⟩
  ·simp[jO,d,c]
  ·simp[gU,e]
  ·rcases i with⟨h,rfl⟩|⟨h,u,v⟩
   ·exact ee.of (lv (.inl ⟨h,rfl⟩) rfl) λ_=>rfl
   ·refine ee.of (lv (.inr ⟨h,u,v⟩) rfl) λo=>absurd o ?_
    have:(eo p.2).aF≠0:=h;simp only[h3,ej,jy this,aT,fk this];exact h
  ·have:=oj aE p.2 [41];simp only
   omega
 ·refine⟨(.zero,(dr T [40] s).2),_,by simp[jO,d],by simp only[gU,i];rfl,?_,?_⟩
  ·have m:(cN T [40] s).aF≠0:=by rw[c];exact a
   have o:=lv (T:=T) (x:=[41]) (e2.refl (cN T [40] s)) rfl;refine .inr ⟨a,?_,?_⟩<;>simp[dn,bl,ev m,fk m,eo,c,e]
  ·simp only[lE a];omega
def dO.le{α:Type}{T:List Tok}{s s0:av}{a b:Option (α×av)}(h:dO T s a b)(j:left T s<=left T s0):dO T s0 a b:=by
 obtain⟨p,q,c,d,e,i⟩:=h;exact⟨p,q,c,d,e,Nat.le_trans i j⟩
def x6{T:List Tok}{s:av}(h:s.aF≠0)(x:aK):(h3 T x s).2.aF≠0:=by
 have a:(eo s).aF≠0:=h;simp only[h3,ej,jy a,aT,fk a];exact h
def Bh{T:List Tok}(aE:T.length<=40000000){k:Nat}(y:∀j,j<k->il T j):∀(c n d:Nat) (s s':av) (l l':List aL),left T s<=c->c<=k->30*c+10<=n->30*c+10<=d->e2 s s'->(s.aF=0->l'=l)->dO T s (ov T n l s) (gT T d l' s')
 |c,0,d,s,s',l,l',u,v,w,x,e,m=>af
 |c,n+1,0,s,s',l,l',u,v,w,x,e,m=>af
 |c,n+1,d+1,s,s',l,l',u,v,w,x,e,m=>by
  by_cases a:s.aF=0
  ·obtain⟨_,rfl⟩:s.aF=0/\s'=s:=e.resolve_right (by rintro⟨h,_⟩;exact h a);cases m a;have o:a1 T s' [44]=b_ T s' 4 [44]:=rfl;cases i:b_ T s' 4 [44]with
   |true=>
    have A:=lF aE cu i;obtain⟨p,q,g1,g2,g3,g4⟩:=y (c-1) af (aD s') af 0 n d af af af;have:=Bh aE y (c-1) n d p.2 q.2 (l++[p.1]) (l++[q.1]) af af af af g3.st (λaG=>by
     rcases g3 with⟨_,rfl⟩|⟨h,_⟩
     ·rfl
     ·exact absurd aG h)
    have:=this.le (s0:=s') af;simpa [ov,o_,i,gT,o,g1,g2]using this
   |false=>
    refine⟨(l,(h3 T [41] s').2),(l,dn T [41] s'),by simp[ov,o_,i],by simp[gT,o,i],ee.of (lv (.refl _) rfl) λ_=>rfl,oj aE s' [41]⟩
  ·have z:s'.aF≠0:=by
    rcases e with⟨h,_⟩|⟨_,h,_⟩
    ·exact absurd h a
    ·rw[h];exact a
   refine⟨(l,(h3 T [41] s).2),(l',dn T [41] s'),by simp[ov,o_,jy a],by simp[gT,ev z],ee.of (lv e rfl) λh=>absurd h (x6 a _),oj aE s [41]⟩
def F8{T:List Tok}(aE:T.length<=40000000){k:Nat}(z:∀j,j<k->il T j){s:av}(y:s.aF=0)(aB:left T s<=k)(n a:Nat)(H:30*k+10<=n)(K:30*k+10<=a):dO T s (qa T (n+1) s) (h1 T (a+1) s):=by
 rcases vj (T:=T) y (x:=[40]) rfl with⟨e,c,i,w⟩|⟨e,c,i⟩
 ·have F:=lF aE cu c;have G:left T (eU (aD s))=left T (aD s):=rfl;have E:(eU (aD s)).aF=0:=y;have v:a1 T (eU (aD s)) [41]=b_ T (eU (aD s)) 4 [41]:=rfl;cases u:b_ T (eU (aD s)) 4 [41]with
  |true=>
   refine⟨([],(h3 T [41] (eU (aD s))).2),([],dn T [41] (eU (aD s))),by simp[qa,e,i,u],by simp[h1,w,v,u],ee.of (lv (.refl _) rfl) λ_=>rfl,?_⟩;have:=oj aE (eU (aD s)) [41];simp only
   omega
  |false=>
   obtain⟨p,q,g1,g2,g3,g4⟩:=z (k-1) af (eU (aD s)) af 0 n a af af af;have:=Bh aE z k n a p.2 q.2 [p.1] [q.1] af af af af g3.st (λaG=>by
    rcases g3 with⟨_,rfl⟩|⟨h,_⟩
    ·rfl
    ·exact absurd aG h)
   have:=this.le (s0:=s) af;simpa [qa,e,i,u,h1,w,v,g1,g2]using this
 ·have o:=i.resolve_left (by rintro⟨h,_⟩;exact c h);have d:(cN T [40] s).aF≠0:=by rw[o.2.1];exact c
  have B:=pR (T:=T) d a 0 af af;have A:∀l,gT T a l (cN T [40] s)=D (l,dn T [41] (cN T [40] s)):=λl=>by
   obtain⟨a,rfl⟩:∃m,a=m+1:=⟨a-1,af⟩;simp[gT,ev d]
  refine⟨([],(dr T [40] s).2),_,by simp[qa,e],by simp only[h1,ev d,aT,B,Option.bind_some,A];rfl,?_,?_⟩
  ·refine .inr ⟨c,?_,?_⟩<;>simp[dn,bl,ev d,fk d,eo,o.2.1,o.2.2]
  ·simp only[lE c];omega
def CR{T:List Tok}(aE:T.length<=40000000){k:Nat}(E:∀j,j<k->il T j){lev:Nat}(B:lev<5):∀(c n i:Nat) (s s':av) (e d:aL),left T s<=c->c<=k->30*c+10<=n->30*c+10<=i->e2 s s'->(s.aF=0->d=e)->dO T s (na T n lev e s) (hJ T i lev d s')
 |c,0,i,s,s',e,d,w,x,y,z,l,o=>af
 |c,n+1,0,s,s',e,d,w,x,y,z,l,o=>af
 |c,n+1,i+1,s,s',e,d,w,x,y,z,l,o=>by
  by_cases a:s.aF=0
  ·obtain⟨_,rfl⟩:s.aF=0/\s'=s:=l.resolve_right (by rintro⟨h,_⟩;exact h a);cases o a;have u:=HS (T:=T) a B;have A:(s'.aF==0)=true:=by simpa using a
   by_cases m:lD T lev s'=0
   ·have v:(ez lev (au T s'.at_) != 0)=false:=by rw[<-u];simpa using m
    exact⟨(e,s'),(e,s'),by simp[na,m],by simp[hJ,A,v],.inl ⟨a,rfl⟩,bj _⟩
   ·have v:(ez lev (au T s'.at_) != 0)=true:=by rw[<-u];simpa using m
    have H:(au T s'.at_).kind≠0:=by
     intro F;exact m (uN (by rw[F];decide) _)
    have K:=j5 aE a H;obtain⟨p,q,g1,g2,g3,g4⟩:=E (c-1) af (aD s') af (lev+1) n i af af af;have:=CR aE E B (c-1) n i p.2 q.2 (.mk {kind:=lD T lev s',pos:=(au T s'.at_).pos} [e,p.1]) (.mk {kind:=ez lev (au T s'.at_),pos:=(au T s'.at_).pos} [e,q.1]) af af af af g3.st (λaG=>by
     rcases g3 with⟨_,rfl⟩|⟨h,_⟩
     ·rw[u]
     ·exact absurd aG h)
    have:=this.le (s0:=s') af;simpa [na,m,hJ,A,v,g1,g2]using this
  ·have G:s'.aF≠0:=by
    rcases l with⟨h,_⟩|⟨_,h,_⟩
    ·exact absurd h a
    ·rw[h];exact a
   exact⟨(e,s),(d,s'),CS a (n+1) af lev e,yo G (i+1) af lev d,ee.of l λh=>absurd h a,bj _⟩
def GZ{T:List Tok}{s:av}(h:s.aF=0)(e:aL):ee (iU T e s) (aL.mk {kind:=5,name:=(bu T (aD s)).1,pos:=(au T s.at_).pos} [e],(bu T (aD s)).2):=by
 have i:(aD s).aF=0:=h;by_cases c:(au T (aD s).at_).kind=1
 ·refine Or.inl ⟨?_,?_⟩
  ·have a:((au T (aD s).at_).kind != 1)=false:=by simp[c]
   simp only[iU,a,aT];exact h
  ·simp[iU,bu,c,i]
 ·have a:((au T (aD s).at_).kind==1)=false:=by simpa using c
  have d:((au T (aD s).at_).kind != 1)=true:=by simpa using c
  have j:=iz (T:=T) i 2;refine Or.inr ⟨?_,?_,?_⟩
  ·simp only[iU,d,aZ];show(cL T 2 (aD s)).aF≠0;rw[j.1];decide
  ·simp only[iU,bu,a,d,aZ,Bool.and_false,aT];rfl
  ·simp only[iU,bu,a,d,aZ,Bool.and_false,aT];rfl
def H4{T:List Tok}(aE:T.length<=40000000){s:av}(d:s.aF=0)(j:(au T s.at_).kind≠0)(e:aL):left T (iU T e s).2+1<=left T s:=by
 have k:=j5 aE d j;have h:(aD s).aF=0:=d;by_cases c:(au T (aD s).at_).kind=1
 ·have a:((au T (aD s).at_).kind != 1)=false:=by simp[c]
  have:=j5 aE h (by rw[c];decide);simp only[iU,a,aT];omega
 ·have a:((au T (aD s).at_).kind != 1)=true:=by simpa using c
  have i:(aD (cL T 2 (aD s))).aF≠0:=by show(cL T 2 (aD s)).aF≠0;rw[(iz h 2).1];decide
  simp only[iU,a,aZ,lE i];omega
def tU{T:List Tok}(aE:T.length<=40000000){k:Nat}(G:∀j,j<k->il T j):∀(c n l:Nat) (s s':av) (e o:aL),left T s<=c->c<=k->30*c+12<=n->30*c+12<=l->e2 s s'->(s.aF=0->o=e)->dO T s (ju T n e s) (fi T l o s')
 |c,0,l,s,s',e,o,B,H,K,L,w,E=>af
 |c,n+1,0,s,s',e,o,B,H,K,L,w,E=>af
 |c,n+1,l+1,s,s',e,o,B,H,K,L,w,E=>by
  by_cases a:s.aF=0
  ·obtain⟨_,rfl⟩:s.aF=0/\s'=s:=w.resolve_right (by rintro⟨h,_⟩;exact h a);cases E a;have d:(s'.aF==0)=true:=by simpa using a
   have v:a1 T s' [46]=((au T s'.at_).kind==4&&(au T s'.at_).text==[46]):=by show b_ T s' 4 [46]=_;simp only[b_,d,Bool.true_and]
   have z:a1 T s' [91]=((au T s'.at_).kind==4&&(au T s'.at_).text==[91]):=by show b_ T s' 4 [91]=_;simp only[b_,d,Bool.true_and]
   cases i:(au T s'.at_).kind==4 with
   |false=>exact⟨(e,s'),(e,s'),by simp[ju,d,i],by simp[fi,v,z,i],.inl ⟨a,rfl⟩,bj _⟩
   |true=>
    have R:(au T s'.at_).kind=4:=by simpa using i
    cases u:(au T s'.at_).text==[46]with
    |true=>
     have W:=H4 aE a (by rw[R];decide) e;have aB:=GZ (T:=T) a e;have:=(tU aE G (c-1) n l _ _ (iU T e s').1 _ af af af af aB.st (λaG=>by
      rcases aB with⟨_,h⟩|⟨h,_⟩
      ·exact congrArg Prod.fst h
      ·exact absurd aG h)).le (s0:=s') af
     simpa [ju,d,i,u,fi,v]using this
    |false=>
     cases y:(au T s'.at_).text==[91]with
     |false=>exact⟨(e,s'),(e,s'),by simp[ju,d,i,u,y],by simp[fi,v,z,i,u,y],.inl ⟨a,rfl⟩,bj _⟩
     |true=>
      obtain⟨n,rfl⟩:∃m,n=m+1:=⟨n-1,af⟩;have S:∀j,j<c->il T j:=λj V=>G j af
      rcases vG aE S a B (x:=[91]) rfl 0 n l af af af with⟨bH,bX,p,q,cj,dq,A,ab⟩|⟨bH,bX,cj,dq,A⟩
      ·have P:=lv (T:=T) (x:=[93]) A.st rfl;have aa:=oj aE p.2 [93];have:=(tU aE G (c-1) (n+1) l (h3 T [93] p.2).2 (dn T [93] q.2) (.mk {kind:=6,pos:=(au T s'.at_).pos} [e,p.1]) (.mk {kind:=6,pos:=(au T s'.at_).pos} [e,q.1]) af af af af P (λaG=>by
        rcases A with⟨_,rfl⟩|⟨h,_⟩
        ·rfl
        ·exact absurd aG (x6 h _))).le (s0:=s') af
       simpa [ju,d,i,u,y,jO,bH,cj,fi,v,z,dq]using this
      ·have F:(cN T [91] s').aF≠0:=by rw[cj];exact bX
       have M:((dr T [91] s').2.aF==0)=false:=by simpa using bX
       have N:(dn T [93] (cN T [91] s'))=eo (cN T [91] s'):=by simp[dn,bl,ev F,fk F]
       have O:(eo (cN T [91] s')).aF≠0:=F;refine⟨(.mk {kind:=6,pos:=(au T s'.at_).pos} [e,.zero],(dr T [91] s').2),(.mk {kind:=6,pos:=(au T s'.at_).pos} [e,mB T (cN T [91] s')],eo (cN T [91] s')),?_,?_,.inr ⟨bX,cj,dq⟩,?_⟩
       ·simp[ju,d,i,u,y,jO,bH,M]
       ·simp[fi,v,z,i,u,y,A,N,tO O l af]
       ·simp only[lE bX];omega
  ·have Q:s'.aF≠0:=by
    rcases w with⟨h,_⟩|⟨_,h,_⟩
    ·exact absurd h a
    ·rw[h];exact a
   have d:(s.aF==0)=false:=by simpa using a
   exact⟨(e,s),(o,s'),by simp[ju,d],tO Q (l+1) af o,ee.of w λh=>absurd h a,bj _⟩
def dO.pure{α:Type}{T:List Tok}{s:av}{p q:α×av}(h:ee p q)(a:left T p.2<=left T s):dO T s (D p) (D q):=⟨p,q,rfl,rfl,h,a⟩
def dO.map{α β:Type}{T:List Tok}{s:av}{a b:Option (α×av)}(h:dO T s a b)(f:α->β):dO T s (a.bind λp=>D (f p.1,p.2)) (b.bind λp=>D (f p.1,p.2)):=by
 obtain⟨p,q,rfl,rfl,e,i⟩:=h;refine⟨(f p.1,p.2),(f q.1,q.2),rfl,rfl,?_,i⟩;rcases e with⟨h,rfl⟩|⟨h,c,d⟩
 ·exact .inl ⟨h,rfl⟩
 ·exact .inr ⟨h,c,d⟩
def Iu{T:List Tok}(aE:T.length<=40000000){k:Nat}(i:∀j,j<k->il T j){s:av}(a:s.aF=0)(d:(au T s.at_).kind=1)(aB:left T s<=k)(n c:Nat)(u:30*k+9<=n)(v:30*k+9<=c):
  dO T s (vb T (n+1) s) (bif a1 T (bu T s).2 [40]then(h1 T (c+1) (bu T s).2).bind λp=>D (.mk {kind:=7,name:=(bu T s).1,pos:=(au T s.at_).pos} p.1,p.2)else D (.mk {kind:=4,name:=(bu T s).1,pos:=(au T s.at_).pos} [],(bu T s).2)):=by
 have h:bu T s=((au T s.at_).text,aD s):=by simp[bu,a,d]
 have o:=j5 aE a (by rw[d];decide);have e:a1 T (aD s) [40]=b_ T (aD s) 4 [40]:=rfl;rw[h];simp only[vb,e];cases b_ T (aD s) 4 [40]with
 |true=>
  obtain⟨n,rfl⟩:∃m,n=m+1:=⟨n-1,af⟩;have:=F8 aE (k:=k-1) (λj q=>i j af) (s:=aD s) a af n c af af;exact(this.map λl=>aL.mk {kind:=7,name:=(au T s.at_).text,pos:=(au T s.at_).pos} l).le af
 |false=>exact dO.pure (.inl ⟨a,rfl⟩) (by simp only;omega)
def Hh{T:List Tok}(aE:T.length<=40000000){k:Nat}(O:∀j,j<k->il T j){s:av}(o:s.aF=0)(L:(au T s.at_).kind=3)(aB:left T s<=k)(n a:Nat)(W:30*k+9<=n)(aa:30*k+9<=a):
  dO T s (uu T (n+1) s) (j3 T (a+1) (au T s.at_).pos (aD s)):=by
 have P:=j5 aE o (by rw[L];decide);have p:(aD s).aF=0:=o;have z:a1 T (aD s) [91]=b_ T (aD s) 4 [91]:=rfl;simp only[uu,j3,z];cases c:b_ T (aD s) 4 [91]with
 |true=>
  have Q:=lF aE cu c;have v:=of_same T (aD (aD s));have hw:=wA (T:=T) (x:=[93]) v.st rfl;have S:=A1 aE (aD (aD s));have V:=uT aE (eP T (aD (aD s))).2 [93];simp only[aZ];obtain⟨n,rfl⟩:∃m,n=m+1:=⟨n-1,af⟩;obtain⟨a,rfl⟩:∃m,a=m+1:=⟨a-1,af⟩;by_cases aG:(ej T [93] (eP T (aD (aD s))).2).2.aF=0
  ·have M:(eP T (aD (aD s))).2.aF=0:=by
    by_cases h:(eP T (aD (aD s))).2.aF=0
    ·exact h
    ·exact absurd aG (by simp only[ej,jy h,aT,fk h];exact h)
   have w:=(v.resolve_right (by rintro⟨h,_⟩;exact h M)).2;have y:=(hw.resolve_right (by rintro⟨h,_⟩;exact h aG)).2;rw[w]at y;rw[w,y];have:=vV aE (k:=k-1) (λj R=>O j af) (s:=(ej T [93] (eP T (aD (aD s))).2).2) aG af n a af af;exact(this.map λe=>aL.mk {kind:=9,cc:=(eP T (aD (aD s))).1.1,c4:=(eP T (aD (aD s))).1.2,pos:=(au T s.at_).pos} [e]).le af
  ·have q:=hw.resolve_left (by rintro⟨h,_⟩;exact aG h);have i:(bl T [93] (cM T (aD (aD s))).2).aF≠0:=by rw[q.2.1];exact aG
   have F:(dr T [40] (ej T [93] (eP T (aD (aD s))).2).2)=(U,(ej T [93] (eP T (aD (aD s))).2).2):=by simp[dr,jy aG,fk aG]
   have G:cN T [40] (bl T [93] (cM T (aD (aD s))).2)=eU (bl T [93] (cM T (aD (aD s))).2):=by
    simp only[cN,ev i,Bool.false_and,aT];rw[bl,ev i,aT,fk i]
   have l:(eU (bl T [93] (cM T (aD (aD s))).2)).aF≠0:=i;have H:dn T [41] (eU (bl T [93] (cM T (aD (aD s))).2))=eo (eU (bl T [93] (cM T (aD (aD s))).2)):=by
    unfold dn;rw[bl,ev l,aT,fk l]
   have N:jO T (n+1) [40] [41] (ej T [93] (eP T (aD (aD s))).2).2=D (.zero,(ej T [93] (eP T (aD (aD s))).2).2):=by simp[jO,F]
   have K:gU T (a+1) (bl T [93] (cM T (aD (aD s))).2)=D (mB T (eU (bl T [93] (cM T (aD (aD s))).2)),eo (eU (bl T [93] (cM T (aD (aD s))).2))):=by
    simp only[gU,G,pR l a 0 af af,Option.bind_some,H]
   simp only[N,K,Option.bind_some];exact dO.pure (.inr ⟨aG,q.2.1,q.2.2⟩) (by simp only[lE aG];omega)
 |false=>
  simp only[aT];by_cases d:(au T (aD s).at_).kind=1
  ·have c:((au T (aD s).at_).kind != 1)=false:=by simp[d]
   have:=j5 aE p (by rw[d];decide);have A:bu T (aD s)=((au T (aD s).at_).text,aD (aD s)):=by simp[bu,p,d]
   simp only[c,aT,A];exact dO.pure (.inl ⟨o,rfl⟩) (by simp only;omega)
  ·have c:((au T (aD s).at_).kind==1)=false:=by simpa using d
   have E:((au T (aD s).at_).kind != 1)=true:=by simpa using d
   have B:=iz (T:=T) p 2;have u:(aD (cL T 2 (aD s))).aF≠0:=by show(cL T 2 (aD s)).aF≠0;rw[B.1];decide
   simp only[E,aZ,bu,c,Bool.and_false,aT];exact dO.pure (.inr ⟨u,rfl,rfl⟩) (by simp only[lE u];omega)
def p2{T:List Tok}{s:av}(a:s.aF=0)(x:aK):a1 T s x=((au T s.at_).kind==kw x&&(au T s.at_).text==x):=by simp[a1,b_,a]
def H5{T:List Tok}(aE:T.length<=40000000)(s:av)(x:aK):left T (dr T x s).2<=left T s:=by
 cases h:b_ T s 4 x with
 |true=>
  simp only[dr,h,aZ];split
  ·exact mL s 4
  ·have:=lF aE cu h;have e:left T {s with at_:=jP (s.at_+1),bP:=jP (s.bP+1)}=left T (aD s):=rfl;simp only[e];omega
 |false=>simp only[dr,h,aT];exact mL s 2
def I3{T:List Tok}{s:av}(k:s.aF=0):ee (qC T s) (aL.mk {kind:=11,pos:=(au T s.at_).pos} [],dn T [41] (cN T [40] (aD s))):=by
 have l:(aD s).aF=0:=k;simp only[qC];rcases vj (T:=T) l (x:=[40]) rfl with⟨c,a,d,j⟩|⟨c,a,d⟩
 ·simp only[c,d,j,aZ];exact ee.of (lv (.refl _) rfl) λ_=>rfl
 ·simp only[c,aT];have e:=d.resolve_left (by rintro⟨h,_⟩;exact a h);have i:(cN T [40] (aD s)).aF≠0:=by rw[e.2.1];exact a
  refine .inr ⟨a,?_,?_⟩<;>simp[dn,bl,ev i,fk i,eo,e.2.1,e.2.2]
def H7{T:List Tok}(aE:T.length<=40000000)(s:av):left T (qC T s).2<=left T (aD s):=by
 have a:=H5 aE (aD s) [40];simp only[qC];cases(dr T [40] (aD s)).1 with
 |true=>simp only[aZ];have:=oj aE (dr T [40] (aD s)).2 [41];omega
 |false=>simp only[aT];omega
def G2{T:List Tok}{s:av}(d:s.aF=0)(a:(au T s.at_).kind≠1):bu T s=([],cL T 2 s)/\(cL T 2 s).aF≠0:=by
 have c:((au T s.at_).kind==1)=false:=by simpa using a
 exact⟨by simp[bu,c],by rw[(iz d 2).1];decide⟩
def G3{T:List Tok}(aE:T.length<=40000000){k:Nat}(A:∀j,j<k->il T j){s:av}(a:s.aF=0)(aB:left T s<=k)(n c:Nat)(ak:30*k+10<=n)(al:30*k+10<=c):
  dO T s (kI T (n+1) s) (hK T (c+1) s):=by
 obtain⟨n,rfl⟩:∃m,n=m+1:=⟨n-1,af⟩;obtain⟨c,rfl⟩:∃m,c=m+1:=⟨c-1,af⟩;have ah:(s.aF==0)=true:=by simpa using a
 have l:kw [116,114,117,101]=3:=rfl;have o:kw [102,97,108,115,101]=3:=rfl;have q:kw [110,117,108,108]=3:=rfl;have u:kw [110,101,119]=3:=rfl;have v:kw [108,101,110]=3:=rfl;have w:kw [114,101,97,100]=3:=rfl;have x:kw [40]=4:=rfl;have B:(au T s.at_).kind≠1->dO T s (D (aL.zero,cL T 2 s)) (bif a1 T (bu T s).2 [40]then(h1 T (c+1) (bu T s).2).bind λp=>D (.mk {kind:=7,name:=(bu T s).1,pos:=(au T s.at_).pos} p.1,p.2)else D (.mk {kind:=4,name:=(bu T s).1,pos:=(au T s.at_).pos} [],(bu T s).2)):=by
  intro d;obtain⟨P,E⟩:=G2 (T:=T) a d;rw[P];simp only[ev E,aT];exact dO.pure (.inr ⟨E,rfl,rfl⟩) (mL s 2)
 by_cases y:(au T s.at_).kind=2
 ·have:=j5 aE a (by rw[y];decide);simp only[kI,hK,a,y,ne_eq,not_true,if_false,if_true,beq_self_eq_true,Bool.and_self,aZ];exact dO.pure (.inl ⟨a,rfl⟩) (by simp only;omega)
 have O:((au T s.at_).kind==2)=false:=by simpa using y
 by_cases d:(au T s.at_).kind=1
 ·have:=Iu aE A a d aB n c af af;have V:((1:Int)==3)=false:=rfl;have ad:((1:Int)==4)=false:=rfl;have R:((1:Int)==2)=false:=rfl;have Q:¬((1:Int)=2):=cu;simpa only[kI,hK,a,d,Q,ne_eq,not_true,if_false,if_true,beq_self_eq_true,Bool.and_false,Bool.true_and,V,ad,R,aT,p2 a,l,o,q,u,v,w,x,Bool.false_and,Bool.or_self,or_true,true_or]using this
 by_cases z:(au T s.at_).kind=4
 ·have G:((4:Int)==3)=false:=rfl;have F:((4:Int)==2)=false:=rfl;have H:¬((4:Int)=2):=cu;have K:¬((4:Int)=1):=cu;have L:((4:Int)=3\/(4:Int)=4):= .inr rfl;cases N:(au T s.at_).text==[40]with
  |true=>
   have:=vV aE A a aB n c af af;simpa only[kI,hK,a,z,H,K,L,G,F,N,ne_eq,not_true,if_false,if_true,beq_self_eq_true,Bool.and_false,Bool.true_and,aT,aZ,p2 a,l,o,q,u,v,w,x,Bool.false_and,Bool.or_self,or_true,true_or]using this
  |false=>
   have:=B d;simpa only[kI,hK,a,z,H,K,L,G,F,N,ne_eq,not_true,if_false,if_true,beq_self_eq_true,Bool.and_false,Bool.true_and,aT,aZ,p2 a,l,o,q,u,v,w,x,Bool.false_and,Bool.or_self,or_true,true_or]using this
 by_cases i:(au T s.at_).kind=3
 ·have ai:=j5 aE a (by rw[i];decide);have ag:(aD s).aF=0:=a;have ae:((3:Int)==4)=false:=rfl;have S:((3:Int)==2)=false:=rfl;have W:¬((3:Int)=2):=cu;have aa:¬((3:Int)=1):=cu;have ab:((3:Int)=3\/(3:Int)=4):= .inl rfl;simp only[kI,hK,a,i,W,aa,ab,ae,S,ne_eq,not_true,if_false,if_true,beq_self_eq_true,Bool.and_false,Bool.true_and,aT,aZ,p2 a,l,o,q,u,v,w,x,Bool.false_and];cases t1:(au T s.at_).text==[116,114,117,101]||(au T s.at_).text==[102,97,108,115,101]with
  |true=>simp only[aZ];exact dO.pure (.inl ⟨a,rfl⟩) (by simp only[D3];omega)
  |false=>
   cases t2:(au T s.at_).text==[110,117,108,108]with
   |true=>
    simp only[aZ,aT];have M:=of_same T (aD s);refine dO.pure ?_ (by have:=A1 aE (aD s);simp only[BT];omega);refine ee.of M.st λh=> ?_
    rw[(M.resolve_right (by rintro⟨ba,_⟩;exact ba h)).2]
   |false=>
    cases t3:(au T s.at_).text==[110,101,119]with
    |true=>simp only[aZ,aT];exact Hh aE A a i aB n c af af
    |false=>
     cases t4:(au T s.at_).text==[108,101,110]with
     |true=>
      simp only[aZ,aT];have:=vV aE (k:=k-1) (λj aj=>A j af) (s:=aD s) ag af n c af af;exact(this.map λe=>aL.mk {kind:=10,pos:=(au T s.at_).pos} [e]).le af
     |false=>
      cases t5:(au T s.at_).text==[114,101,97,100]with
      |true=>
       simp only[aZ,aT];exact dO.pure (I3 a) (by have:=H7 aE s;omega)
      |false=>simp only[aT];exact B d
 ·have b3:((au T s.at_).kind==3)=false:=by simpa using i
  have cK:((au T s.at_).kind==4)=false:=by simpa using z
  have:=B d;simpa only[kI,hK,a,d,y,i,z,O,b3,cK,ne_eq,not_true,if_false,if_true,beq_self_eq_true,Bool.and_false,Bool.true_and,aT,aZ,p2 a,l,o,q,u,v,w,x,Bool.false_and,Bool.or_self,or_self]using this
def MI{T:List Tok}(aE:T.length<=40000000){k:Nat}(o:∀j,j<k->il T j){s:av}(w:s.aF=0)(aB:left T s<=k)(n a:Nat)(H:30*k+14<=n)(K:30*k+14<=a):
  dO T s (nM T n s) (ji T a s):=by
 obtain⟨n,rfl⟩:∃m,n=m+1:=⟨n-1,af⟩;obtain⟨a,rfl⟩:∃m,a=m+1:=⟨a-1,af⟩;have z:a1 T s [45]=b_ T s 4 [45]:=rfl;have A:a1 T s [33]=b_ T s 4 [33]:=rfl;have y:∀(x:aK) (u:Int),kw x=4->b_ T s 4 x=X->dO T s (sS T n x u s) (ky T a u s):=by
  intro x u G E;obtain⟨n,rfl⟩:∃m,n=m+1:=⟨n-1,af⟩;obtain⟨a,rfl⟩:∃m,a=m+1:=⟨a-1,af⟩;have F:(au T s.at_).text=x:=(uJ E).2.2;simp only[sS,ky,F];rcases vG aE o w aB G 5 (n+1) a af af af with⟨i,l,p,q,d,e,c,v⟩|⟨i,l,d,e,c⟩
  ·have B:nM T n (dr T x s).2=D p:=by rw[ht]at d;exact d
   simp only[i,B,e,Option.bind_some,aZ];refine dO.pure ?_ (by rw[H6];omega);refine ee.of c.st.out λh=> ?_
   rw[(c.resolve_right (by rintro⟨ba,_⟩;exact ba h)).2]
  ·simp only[i,c,Option.bind_some,aT];exact dO.pure (.inr ⟨l,d,e⟩) (by simp only[lE l];omega)
 simp only[nM,ji,z,A];cases i1:b_ T s 4 [45]with
 |true=>simp only[aZ];exact y [45] 12 rfl i1
 |false=>
  cases i2:b_ T s 4 [33]with
  |true=>simp only[aZ,aT];exact y [33] 13 rfl i2
  |false=>
   simp only[aT];obtain⟨n,rfl⟩:∃m,n=m+2:=⟨n-2,af⟩;obtain⟨a,rfl⟩:∃m,a=m+1:=⟨a-1,af⟩;obtain⟨p,q,d,e,c,v⟩:=G3 aE o w aB n a af af;have:=(tU aE o k (n+1) (a+1) p.2 q.2 p.1 q.1 af af af af c.st (λh=>by
    rw[(c.resolve_right (by rintro⟨ba,_⟩;exact ba h)).2])).le v
   rw[rq];simpa only[d,e,Option.bind_some]using this
def CT{T:List Tok}(aE:T.length<=40000000){k:Nat}(c:∀j,j<k->il T j){s:av}(d:s.aF=0)(aB:left T s<=k):∀(j lev n a:Nat),lev+j=5->30*k+20<=n+lev->30*k+20<=a+lev->dO T s (ht T n lev s) (dP T a lev s)
 |0,lev,n,a,i,l,o=>by
  obtain rfl:lev=5:=af;obtain⟨n,rfl⟩:∃m,n=m+1:=⟨n-1,af⟩;obtain⟨a,rfl⟩:∃m,a=m+1:=⟨a-1,af⟩;simp only[ht,dP,if_true];exact MI aE c d aB n a af af
 |j+1,lev,n,a,i,l,o=>by
  have e:¬lev=5:=af;obtain⟨n,rfl⟩:∃m,n=m+1:=⟨n-1,af⟩;obtain⟨a,rfl⟩:∃m,a=m+1:=⟨a-1,af⟩;obtain⟨p,q,g1,g2,g3,g4⟩:=CT aE c d aB j (lev+1) n a af af af;have:=(CR aE c (lev:=lev) af k n a p.2 q.2 p.1 q.1 af af af af g3.st (λh=>by
   rw[(g3.resolve_right (by rintro⟨ba,_⟩;exact ba h)).2])).le g4
  simpa only[ht,dP,e,if_false,g1,g2,Option.bind_some]using this
def CU{T:List Tok}(aE:T.length<=40000000):∀k,il T k:=by
 intro k
 induction k using Nat.strongRecOn with
 |_ k i=>
  intro s aB lev n c d e h;by_cases a:s.aF=0
  ·exact CT aE i a aB (5-lev) lev n c af e h
  ·exact Jg a lev n c d af af
def bM.cells(a:bM)(kv:aa):List aa:=[I J a.kind,I J a.n,Y a.name,Y a.cc,I J a.c4,kv,I J a.pos,I J a.sU,I J a.D1,I J a.pa,I J a.ref]
mutual
def cr(H:ad)(ok:Nat->Prop):aL->aa->Prop
 | .mk a ks,v=>∃kv,v= .agg (a.cells kv)/\((kv= .ar/\ks.length=0)\/(∃l i cap ro els,kv= .aA l i ks.length 11 cap/\ok l/\H.get l=D (.row ro 11 els)/\dd H ok ks (els.drop i))\/∃l i cap,kv= .aA l i 0 11 cap/\ks.length=0)
def dd(H:ad)(ok:Nat->Prop):List aL->List (List aa)->Prop
 |[],_=>True
 |e::es,[]=>False
 |e::es,cs::css=>cr H ok e (.agg cs)/\dd H ok es css
end
def b8(H:ad)(ok:Nat->Prop)(ks:List aL)(kv:aa):Prop:=(kv= .ar/\ks.length=0)\/(∃l i cap ro els,kv= .aA l i ks.length 11 cap/\ok l/\H.get l=D (.row ro 11 els)/\dd H ok ks (els.drop i))\/∃l i cap,kv= .aA l i 0 11 cap/\ks.length=0
def gQ{H:ad}{ok:Nat->Prop}{a:bM}{ks:List aL}{v:aa}:cr H ok (.mk a ks) v↔∃kv,v= .agg (a.cells kv)/\b8 H ok ks kv:=by
 rw[cr];rfl
def c9(H:ad)(ok:Nat->Prop)(H':ad)(ok':Nat->Prop):Prop:=∀l ro els,ok l->H.get l=D (.row ro 11 els)->ok' l/\H'.get l=D (.row ro 11 els)
mutual
def cr.aX{H H':ad}{ok ok':Nat->Prop}(p:c9 H ok H' ok'):∀(e:aL) (v:aa),cr H ok e v->cr H' ok' e v
 | .mk a ks,v,h=>by
  rw[cr]at h ⊢;obtain⟨kv,n,c⟩:=h;refine⟨kv,n,?_⟩;rcases c with c|⟨l,i,cap,ro,els,d,j,k,m⟩|c
  ·exact .inl c
  ·obtain⟨aY,o⟩:=p l ro els j k;exact .inr (.inl ⟨l,i,cap,ro,els,d,aY,o,dd.aX p ks _ m⟩)
  ·exact .inr (.inr c)
def dd.aX{H H':ad}{ok ok':Nat->Prop}(p:c9 H ok H' ok'):∀(es:List aL) (cs:List (List aa)),dd H ok es cs->dd H' ok' es cs
 |[],_,_=>by rw[dd];trivial
 |e::es,[],h=>by rw[dd]at h;exact h.elim
 |e::es,cs::css,h=>by
  rw[dd]at h ⊢;exact⟨cr.aX p e _ h.1,dd.aX p es css h.2⟩
end
def b8.aX{H H':ad}{ok ok':Nat->Prop}(p:c9 H ok H' ok'){ks:List aL}{v:aa}(h:b8 H ok ks v):b8 H' ok' ks v:=by
 rcases h with a|⟨l,i,cap,ro,els,c,d,e,j⟩|a
 ·exact .inl a
 ·obtain⟨aY,k⟩:=p l ro els d e;exact .inr (.inl ⟨l,i,cap,ro,els,c,aY,k,dd.aX p ks _ j⟩)
 ·exact .inr (.inr a)
def c9.mut{r:Nat}{H H':ad}{ok ok':Nat->Prop}(m:b5 r H H')(c:¬ok r)(a:∀l,ok l->ok' l):c9 H ok H' ok':=λl ro els h e=>⟨a l h,m.get e (by rintro rfl;exact c h)⟩
def c9.aM{H H':ad}{ok ok':Nat->Prop}(m:aO H H')(a:∀l,ok l->ok' l):c9 H ok H' ok':=λl ro els h e=>⟨a l h,m.get e⟩
def bf(n:Nat):Nat->Prop:=λl=>n<=l
def cr.agg{H:ad}{ok:Nat->Prop}{e:aL}{v:aa}(h:cr H ok e v):∃k n cg ai d kv p t1 t2 t3 m,v= .agg [I J k,I J n,Y cg,Y ai,I J d,kv,I J p,I J t1,I J t2,I J t3,I J m]/\kv.one=true:=by
 cases e with|mk a ks=>
 rw[gQ]at h;obtain⟨kv,c,j⟩:=h;refine⟨_,_,_,_,_,kv,_,_,_,_,_,c,?_⟩;rcases j with⟨rfl,_⟩|⟨l,i,cap,ro,els,rfl,_⟩|⟨l,i,cap,rfl,_⟩<;>rfl
def cr.leaf(H:ad)(ok:Nat->Prop)(a:bM):cr H ok (.mk a []) (.agg (a.cells .ar)):=by
 rw[gQ];exact⟨_,rfl,.inl ⟨rfl,rfl⟩⟩
def jf(l:Nat)(cs:List aa)(h:cs.length=11)(a:cs.all aa.one=X):bV P l 41 1 [(0,.agg cs)]=D (.aA l 0 1 11 (D 1),.row U 11 [cs]):=by
 have:bV P l 41 1 [(0,.agg cs)]=(ir 11 (List.replicate 1 [I J 0,I J 0,Y [],Y [],I J 0,.ar,I J 0,I J 0,I J 0,I J 0,I J 0]) [(0,.agg cs)]).bind λels=>D (.aA l 0 1 11 (D 1),.row U 11 els):=ah
 rw[this];simp[ir,aa.cells,h,a]
def vW(l:Nat)(cs a:List aa)(h:cs.length=11)(c:cs.all aa.one=X)(ba:a.length=11)(d:a.all aa.one=X):bV P l 41 2 [(0,.agg cs),(1,.agg a)]=D (.aA l 0 2 11 (D 2),.row U 11 [cs,a]):=by
 have:bV P l 41 2 [(0,.agg cs),(1,.agg a)]=(ir 11 (List.replicate 2 [I J 0,I J 0,Y [],Y [],I J 0,.ar,I J 0,I J 0,I J 0,I J 0,I J 0]) [(0,.agg cs),(1,.agg a)]).bind λels=>D (.aA l 0 2 11 (D 2),.row U 11 els):=ah
 rw[this];have e:List.replicate 2 [aa.int J 0,I J 0,Y [],Y [],I J 0,.ar,I J 0,I J 0,I J 0,I J 0,I J 0]=[[aa.int J 0,I J 0,Y [],Y [],I J 0,.ar,I J 0,I J 0,I J 0,I J 0,I J 0],[aa.int J 0,I J 0,Y [],Y [],I J 0,.ar,I J 0,I J 0,I J 0,I J 0,I J 0]]:=rfl;rw[e];simp[ir,aa.cells,h,c,ba,d]
def c9.push{H:ad}{ok ok':Nat->Prop}(b:bO)(a:∀l,ok l->ok' l):c9 H ok (H.push b) ok':=c9.aM (aO.push H b) a
def c9.set{H:ad}{ok ok':Nat->Prop}{l:Nat}(b:bO)(h:¬ok l)(c:∀l,ok l->ok' l):c9 H ok (H.set l b) ok':=λj ro els a e=>⟨c j a,by rw[ad.get_set_other (by rintro rfl;exact h a)];exact e⟩
def c9.kL{H:ad}{ok ok':Nat->Prop}(h:∀l,ok l->ok' l):c9 H ok H ok':=λl ro els a e=>⟨h l a,e⟩
def cr.cells{H:ad}{ok:Nat->Prop}{e:aL}{v:aa}(h:cr H ok e v):∃cs,v= .agg cs/\cs.length=11/\cs.all aa.one=true:=by
 obtain⟨k,n,cg,ai,d,kv,p,t1,t2,t3,c,rfl,a⟩:=h.agg;exact⟨_,rfl,rfl,by simp only[List.all_cons,List.all_nil,gJ,hq,a,Bool.and_self]⟩
def cr.same{H:ad}{ok:Nat->Prop}{e:aL}{v:aa}(h:cr H ok e v):bh (D v) v=true:=by
 cases e with|mk a ks=>
 rw[gQ]at h;obtain⟨kv,rfl,c⟩:=h;have:aa.beq kv kv=true:=by rcases c with⟨rfl,_⟩|⟨l,i,cap,ro,els,rfl,_⟩|⟨l,i,cap,rfl,_⟩<;>simp[aa.beq]
 simp[bh,aa.beq,fY.beq,bM.cells,this]
def tl(ok:Nat->Prop)(H:ad)(r:Nat)(T:List Tok)(ao cp:aa)(e:aL)(s':av)(v:aa)(H':ad):Prop:=b5 r H H'/\jq H' r T ao cp s'/\cr H' ok e v
abbrev py(H:ad):=tl (bf H.next) H
def py.box{H c:ad}{r:Nat}{T:List Tok}{ao cp:aa}{s s':av}{a:bM}{ks:List aL}{kv:aa}{b:Nat}{lo:Nat}(h:jq H r T ao cp s)(m:b5 r H c)(e:iO c r ao cp s')(i:H.next<=b)(n:b<lo)(j:b8 c (bf lo) ks kv)(d:bO):
  py H r T ao cp (.mk a ks) s' (.agg (a.cells kv)) (c.set b d):=by
 have k:=h.rd.lt;have m':=m.cv (.inr i) d;refine⟨m',h.mut m' ?_,?_⟩
 ·unfold iO at e ⊢;rw[ad.get_set_other af];exact e
 ·rw[gQ];exact⟨kv,rfl,j.aX (c9.set _ (by unfold bf;omega) λl k=>by unfold bf at*;omega)⟩
def b8.nil(H:ad)(ok:Nat->Prop):b8 H ok [] .ar:= .inl ⟨rfl,rfl⟩
def tl.fin{ok:Nat->Prop}{H bJ:ad}{r:Nat}{T:List Tok}{ao cp:aa}{s s':av}{a:bM}{ks:List aL}{kv:aa}(e:jq H r T ao cp s)(m:b5 r H bJ)(c:iO bJ r ao cp s')(d:b8 bJ ok ks kv):tl ok H r T ao cp (.mk a ks) s' (.agg (a.cells kv)) bJ:=
 ⟨m,e.mut m c,gQ.2 ⟨kv,rfl,d⟩⟩
def b8.mS{H:ad}{ok:Nat->Prop}{L:Nat}{e:aL}{cs:List aa}{cap:Option Nat}{ro:Bool}(a:H.get L=D (.row ro 11 [cs]))(c:ok L)(h:cr H ok e (.agg cs)):b8 H ok [e] (.aA L 0 1 11 cap):=by
 refine .inr (.inl ⟨L,0,cap,ro,[cs],rfl,c,a,?_⟩);simp only[List.drop_zero];rw[dd,dd];exact⟨h,trivial⟩
def b8.wu{H:ad}{ok:Nat->Prop}{L:Nat}{e f:aL}{cs a:List aa}{cap:Option Nat}{ro:Bool}(c:H.get L=D (.row ro 11 [cs,a]))(d:ok L)(h:cr H ok e (.agg cs))(ba:cr H ok f (.agg a)):b8 H ok [e,f] (.aA L 0 2 11 cap):=by
 refine .inr (.inl ⟨L,0,cap,ro,[cs,a],rfl,d,c,?_⟩);simp only[List.drop_zero];rw[dd,dd,dd];exact⟨h,ba,trivial⟩
def cr.mut{H H':ad}{ok ok':Nat->Prop}{r:Nat}{e:aL}{v:aa}(h:cr H ok e v)(m:b5 r H H')(c:¬ok r)(a:∀l,ok l->ok' l):cr H' ok' e v:=cr.aX (c9.mut m c a) e v h
def cr.new{H H':ad}{ok:Nat->Prop}{n:Nat}{e:aL}{v:aa}(h:cr H (bf n) e v)(m:cP (· <n) H H')(c:∀l,n<=l->ok l):cr H' ok e v:=
 cr.aX (λl ro els a g=>⟨c l a,m.get g (Nat.not_lt.2 a)⟩) e v h
def fc(n:Nat):Prop:=∀{H:ad} {r:Nat} {T:List Tok} {ao cp:aa} {s:av},jq H r T ao cp s->cp≠ .ar->∀(lev:Nat),lev<=5->∀(e:aL) (s':av),ht T n lev s=D (e,s')->W (aC P ay 165 [.ptr r 0 0,I J lev] H) (py H r T ao cp e s')
def py.ret{H a:ad}{r:Nat}{T:List Tok}{ao cp:aa}{s s':av}{e:aL}{v:aa}{b n:Nat}(i:jq H r T ao cp s)(m:b5 r H a)(d:iO a r ao cp s')(j:H.next<=b)(he:cr a (bf n) e v)(k:b<n)(c:bO):py H r T ao cp e s' v (a.set b c):=by
 have o:=i.rd.lt;have m':=m.cv (.inr j) c;refine⟨m',i.mut m' ?_,he.new (cP.cv (S:=(· <n)) (cP.refl _ _) (.inl k) _) λl h=>by unfold bf;omega⟩;unfold iO at d ⊢;rw[ad.get_set_other af];exact d
def dd.append{H:ad}{ok:Nat->Prop}:∀(es:List aL) (cs:List (List aa)) (e:aL) (c:List aa),dd H ok es cs->cs.length=es.length->cr H ok e (.agg c)->dd H ok (es++[e]) (cs++[c])
 |[],[],e,c,_,_,h=>by
  simp only[List.nil_append];rw[dd,dd];exact⟨h,trivial⟩
 |[],_::_,e,c,_,a,_=>by simp at a
 |_::_,[],e,c,h,_,_=>by rw[dd]at h;exact h.elim
 |i::es,d::cs,e,c,h,a,he=>by
  rw[dd]at h;simp only[List.cons_append];rw[dd];exact⟨h.1,dd.append es cs e c h.2 (by simpa using a) he⟩
def Ev:P.underlying 41=D (.slice 45):=ah
def xW:hf P 45=D 120:=ah
def xm:eF P 45=D (.agg [I J 0,I J 0,Y [],Y [],I J 0,.ar,I J 0,I J 0,I J 0,I J 0,I J 0]):=ah
def FV{H:ad}{L:Nat}{cs:List aa}{cap:Option Nat}{ro:Bool}(a:H.get L=D (.row ro 11 [cs])):cQ P H [41,41] .ar (.aA L 0 1 11 cap)=D (.aA H.next 0 1 11 Z,H.push (.row U 11 [cs])):=by
 simp[cQ,hk,iR,dx,Ev,sV,xW,xm,hH,er,a,aa.cells]
def FW{H:ad}{L l n:Nat}{cs:List aa}{els:List (List aa)}{cap:Option Nat}{ro:Bool}(d:H.get L=D (.row ro 11 [cs]))(e:H.get l=D (.row U 11 els))(h:els.length=n)(i:n<=1000000000):cQ P H [41,41] (.aA l 0 n 11 Z) (.aA L 0 1 11 cap)=D (.aA H.next 0 (n+1) 11 Z,(H.set l .dead).push (.row U 11 (els++[cs]))):=by
 have a:(n+1)*120<=140737488355328:=af;have c:n+1<=9223372036854775807:=af;simp[cQ,hk,iR,dx,Ev,sV,xW,xm,hH,er,d,e,aa.cells,h,a,c];rw[List.take_of_length_le af]
def fn(n:Nat):aa:= .func (.func n) [] []
