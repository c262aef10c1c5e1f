/-
  Texts of one proof, laid together: L3 L4 ShL A1 Sr Z1 Z2 Z3 Z4 Z5 Z6 Z7 Z8 Z9 Z10 Z11 X2 X3 X4 X5 X6 X7 X8 X9 X10.
-/
import Derived.Test.YtghmbpmaafnodaaDoorMF
set_option linter.unusedVariables false
set_option linter.unusedSimpArgs false
set_option linter.defProp false
open Option renaming some→D,none→C
open Bool renaming true→X,false→U
open Go.bs.aa renaming int→I,str→Z
open Go.IntKind renaming i64→J
namespace Go.Proofs.YtghmbpmaafnodaaDoor
open Go.bs
open Nat (reduceAdd reduceLeDiff)
def vo(k:Int)(x:aC)(p:Int):cy P 61 [(0,I J k),(1,Z x),(3,I J p)]=D (.agg [I J k,Z x,I J 0,I J p]):=ah
def sI(k:Int)(z:Int)(p:Int):cy P 61 [(0,I J k),(2,I J z),(3,I J p)]=D (.agg [I J k,Z [],I J z,I J p]):=ah
def Ix(k:Int)(p:Int):cy P 61 [(0,I J k),(3,I J p)]=D (.agg [I J k,Z [],I J 0,I J p]):=ah
def xz(d:Bool):∀s:aC,runN d s<=s.length
 |[]=>bj _
 |c::r=>by
  rw[runN];have:=xz d r;cases dh c||(!d&&c8 c)with
  |true=>simp only[aW,List.length_cons];omega
  |false=>simp only[aR,List.length_cons];omega
def w3(p:Nat):Option (Int×aC×Int×Nat)->aa
 |none=> .tuple [.agg [I J 0,Z [],I J 0,I J 0],I J 0]
 |some (k,t,v,m)=> .tuple [.agg [I J k,Z t,I J v,I J p],I J m]
def Lb{H:ad}{s:aC}(ax:s.length<=1000000000000000000){at_:Nat}(Q:at_<s.length):W (aD P ay 39 [Z s,I J at_] H) λv H'=>v=w3 at_ (ga (s.drop at_))/\aO H H':=by
 refine cF (λ_=>Mm 0) ?_;obtain⟨c,r,u⟩:∃c r,s.drop at_=c::r:=by
  cases h:s.drop at_ with
  |nil=>have:=drop_nil h;omega
  |cons c r=>exact⟨c,r,rfl⟩
 obtain⟨an,aE,bn,b8⟩:=drop_cons u;have l:=j8 an;have q:=aO.push H (.row U 4 [[I J 0,Z [],I J 0,I J 0]]);have N:=λd=>xz d (s.drop at_)
 have S:(s.drop at_).length=s.length-at_:=by simp
 simp-implicitDefEqProofs(disch:=try exact aj)only[e9,reduceAdd,reduceLeDiff,reduceIte,aw,l];refine mf (pF _) ?_;cases M:kK (c.toNat:Int)with
 |true=>
  simp-implicitDefEqProofs(disch:=try exact aj)only[e9,bh,bx];refine mf (E_ ax at_ af U) ?_;have T:=N U;have n:=sf (s:=s) (a:=at_) (b:=at_+runN U (s.drop at_)) af af;rw[Nat.add_sub_cancel_left]at n;simp-implicitDefEqProofs(disch:=try exact aj)only[e9,bh,bx,da,lg,n];refine aP (yD _) ?_;rintro _ A ⟨rfl,e⟩;refine⟨e.1,?_⟩;have g2:A.get H.next=D (.row U 4 [[I J 0,Z [],I J 0,I J 0]]):=e.get (ad.bI _ _)
  have V:=ad.aS g2;have k:ga (s.drop at_)=(bif fm ((s.drop at_).take (runN U (s.drop at_)))then D (3,(s.drop at_).take (runN U (s.drop at_)),0,runN U (s.drop at_))else bif dP ((s.drop at_).take (runN U (s.drop at_)))then D (1,(s.drop at_).take (runN U (s.drop at_)),0,runN U (s.drop at_))else C):=by
   have w:c8 c=true:=M;simp only[u,ga,w,aW]
  cases hw:fm ((s.drop at_).take (runN U (s.drop at_)))with
  |true=>
   rw[k,hw];simp-implicitDefEqProofs(disch:=try exact aj)only[e9,reduceAdd,reduceLeDiff,reduceIte,aw,vo,g2];exact ba.2 ⟨rfl,(q.trans e).cE (bj _) _⟩
  |false=>
   rw[k,hw];simp-implicitDefEqProofs(disch:=try exact aj)only[e9,bh,bx];refine aP (Hp (by simp only[List.length_take];omega)) ?_;rintro _ ab ⟨rfl,x⟩;refine⟨x.1,?_⟩;have g3:=x.get g2;have dV:=ad.aS g3;cases ah:dP ((s.drop at_).take (runN U (s.drop at_)))with
   |true=>
    simp-implicitDefEqProofs(disch:=try exact aj)only[e9,reduceAdd,reduceLeDiff,reduceIte,aw,vo,g3];exact ba.2 ⟨rfl,((q.trans e).trans x).cE (bj _) _⟩
   |false=>
    simp-implicitDefEqProofs(disch:=try exact aj)only[e9,reduceAdd,reduceLeDiff,reduceIte,aw,g3];exact ba.2 ⟨rfl,((q.trans e).trans x).cE (bj _) _⟩
 |false=>
  simp-implicitDefEqProofs(disch:=try exact aj)only[e9,bh,bx,l];refine mf (vC _) ?_;have w:c8 c=false:=M;have g1:(H.push (.row U 4 [[I J 0,Z [],I J 0,I J 0]])).get H.next=D (.row U 4 [[I J 0,Z [],I J 0,I J 0]]):=ad.bI _ _
  cases L:mo (c.toNat:Int)with
  |true=>
   have E:dh c=true:=L;simp-implicitDefEqProofs(disch:=try exact aj)only[e9,bh,bx];refine mf (E_ ax at_ af X) ?_;have T:=N X;have n:=sf (s:=s) (a:=at_) (b:=at_+runN X (s.drop at_)) af af;rw[Nat.add_sub_cancel_left]at n;simp-implicitDefEqProofs(disch:=try exact aj)only[e9,bh,bx,da,lg,n];refine mf (PX (by simp only[List.length_take];omega) (λc R=>E4 _ c R)) ?_;have k:ga (s.drop at_)=(match hx 0 ((s.drop at_).take (runN X (s.drop at_)))with
    |none=>C
    |some v=>bif (decide (1<runN X (s.drop at_))&&c.toNat==48)||(decide (runN X (s.drop at_)<(s.drop at_).length)&&c8 (((s.drop at_)[runN X (s.drop at_)]?).getD 0))then C else D (2,[],v,runN X (s.drop at_))):=by
    simp only[u,ga,w,E,aW,aR]<;>rfl
   rw[k];cases ai:hx 0 ((s.drop at_).take (runN X (s.drop at_)))with
   |none=>
    simp-implicitDefEqProofs(disch:=try exact aj)only[e9,reduceAdd,reduceLeDiff,reduceIte,aw,Bool.not_false,g1];exact ba.2 ⟨rfl,aO.push _ _⟩
   |some z=>
    generalize ag:runN X (s.drop at_)=ae at*;have a6:decide (1<ae)=decide ((1:Int)<(ae:Int)):=by rw[decide_eq_decide];omega
    have K:((c.toNat:Int)==48)=(c.toNat==48):=by rw[Bool.eq_iff_iff];simp;omega
    have aa:decide (ae<(s.drop at_).length)=decide (((at_+ae:Nat):Int)<(s.length:Int)):=by rw[decide_eq_decide,S];omega
    rw[a6,aa];simp only
    cases m:decide ((1:Int)<(ae:Int))with
    |true=>
     cases B:c.toNat==48 with
     |true=>
      simp-implicitDefEqProofs(disch:=try exact aj)only[e9,reduceAdd,reduceLeDiff,reduceIte,aw,Bool.not_true,m,l,K,B,g1];exact ba.2 ⟨rfl,aO.push _ _⟩
     |false=>
      cases i:decide (((at_+ae:Nat):Int)<(s.length:Int))with
      |false=>
       simp-implicitDefEqProofs(disch:=try exact aj)only[e9,reduceAdd,reduceLeDiff,reduceIte,aw,Bool.not_true,m,l,K,B,lg,i,g1,sI];exact ba.2 ⟨rfl,aO.push _ _⟩
      |true=>
       obtain⟨y,o⟩:∃y,s[at_+ae]? =D y:=⟨s[at_+ae]'(by have:=of_decide_eq_true i;omega),by simp⟩;have F:=j8 o;have G:(s.drop at_)[ae]? =D y:=by rw[List.getElem?_drop];exact o
       simp-implicitDefEqProofs(disch:=try exact aj)only[e9,reduceAdd,reduceLeDiff,reduceIte,aw,Bool.not_true,m,l,K,B,lg,i,F];refine o7 (pF _) ?_;rw[G];cases p:kK (y.toNat:Int)with
       |true=>
        have j:c8 y=true:=p;simp-implicitDefEqProofs(disch:=try exact aj)only[e9,reduceAdd,reduceLeDiff,reduceIte,aw,g1,Option.getD_some,j];exact ba.2 ⟨rfl,aO.push _ _⟩
       |false=>
        have j:c8 y=false:=p;simp-implicitDefEqProofs(disch:=try exact aj)only[e9,reduceAdd,reduceLeDiff,reduceIte,aw,g1,sI,Option.getD_some,j];exact ba.2 ⟨rfl,aO.push _ _⟩
    |false=>
     cases i:decide (((at_+ae:Nat):Int)<(s.length:Int))with
     |false=>
      simp-implicitDefEqProofs(disch:=try exact aj)only[e9,reduceAdd,reduceLeDiff,reduceIte,aw,Bool.not_true,m,lg,i,g1,sI];exact ba.2 ⟨rfl,aO.push _ _⟩
     |true=>
      obtain⟨y,o⟩:∃y,s[at_+ae]? =D y:=⟨s[at_+ae]'(by have:=of_decide_eq_true i;omega),by simp⟩;have F:=j8 o;have G:(s.drop at_)[ae]? =D y:=by rw[List.getElem?_drop];exact o
      simp-implicitDefEqProofs(disch:=try exact aj)only[e9,reduceAdd,reduceLeDiff,reduceIte,aw,Bool.not_true,m,lg,i,F];refine o7 (pF _) ?_;rw[G];cases p:kK (y.toNat:Int)with
      |true=>
       have j:c8 y=true:=p;simp-implicitDefEqProofs(disch:=try exact aj)only[e9,reduceAdd,reduceLeDiff,reduceIte,aw,g1,Option.getD_some,j];exact ba.2 ⟨rfl,aO.push _ _⟩
      |false=>
       have j:c8 y=false:=p;simp-implicitDefEqProofs(disch:=try exact aj)only[e9,reduceAdd,reduceLeDiff,reduceIte,aw,g1,sI,Option.getD_some,j];exact ba.2 ⟨rfl,aO.push _ _⟩
  |false=>
   have E:dh c=false:=L;simp-implicitDefEqProofs(disch:=try exact aj)only[e9,bh,bx];refine aP (OZ ax Q) ?_;rintro _ A ⟨rfl,e⟩;refine⟨e.1,?_⟩;have g2:A.get H.next=D (.row U 4 [[I J 0,Z [],I J 0,I J 0]]):=e.get (ad.bI _ _)
   have V:=ad.aS g2;have k:ga (s.drop at_)=(bif gZ (s.drop at_)==[]then C else D (4,gZ (s.drop at_),0,(gZ (s.drop at_)).length)):=by
    simp only[u,ga,w,E,aR]
   rw[k];cases O:gZ (s.drop at_)==[]with
   |true=>
    simp-implicitDefEqProofs(disch:=try exact aj)only[e9,reduceAdd,reduceLeDiff,reduceIte,aw,O,g2];exact ba.2 ⟨rfl,(q.trans e).cE (bj _) _⟩
   |false=>
    simp-implicitDefEqProofs(disch:=try exact aj)only[e9,reduceAdd,reduceLeDiff,reduceIte,aw,O,g2,vo];exact ba.2 ⟨rfl,(q.trans e).cE (bj _) _⟩
def Fw(l:Nat)(t:Tok):b5 P l 36 1 [(0,t.v)]=D (.aB l 0 1 4 (D 1),.row U 4 [t.cells]):=by
 obtain⟨k,x,n,p⟩:=t;kernel_rfl
def GP:P.underlying 36=D (.slice 61):=ah
def zB:hN P 61=D 40:=ah
def y1:eV P 61=D (.agg [I J 0,Z [],I J 0,I J 0]):=ah
def H3{H:ad}{L:Nat}{cs:List aa}{cap:Option Nat}{ro:Bool}(a:H.get L=D (.row ro 4 [cs])):c1 P H [36,36] .ar (.aB L 0 1 4 cap)=D (.aB H.next 0 1 4 C,H.push (.row U 4 [cs])):=by
 simp[c1,hS,ju,dG,GP,uJ,zB,y1,h7,eK,a,aa.cells]
def H4{H:ad}{L l n:Nat}{cs:List aa}{els:List (List aa)}{cap:Option Nat}{ro:Bool}(d:H.get L=D (.row ro 4 [cs]))(e:H.get l=D (.row U 4 els))(h:els.length=n)(i:n<=1000000000):c1 P H [36,36] (.aB l 0 n 4 C) (.aB L 0 1 4 cap)=D (.aB H.next 0 (n+1) 4 C,(H.set l .dead).push (.row U 4 (els++[cs]))):=by
 have a:(n+1)*40<=140737488355328:=af;have c:n+1<=9223372036854775807:=af;simp[c1,hS,ju,dG,GP,uJ,zB,y1,h7,eK,d,e,aa.cells,h,a,c];rw[List.take_of_length_le af]
def l_(H0 H:ad)(v:aa)(T:List Tok):Prop:=(v= .ar/\T=[])\/∃l,v= .aB l 0 T.length 4 C/\H0.next<=l/\H.get l=D (.row U 4 (T.map Tok.cells))
def l_.tok{H0 H:ad}{v:aa}{T:List Tok}(h:l_ H0 H v T):eS H v T:=by
 rcases h with h|⟨l,rfl,_,a⟩
 ·exact .inl h
 ·refine .inr ⟨l,0,C,rfl,.inr ⟨U,_,a,λk t c=> ?_⟩⟩;simp[c]
def l_.aM{H0 H H':ad}{v:aa}{T:List Tok}(h:l_ H0 H v T)(p:aO H H'):l_ H0 H' v T:=by
 rcases h with h|⟨l,e,a,c⟩
 ·exact .inl h
 ·exact .inr ⟨l,e,a,p.get c⟩
def yO{H0 H:ad}{v:aa}{T:List Tok}(h:l_ H0 H v T)(p:aO H0 H)(aK:T.length<=1000000)(t:Tok):∃d H',c1 P (H.push (.row U 4 [t.cells])) [36,36] v (.aB H.next 0 1 4 (D 1))=D (d,H')/\l_ H0 H' d (T++[t])/\aO H0 H'/\(H.push (.row U 4 [t.cells])).next<=H'.next/\(∀l,l<H.next->(∀e,v≠ .aB l 0 T.length 4 e)->H'.get l=H.get l):=by
 have c:(H.push (.row U 4 [t.cells])).get H.next=D (.row U 4 [t.cells]):=ad.bI _ _
 rcases h with⟨rfl,rfl⟩|⟨l,rfl,i,a⟩
 ·refine⟨_,_,H3 c,.inr ⟨_,rfl,?_,?_⟩,(p.bE _).bE _,by simp,λl m _=> ?_⟩
  ·have:=p.1;simp only[ad.bX];omega
  ·exact ad.bI (H.push (.row U 4 [t.cells])) _
  ·rw[ad.dw (by simp only[ad.bX];omega),ad.dw af]
 ·have m:=ad.aS a;have k:(H.push (.row U 4 [t.cells])).get l=D (.row U 4 (T.map Tok.cells)):=by rw[ad.dw af];exact a
  refine⟨_,_,H4 c k (by simp) af,.inr ⟨(H.push (.row U 4 [t.cells])).next,by simp,?_,?_⟩,?_,by simp,λj o n=> ?_⟩
  ·have:=p.1;simp only[ad.bX,ad.ds];omega
  ·have e:((H.push (.row U 4 [t.cells])).set l .dead).next=(H.push (.row U 4 [t.cells])).next:=rfl
   simp only[List.map_append,List.map_cons,List.map_nil];rw[<-e];exact ad.bI _ _
  ·exact((p.bE _).cE i _).bE _
  ·rw[ad.dw (by simp only[ad.bX,ad.ds];omega),ad.get_set_other (by rintro rfl;exact n _ rfl),ad.dw af]
def E5(d:Bool)(c:UInt8)(r:aC)(h:(dh c||(!d&&c8 c))=X):1<=runN d (c::r):=by
 rw[runN,h];simp
def OX(s:aC):(gZ s).length<=s.length:=by
 unfold gZ;cases decide (2<=s.length)&&e4 (s.take 2) hM with
 |true=>simp only[aW,List.length_take];omega
 |false=>
  simp only[aR];cases s with
  |nil=>simp
  |cons c r=>simp only[List.length_cons];cases hE c gG<;>simp
def DZ{s:aC}{k:Int}{t:aC}{v:Int}{m:Nat}(h:ga s=D (k,t,v,m)):1<=m/\m<=s.length:=by
 cases s with
 |nil=>simp[ga]at h
 |cons c r=>
  have i:=λd=>xz d (c::r)
  rw[ga]at h;cases e:c8 c with
  |true=>
   have aI:=E5 U c r (by simp[e]);rw[e,aW]at h;cases hw:fm ((c::r).take (runN U (c::r)))with
   |true=>rw[hw,aW]at h;cases h;exact⟨aI,i U⟩
   |false=>
    rw[hw,aR]at h;cases j:dP ((c::r).take (runN U (c::r)))with
    |true=>rw[j,aW]at h;cases h;exact⟨aI,i U⟩
    |false=>rw[j,aR]at h;cases h
  |false=>
   rw[e,aR]at h;cases a:dh c with
   |true=>
    have aI:=E5 X c r (by simp[a]);rw[a,aW]at h;split at h
    ·cases h
    ·rename_i z n;rw[Bool.cond_eq_ite]at h;split at h
     ·cases h
     ·cases h;exact⟨aI,i X⟩
   |false=>
    rw[a,aR]at h;cases ax:gZ (c::r)==[]with
    |true=>rw[ax,aW]at h;cases h
    |false=>
     rw[ax,aR]at h;cases h;have l:¬gZ (c::r)=[]:=by simpa using ax
     have:=OX (c::r);exact⟨List.length_pos_iff.2 l,this⟩
def pf:∀(s:aC) (b:Bool),cG b s<=s.length
 |[],b=>by cases b<;>simp[cG]
 |c::r,X=>by
  have a:=pf r X;have d:=pf r U;rw[cG];cases c.toNat==10<;>simp only[aW,aR,List.length_cons]<;>omega
 |c::r,U=>by
  have a:=pf r X;have d:=pf r U;rw[cG];cases hC c
  ·cases(c==47&&r.head?==D 47)<;>simp only[aW,aR,List.length_cons]<;>omega
  ·simp only[aW,List.length_cons];omega
def yy(H0:ad)(x:List Tok×Int×Int)(r:aa)(H':ad):Prop:=∃ao,r= .tuple [ao,.agg [I J x.2.1,I J x.2.2]]/\eS H' ao x.1/\aO H0 H'
def pG(T:List Tok):Nat ⊕ List Tok->List Tok×Int×Int
 | .inl e=>([],1,e)
 | .inr l=>(T++l,0,0)
def Iu(k p:Int):cy P 29 [(0,I J k),(1,I J p)]=D (.agg [I J k,I J p]):=ah
def Gf{H0:ad}{s:aC}(ax:s.length<=100000)(N:Nat):∀(n:Nat) (rest:aC) (at_ m:Nat) (T:List Tok) (v:aa) (H:ad),s.drop at_=rest->at_<=s.length->l_ (H0.push (.row U 2 [[I J 0,I J 0]])) H v T->aO (H0.push (.row U 2 [[I J 0,I J 0]])) H->T.length<=at_->rest.length<n->rest.length<m->
  W (mQ (aD P ay) N m (Z s) (.ptr H0.next 0 0) v (I J at_) H) (yy H0 (pG T (fG n rest at_)))
 |0,_,_,_,_,_,_,_,_,_,_,_,x,_=>af
 |_,_,_,0,_,_,_,_,_,_,_,_,_,hm=>af
 |n+1,[],at_,m+1,T,v,H,h,Q,i,p,aK,x,hm=>by
  have hlen:=drop_nil h;have u:¬((at_:Int)<(s.length:Int)):=af;have R:s.length=at_:=af;have g:H.get H0.next=D (.row U 2 [[I J 0,I J 0]]):=p.get (ad.bI _ _)
  have lz:=ad.aS g;obtain⟨E,H',d,j,A,L,K⟩:=yO i p af ⟨0,[],0,s.length⟩;have a:=Fw H.next ⟨0,[],0,s.length⟩
  simp only[Tok.v]at a;simp-implicitDefEqProofs(disch:=try exact aj)only[mQ,jE,kV,lM,kW,kU,reduceAdd,reduceLeDiff,reduceIte,aw,u,decide_false,Ix,a,d,eZ];have hn:H'.get H0.next=D (.row U 2 [[I J 0,I J 0]]):=by
   rw[K _ lz ?_];exact g;intro e he;rcases i with⟨rfl,_⟩|⟨l,rfl,ah,_⟩
   ·cases he
   ·cases he;simp only[ad.bX]at ah;omega
  have az:=ad.aS hn;have y:bl (D (.agg [I J 0,I J 0])) (.agg [I J 0,I J 0])=true:=by simp[bl,aa.beq,fV.beq]
  simp-implicitDefEqProofs(disch:=try exact aj)only[jE,kV,lM,kW,kU,reduceAdd,reduceLeDiff,reduceIte,aw,hn,y];have al:aO H0 H':=(aO.push _ _).trans A;have am:aO H0 (H'.set H0.next (.row U 2 [[I J 0,I J 0]])):=al.cE (bj _) _;refine ba.2 ⟨E,rfl,?_,am⟩;rw[fG];simp only[pG];rw[R]at j;exact j.tok.a1 λl ro els e=>by
   rw[ad.get_set_other];exact e;rintro rfl;rw[hn]at e;cases e
 |n+1,c::r,at_,m+1,T,v,H,h,Q,i,p,aK,x,hm=>by
  obtain⟨an,aE,bn,b8⟩:=drop_cons h;have u:((at_:Int)<(s.length:Int)):=af;have g:H.get H0.next=D (.row U 2 [[I J 0,I J 0]]):=p.get (ad.bI _ _)
  have lz:=ad.aS g;simp-implicitDefEqProofs(disch:=try exact aj)only[mQ,jE,kV,lM,kW,kU,reduceAdd,reduceLeDiff,reduceIte,aw,u,decide_true];refine aP (Lb af bn) ?_;rintro _ F ⟨rfl,o⟩;refine⟨o.1,?_⟩;have g2:=o.get g;have aA:=ad.aS g2;have V:=i.aM o;replace p:=p.trans o;rw[h,fG];cases ai:ga (c::r)with
  |none=>
   simp only[w3];simp-implicitDefEqProofs(disch:=try exact aj)only[jE,kV,lM,kW,kU,reduceAdd,reduceLeDiff,reduceIte,aw,Iu,beq_self_eq_true,g2,ad.gd];have y:bl (D (.agg [I J 1,I J at_])) (.agg [I J 1,I J at_])=true:=by simp[bl,aa.beq,fV.beq]
   refine ba.2 ⟨.ar,rfl,.inl ⟨rfl,rfl⟩,?_⟩;exact(((aO.push _ _).trans p).cE (bj _) _).bE _
  |some q=>
   obtain⟨k,t,z,b⟩:=q;obtain⟨av,M⟩:=DZ ai;have S:((b:Int)==0)=false:=by simp;omega
   simp only[w3];simp only[List.length_cons]at M x hm;obtain⟨E,H',d,j,A,L,K⟩:=yO (V.aM (aO.push F (.row U 4 [Tok.cells ⟨k,t,z,at_⟩]))) (p.bE _) af ⟨k,t,z,at_⟩;have a:=Fw (F.next+1) ⟨k,t,z,at_⟩;simp only[Tok.v]at a;simp only[Tok.cells,ad.bX]at d L;simp only[Tok.cells]at a;have y:∀au:ad,bl (D (.agg [I J k,Z t,I J z,I J at_])) (.agg [I J k,Z t,I J z,I J at_])=true:=λ_=>by simp[bl,aa.beq,fV.beq]
   simp-implicitDefEqProofs(disch:=try exact aj)only[jE,kV,lM,kW,kU,reduceAdd,reduceLeDiff,reduceIte,aw,S,a,d,eZ,lg];have G:s.drop (at_+b)=(c::r).drop b:=by rw[<-List.drop_drop,h]
   have ab:=pf ((c::r).drop b) U;simp only[List.length_drop,List.length_cons]at ab;refine mf (zw af (at_:=at_+b) af) ?_;rw[G];simp only[kV];have ae:at_+b+cG U ((c::r).drop b)<=s.length:=af;have ak:=Gf ax N n (s.drop (at_+b+cG U ((c::r).drop b))) (at_+b+cG U ((c::r).drop b)) m (T++[⟨k,t,z,at_⟩]) E H' rfl ae j A (by simp;omega) (by simp;omega) (by simp;omega);refine ak.mono ?_;rintro w aq ⟨ao,a6,B,ap⟩;have ag:s.drop (at_+b+cG U ((c::r).drop b))=((c::r).drop b).drop (cG U ((c::r).drop b)):=by rw[<-List.drop_drop,G]
   rw[ag]at a6 B;have O:pG (T++[⟨k,t,z,at_⟩]) (fG n (((c::r).drop b).drop (cG U ((c::r).drop b))) (at_+b+cG U ((c::r).drop b)))=pG T (match fG n (((c::r).drop b).drop (cG U ((c::r).drop b))) (at_+b+cG U ((c::r).drop b))with
     | .inl e=> .inl e
     | .inr l=> .inr (⟨k,t,z,at_⟩::l)):=by
    cases fG n (((c::r).drop b).drop (cG U ((c::r).drop b))) (at_+b+cG U ((c::r).drop b))with
    |inl e=>rfl
    |inr l=>simp[pG]
   rw[O]at a6 B;exact⟨ao,a6,B,ap⟩
def u4{H:ad}(s:aC):W (aD P ay 14 [Z s] H) (yy H (dx s)):=by
 refine cF (λ_=>L5 (s.length+1)) ?_;by_cases c:(6000:Int)<(s.length:Int)
 ·have a:6000<s.length:=af;simp-implicitDefEqProofs(disch:=try exact aj)only[jE,kV,lM,kW,kU,reduceAdd,reduceLeDiff,reduceIte,aw,c,decide_true];refine ba.2 ⟨.ar,by simp[dx,a],.inl ⟨rfl,by simp[dx,a]⟩,aO.push _ _⟩
 ·have a:¬6000<s.length:=af;simp-implicitDefEqProofs(disch:=try exact aj)only[jE,kV,kW,kU,reduceAdd,reduceLeDiff,reduceIte,aw,c,decide_false];refine mf (zw (s:=s) af (at_:=0) af) ?_;simp only[List.drop_zero,Nat.zero_add,kW];have h:=pf s U;refine(Gf (H0:=H) af (s.length+1) (s.length+1) (s.drop (cG U s)) (cG U s) (s.length+1) [] .ar _ rfl h (.inl ⟨rfl,rfl⟩) (.refl _) (by simp) (by simp;omega) (by simp;omega)).mono ?_;rintro v H' ⟨ao,a6,d,i⟩;have e:pG [] (fG (s.length+1) (s.drop (cG U s)) (cG U s))=dx s:=by
   simp only[dx,if_neg a,pH];cases fG (s.length+1) (s.drop (cG U s)) (cG U s)<;>rfl
  rw[e]at a6 d;exact⟨ao,a6,d,i⟩
section
set_option maxRecDepth 100000
noncomputable section
end
end
end Go.Proofs.YtghmbpmaafnodaaDoor
namespace Go.Proofs.YtghmbpmaafnodaaDoor.fi
open Go.bs
open Nat (reduceAdd reduceLeDiff)
structure hP(H:ad):Prop where
 uB:H.get 0=some (.row true 1 jN)
def hP.aM{H H':ad}(h:hP H)(p:aO H H'):hP H':=⟨p.get h.uB⟩
end Go.Proofs.YtghmbpmaafnodaaDoor.fi
namespace Go.Proofs.YtghmbpmaafnodaaDoor
open Go.bs
open Nat (reduceAdd reduceLeDiff)
def kw(x:aC):Int:=match x with
 |c::_=>if 97<=c.toNat/\c.toNat<=122 then 3 else 4
 |[]=>4
def aY(T:List Tok)(s:au)(x:aC):Bool:=ck T s (kw x) x
def bo(T:List Tok)(x:aC)(s:au):au:=bif aY T s x then aF s else cQ T 2 s
def eN(s:au):au:={s with bU:=iO (s.bU+1)}
def cJ(T:List Tok)(x:aC)(s:au):au:=bif aY T s x&&decide (50<=s.bU)then cQ T 4 s else eN (bo T x s)
def dc(T:List Tok)(x:aC)(s:au):au:=eh (bo T x s)
def bA(T:List Tok)(s:au):aC×au:=bif s.aG==0&&(al T s.at_).kind==1 then((al T s.at_).text,aF s)else([],cQ T 2 s)
def takeN(T:List Tok)(x:aC):Nat->au->au
 |0,s=>s
 |n+1,s=>takeN T x n (bo T x s)
def eF(T:List Tok):Nat->Int->au->(Int×au) ⊕ au
 |0,d,s=>bif aY T s [91]then .inr (cQ T 4 s)else .inl (d,s)
 |n+1,d,s=>bif aY T s [91]then eF T n (d+1) (aF s)else .inl (d,s)
def eX(T:List Tok)(d:Int)(s:au):(aC×Int)×au:=bif aY T s [105,110,116]||aY T s [98,111,111,108]then(((al T s.at_).text,d),takeN T [93] d.toNat (aF s)) else(((bA T s).1,d),takeN T [93] d.toNat (bA T s).2)
def cI(T:List Tok)(s:au):(aC×Int)×au:=match eF T 3 0 s with
 | .inr s'=>(([],0),s')
 | .inl (d,s')=>eX T d s'
def kL(x:aC):List (aC×Int)->Int
 |[]=>0
 |(y,k)::r=>bif y==x then k else kL x r
def dW(lev:Nat)(t:Tok):Int:=bif t.kind != 4 then 0 else kL t.text (j9[lev]?.getD [])
mutual
def dd(T:List Tok):Nat->Nat->au->ae aA
 |0,_,_=>C
 |n+1,lev,s=>if lev=5 then fl T n s else(dd T n (lev+1) s).bind λp=>e_ T n lev p.1 p.2
def e_(T:List Tok):Nat->Nat->aA->au->ae aA
 |0,_,_,_=>C
 |n+1,lev,e,s=>bif s.aG==0&&dW lev (al T s.at_) != 0 then
  (dd T n (lev+1) (aF s)).bind λp=>e_ T n lev (.mk {kind:=dW lev (al T s.at_),pos:=(al T s.at_).pos} [e,p.1]) p.2
  else D (e,s)
def fl(T:List Tok):Nat->au->ae aA
 |0,_=>C
 |n+1,s=>bif aY T s [45]then gN T n 12 s else bif aY T s [33]then gN T n 13 s else(dy T n s).bind λp=>eg T n p.1 p.2
def gN(T:List Tok):Nat->Int->au->ae aA
 |0,_,_=>C
 |n+1,k,s=>(dd T n 5 (cJ T (al T s.at_).text s)).bind λp=>D (.mk {kind:=k,pos:=(al T s.at_).pos} [p.1],eh p.2)
def eg(T:List Tok):Nat->aA->au->ae aA
 |0,_,_=>C
 |n+1,e,s=>bif aY T s [46]then eg T n (.mk {kind:=5,name:=(bA T (aF s)).1,pos:=(al T s.at_).pos} [e]) (bA T (aF s)).2
  else bif aY T s [91]then(dd T n 0 (cJ T [91] s)).bind λp=>eg T n (.mk {kind:=6,pos:=(al T s.at_).pos} [e,p.1]) (dc T [93] p.2)
  else D (e,s)
def ep(T:List Tok):Nat->au->ae aA
 |0,_=>C
 |n+1,s=>(dd T n 0 (cJ T [40] s)).bind λp=>D (p.1,dc T [41] p.2)
def dy(T:List Tok):Nat->au->ae aA
 |0,_=>C
 |n+1,s=>bif s.aG==0&&(al T s.at_).kind==2 then D (.mk {kind:=1,n:=(al T s.at_).n,pos:=(al T s.at_).pos} [],aF s)
  else bif aY T s [116,114,117,101]||aY T s [102,97,108,115,101]then D (.mk {kind:=2,n:=bif (al T s.at_).text==[116,114,117,101]then 1 else 0,pos:=(al T s.at_).pos} [],aF s)
  else bif aY T s [110,117,108,108]then D (.mk {kind:=3,cf:=(cI T (aF s)).1.1,cS:=(cI T (aF s)).1.2,pos:=(al T s.at_).pos} [],(cI T (aF s)).2)
  else bif aY T s [110,101,119]then fj T n (al T s.at_).pos (aF s)
  else bif aY T s [108,101,110]then(ep T n (aF s)).bind λp=>D (.mk {kind:=10,pos:=(al T s.at_).pos} [p.1],p.2)
  else bif aY T s [114,101,97,100]then D (.mk {kind:=11,pos:=(al T s.at_).pos} [],dc T [41] (cJ T [40] (aF s)))
  else bif aY T s [40]then ep T n s
  else bif aY T (bA T s).2 [40]then(e2 T n (bA T s).2).bind λp=>D (.mk {kind:=7,name:=(bA T s).1,pos:=(al T s.at_).pos} p.1,p.2)
  else D (.mk {kind:=4,name:=(bA T s).1,pos:=(al T s.at_).pos} [],(bA T s).2)
def fj(T:List Tok):Nat->Int->au->ae aA
 |0,_,_=>C
 |n+1,pos,s=>bif aY T s [91]then
  (ep T n (bo T [93] (cI T (aF s)).2)).bind λp=>D (.mk {kind:=9,cf:=(cI T (aF s)).1.1,cS:=(cI T (aF s)).1.2,pos:=pos} [p.1],p.2)
  else D (.mk {kind:=8,cf:=(bA T s).1,pos:=pos} [],(bA T s).2)
def e2(T:List Tok):Nat->au->ae (List aA)
 |0,_=>C
 |n+1,s=>bif aY T (cJ T [40] s) [41]then D ([],dc T [41] (cJ T [40] s))
  else(dd T n 0 (cJ T [40] s)).bind λp=>eE T n [p.1] p.2
def eE(T:List Tok):Nat->List aA->au->ae (List aA)
 |0,_,_=>C
 |n+1,l,s=>bif aY T s [44]then(dd T n 0 (aF s)).bind λp=>eE T n (l++[p.1]) p.2 else D (l,dc T [41] s)
end
def left(T:List Tok)(s:au):Nat:=if s.aG=0/\0<=s.at_/\s.at_<T.length then T.length-s.at_.toNat else 0
def eD{α:Type}(p q:α×au):Prop:=(p.2.aG=0/\q=p)\/(p.2.aG≠0/\q.2.aG=p.2.aG/\q.2.cP=p.2.cP)
def j5{T:List Tok}{s:au}(h:s.aG≠0)(k:Int)(x:aC):ck T s k x=false:=by simp[ck,h]
def eO{T:List Tok}{s:au}(h:s.aG≠0)(x:aC):aY T s x=false:=j5 h _ _
def fE{T:List Tok}{s:au}(h:s.aG≠0)(e:Int):cQ T e s=s:=by simp[cQ,h]
def CA{T:List Tok}{s:au}(h:s.aG≠0):∀l,mv T s l=0
 |[]=>rfl
 |(x,k)::r=>by simp[mv,j5 h,CA h r]
def Kk{T:List Tok}{s:au}(h:s.aG≠0)(lev:Nat):mw T lev s=0:=CA h _
def IN{T:List Tok}{s:au}(h:s.aG≠0)(n:Nat)(c:2<=n):sK T n s=D (.zero,s):=by
 obtain⟨n,rfl⟩:∃m,n=m+2:=⟨n-2,af⟩;have a:(s.aG==0)=false:=by simpa using h
 simp[sK,lx,h,j0,a]
def PI{T:List Tok}{s:au}(h:s.aG≠0)(n:Nat)(a:3<=n):oY T n s=D (.zero,s):=by
 obtain⟨n,rfl⟩:∃m,n=m+1:=⟨n-1,af⟩;simp[oY,j5 h,IN h n af]
def EY{T:List Tok}{s:au}(h:s.aG≠0)(n:Nat)(a:1<=n)(lev:Nat)(e:aA):oe T n lev e s=D (e,s):=by
 obtain⟨n,rfl⟩:∃m,n=m+1:=⟨n-1,af⟩;simp[oe,Kk h]
def EW{T:List Tok}{s:au}(h:s.aG≠0):∀(n lev:Nat),lev<=5->9<=n+lev->hX T n lev s=D (.zero,s)
 |0,lev,c,d=>af
 |n+1,lev,c,d=>by
  by_cases a:lev=5
  ·simp[hX,a,PI h n af]
  ·simp[hX,a,EW h n (lev+1) af af,EY h n af]
def wh{T:List Tok}{s:au}{k:Int}{x:aC}(h:ck T s k x=X):s.aG=0/\(al T s.at_).kind=k/\(al T s.at_).text=x:=by
 simpa [ck]using h
def nI(T:List Tok)(s:au):aA:= .mk {kind:=4,pos:=(al T s.at_).pos} []
def DA{T:List Tok}{s:au}(h:s.aG≠0):bA T s=([],s):=by
 have a:(s.aG==0)=false:=by simpa using h
 simp[bA,a,fE h]
def Jl{T:List Tok}{s:au}(h:s.aG≠0)(n:Nat)(c:1<=n):dy T n s=D (nI T s,s):=by
 obtain⟨n,rfl⟩:∃m,n=m+1:=⟨n-1,af⟩;have a:(s.aG==0)=false:=by simpa using h
 simp[dy,a,eO h,DA h,nI]
def vp{T:List Tok}{s:au}(h:s.aG≠0)(n:Nat)(a:1<=n)(e:aA):eg T n e s=D (e,s):=by
 obtain⟨n,rfl⟩:∃m,n=m+1:=⟨n-1,af⟩;simp[eg,eO h]
def PJ{T:List Tok}{s:au}(h:s.aG≠0)(n:Nat)(a:2<=n):fl T n s=D (nI T s,s):=by
 obtain⟨n,rfl⟩:∃m,n=m+1:=⟨n-1,af⟩;simp[fl,eO h,Jl h n af,vp h n af]
def Af{T:List Tok}{s:au}(h:s.aG≠0)(n:Nat)(c:1<=n)(lev:Nat)(e:aA):e_ T n lev e s=D (e,s):=by
 obtain⟨n,rfl⟩:∃m,n=m+1:=⟨n-1,af⟩;have a:(s.aG==0)=false:=by simpa using h
 simp[e_,a]
def q7{T:List Tok}{s:au}(h:s.aG≠0):∀(n lev:Nat),lev<=5->9<=n+lev->dd T n lev s=D (nI T s,s)
 |0,lev,c,d=>af
 |n+1,lev,c,d=>by
  by_cases a:lev=5
  ·simp[dd,a,PJ h n af]
  ·simp[dd,a,q7 h n (lev+1) af af,Af h n af]
def CW{x:aC}:∀l:List (aC×Int),(∀p∈l,p.2≠0)->∀T s,s.aG=0->(al T s.at_).kind=4->mv T s l=kL (al T s.at_).text l
 |[],_,_,_,_,_=>rfl
 |(y,k)::r,h,T,s,a,c=>by
  have e:=CW (x:=x) r (λp aI=>h p (by simp[aI])) T s a c;have d:ck T s 4 y=(y==(al T s.at_).text):=by
   simp only[ck,a,c,beq_self_eq_true,Bool.true_and];exact BEq.comm
  simp[mv,kL,e,d]
def wo{T:List Tok}{s:au}(a:(al T s.at_).kind≠4):∀l,mv T s l=0
 |[]=>rfl
 |(y,k)::r=>by
  have c:ck T s 4 y=false:=by simp[ck,a]
  simp[mv,c,wo a r]
def Kl{T:List Tok}{s:au}(c:s.aG=0){lev:Nat}(d:lev<5):mw T lev s=dW lev (al T s.at_):=by
 by_cases a:(al T s.at_).kind=4
 ·have:((al T s.at_).kind != 4)=false:=by simp[a]
  simp only[mw,dW,this,aR];refine CW (x:=[]) _ ?_ T s c a;have:lev=0\/lev=1\/lev=2\/lev=3\/lev=4:=af;rcases this with rfl|rfl|rfl|rfl|rfl<;>simp[j9]
 ·have:((al T s.at_).kind != 4)=true:=by simp[a]
  simp[mw,dW,this,wo a]
def fp(s s':au):Prop:=(s.aG=0/\s'=s)\/(s.aG≠0/\s'.aG=s.aG/\s'.cP=s.cP)
def fp.refl(s:au):fp s s:=by
 by_cases h:s.aG=0
 ·exact .inl ⟨h,rfl⟩
 ·exact .inr ⟨h,rfl,rfl⟩
def fp.out{s s':au}(h:fp s s'):fp (eh s) (eh s'):=by
 rcases h with⟨h,rfl⟩|⟨h,a,c⟩
 ·exact .inl ⟨h,rfl⟩
 ·exact .inr ⟨h,a,c⟩
def i_{T:List Tok}{s:au}(h:s.aG=0)(e:Int):(cQ T e s).aG=e/\(cQ T e s).cP=(al T s.at_).pos:=by simp[cQ,h]
def x9{T:List Tok}{s s':au}(h:fp s s'){x:aC}(d:kw x=4):fp (eG T x s).2 (bo T x s'):=by
 rcases h with⟨h,rfl⟩|⟨h,a,e⟩
 ·cases c:ck T s' 4 x with
  |true=>simp only[eG,bo,aY,d,c,aW];exact .refl _
  |false=>simp only[eG,bo,aY,d,c,aR];exact .refl _
 ·have aZ:s'.aG≠0:=by rw[a];exact h
  simp only[eG,bo,j5 h,eO aZ,aR,fE h,fE aZ];exact .inr ⟨h,a,e⟩
def ml{T:List Tok}{s s':au}(h:fp s s'){x:aC}(o:kw x=4):fp (iC T x s).2 (dc T x s'):=by
 have n:=x9 (T:=T) h.out o;have k:fp (bo T x (eh s')) (dc T x s'):=by
  by_cases i:s'.aG=0
  ·have l:aY T (eh s') x=aY T s' x:=rfl;cases m:aY T s' x with
   |true=>simp only[dc,bo,l,m,aW];exact .inl ⟨i,rfl⟩
   |false=>
    simp only[dc,bo,l,m,aR];have j:(eh s').aG=0:=i;refine .inr ⟨by rw[(i_ j 2).1];decide,?_,?_⟩
    ·rw[(i_ j 2).1];exact(i_ i 2).1
    ·rw[(i_ j 2).2];exact(i_ i 2).2
  ·have j:(eh s').aG≠0:=i;simp only[dc,bo,eO i,eO j,aR,fE i,fE j];exact .refl _
 rcases n with⟨a,b⟩|⟨a,b,c⟩
 ·rcases k with⟨d,e⟩|⟨d,e,f⟩
  ·exact .inl ⟨a,by rw[e,b];rfl⟩
  ·exact absurd (by rw[b];exact a) d
 ·rcases k with⟨d,e⟩|⟨d,e,f⟩
  ·exact absurd (b.symm.trans d) a
  ·exact .inr ⟨a,e.trans b,f.trans c⟩
def w7{T:List Tok}{s:au}(h:s.aG=0){x:aC}(d:kw x=4):
  ((dA T x s).1=X/\ck T s 4 x=X/\(dA T x s).2=eN (aF s)/\cJ T x s=eN (aF s))\/
  ((dA T x s).1=U/\(dA T x s).2.aG≠0/\fp (dA T x s).2 (cJ T x s)):=by
 cases c:ck T s 4 x with
 |true=>
  by_cases a:50<=s.bU
  ·refine .inr ?_;simp only[dA,cJ,aY,d,c,aW,Bool.true_and,decide_eq_true a,if_pos a];exact⟨trivial,by rw[(i_ h 4).1];decide,.refl _⟩
  ·refine .inl ?_;simp only[dA,cJ,bo,aY,d,c,aW,Bool.true_and,decide_eq_false a,if_neg a,aR];exact⟨trivial,trivial,rfl,trivial⟩
 |false=>
  refine .inr ?_;simp only[dA,cJ,bo,aY,d,c,aR,Bool.false_and];exact⟨trivial,by rw[(i_ h 2).1];decide,.inr ⟨by rw[(i_ h 2).1];decide,rfl,rfl⟩⟩
def eD.of{α:Type}{a b:α}{s s':au}(h:fp s s')(e:s.aG=0->b=a):eD (a,s) (b,s'):=by
 rcases h with⟨h,rfl⟩|⟨h,c,d⟩
 ·exact .inl ⟨h,by rw[e h]⟩
 ·exact .inr ⟨h,c,d⟩
def eD.st{α:Type}{p q:α×au}(h:eD p q):fp p.2 q.2:=by
 rcases h with⟨h,rfl⟩|⟨h,a,c⟩
 ·exact .inl ⟨h,rfl⟩
 ·exact .inr ⟨h,a,c⟩
def uM{T:List Tok}{x:aC}(a:kw x=4):∀(n:Nat) {s s':au},fp s s'->fp (kq T x n s) (takeN T x n s')
 |0,_,_,h=>h
 |n+1,_,_,h=>uM a n (x9 h a)
def xV{T:List Tok}{x:aC}:∀(n:Nat) {s:au},s.aG≠0->takeN T x n s=s
 |0,_,_=>rfl
 |n+1,s,h=>by simp[takeN,bo,eO h,fE h,xV n h]
def x8{T:List Tok}{x:aC}:∀(n:Nat) {s:au},s.aG≠0->kq T x n s=s
 |0,_,_=>rfl
 |n+1,s,h=>by simp[kq,eG,j5 h,fE h,x8 n h]
def DP{T:List Tok}:∀(n:Nat) (d:Int) (s:au),eF T n d s=hF T n d s
 |0,d,s=>rfl
 |n+1,d,s=>by
  have:aY T s [91]=ck T s 4 [91]:=rfl;simp[eF,hF,this,DP n]
def K7{T:List Tok}(d:Int)(s:au):eD (jf T d s) (eX T d s):=by
 have an:aY T s [105,110,116]=ck T s 3 [105,110,116]:=rfl;have aE:aY T s [98,111,111,108]=ck T s 3 [98,111,111,108]:=rfl;by_cases a:s.aG=0
 ·cases c:ck T s 3 [105,110,116]with
  |true=>
   simp only[jf,eX,an,aE,c,Bool.not_true,Bool.false_and,Bool.and_false,aR,Bool.true_or,aW];exact eD.of (uM rfl _ (.refl _)) λ_=>rfl
  |false=>
   cases e:ck T s 3 [98,111,111,108]with
   |true=>
    simp only[jf,eX,an,aE,c,e,Bool.not_true,Bool.and_false,aR,Bool.false_or,aW];exact eD.of (uM rfl _ (.refl _)) λ_=>rfl
   |false=>
    by_cases j:(al T s.at_).kind=1
    ·simp only[jf,eX,an,aE,c,e,bA,a,j,Bool.not_false,Bool.and_self,Bool.and_true,bne_self_eq_false,aR,Bool.or_self,beq_self_eq_true,aW];exact eD.of (uM rfl _ (.refl _)) λ_=>rfl
    ·have i:((al T s.at_).kind==1)=false:=by simpa using j
     have l:((al T s.at_).kind != 1)=true:=by simpa using j
     have k:(cQ T 2 s).aG≠0:=by rw[(i_ a 2).1];decide
     simp only[jf,eX,an,aE,c,e,bA,a,i,l,Bool.not_false,Bool.and_self,Bool.and_false,aW,Bool.or_self,aR,xV _ k];exact eD.of (.refl _) λh=>absurd h k
 ·have i:(s.aG==0)=false:=by simpa using a
  have m:(aF s).aG≠0:=a;simp only[jf,eX,an,aE,j5 a,bA,i,Bool.false_and,Bool.or_self,aR,fE a,xV _ a,x8 _ m,Bool.not_false,Bool.and_self,Bool.and_true];cases(al T s.at_).kind != 1 with
  |true=>exact .inr ⟨a,rfl,rfl⟩
  |false=>exact .inr ⟨a,rfl,rfl⟩
def of_same(T:List Tok)(s:au):eD (e6 T s) (cI T s):=by
 simp only[e6,cI,DP];cases hF T 3 0 s with
 |inr s'=>exact eD.of (.refl _) λ_=>rfl
 |inl p=>exact K7 p.1 p.2
def mx{T:List Tok}{s:au}(h:s.aG≠0):left T s=0:=by simp[left,h]
def CI{T:List Tok}(s:au):left T (eN s)=left T s:=rfl
def Kx{T:List Tok}(s:au):left T (eh s)=left T s:=rfl
def nV{T:List Tok}(s:au)(e:Int):left T (cQ T e s)<=left T s:=by
 by_cases h:s.aG=0
 ·unfold left;simp only[cQ,h,if_true,true_and];split
  ·rename_i a;rw[if_pos a.2];omega
  ·omega
 ·rw[fE h];omega
def Pw{T:List Tok}{a:Int}(h:(al T a).kind≠0):0<=a/\a<T.length:=by
 unfold al at h;split at h
 ·exact absurd rfl h
 ·omega
def kJ{T:List Tok}(aK:T.length<=40000000){s:au}(d:s.aG=0)(e:(al T s.at_).kind≠0):left T (aF s)+1<=left T s:=by
 obtain⟨a,c⟩:=Pw e;have hw:iO (s.at_+1)=s.at_+1:=wrap_i64 af af;have an:left T s=T.length-s.at_.toNat:=by
  unfold left;rw[if_pos ⟨d,a,c⟩]
 have aE:left T (aF s)<=T.length-(s.at_+1).toNat:=by
  unfold left;simp only[aF,hw];split<;>omega
 omega
def my{T:List Tok}(aK:T.length<=40000000){s:au}{k:Int}{x:aC}(d:k≠0)(h:ck T s k x=X):left T (aF s)+1<=left T s:=by
 obtain⟨a,c,_⟩:=wh h;exact kJ aK a (by rw[c];exact d)
def wB{T:List Tok}(aK:T.length<=40000000)(s:au)(x:aC):left T (eG T x s).2<=left T s:=by
 cases h:ck T s 4 x with
 |true=>simp only[eG,h,aW];have:=my aK bf h;omega
 |false=>simp only[eG,h,aR];exact nV s 2
def pC{T:List Tok}(aK:T.length<=40000000)(s:au)(x:aC):left T (iC T x s).2<=left T s:=wB aK (eh s) x
def CN{T:List Tok}(aK:T.length<=40000000)(x:aC):∀(n:Nat) (s:au),left T (kq T x n s)<=left T s
 |0,s=>bj _
 |n+1,s=>Nat.le_trans (CN aK x n _) (wB aK s x)
def CM{T:List Tok}(aK:T.length<=40000000):∀(n:Nat) (d:Int) (s:au),(∀a s',hF T n d s= .inl (a,s')->left T s'<=left T s)/\(∀s',hF T n d s= .inr s'->left T s'<=left T s)
 |0,d,s=>by
  cases h:ck T s 4 [91]with
  |true=>simp only[hF,h,aW];exact⟨by simp,by rintro _ ⟨⟩;exact nV s 4⟩
  |false=>simp only[hF,h,aR];exact⟨by rintro _ _ ⟨⟩;exact bj _,by simp⟩
 |n+1,d,s=>by
  cases h:ck T s 4 [91]with
  |true=>
   simp only[hF,h,aW];obtain⟨i1,i2⟩:=CM aK n (d+1) (aF s);have c:=my aK bf h;exact⟨λa s' aZ=>by have:=i1 a s' aZ;omega,λs' aZ=>by have:=i2 s' aZ;omega⟩
  |false=>simp only[hF,h,aR];exact⟨by rintro _ _ ⟨⟩;exact bj _,by simp⟩
def CL{T:List Tok}(aK:T.length<=40000000)(d:Int)(s:au):left T (jf T d s).2<=left T s:=by
 by_cases e:s.aG=0
 ·cases c:((al T s.at_).kind != 1&&(!ck T s 3 [105,110,116]&& !ck T s 3 [98,111,111,108]))with
  |true=>simp only[jf,c,aW];exact nV s 2
  |false=>
   simp only[jf,c,aR];have a:(al T s.at_).kind≠0:=by
    intro a;have i:∀x,ck T s 3 x=false:=λx=>by simp[ck,a]
    simp[a,i]at c
   have:=CN aK [93] d.toNat (aF s);have:=kJ aK e a;omega
 ·have h:(aF s).aG≠0:=e;simp only[jf];cases((al T s.at_).kind != 1&&(!ck T s 3 [105,110,116]&& !ck T s 3 [98,111,111,108]))with
  |true=>exact nV s 2
  |false=>simp only[aR,x8 _ h,mx h];omega
def CK{T:List Tok}(aK:T.length<=40000000)(s:au):left T (e6 T s).2<=left T s:=by
 obtain⟨i1,i2⟩:=CM aK 3 0 s;simp only[e6];cases h:hF T 3 0 s with
 |inr s'=>exact i2 s' h
 |inl p=>
  have:=i1 p.1 p.2 h;have:=CL aK p.1 p.2;exact Nat.le_trans (CL aK p.1 p.2) (i1 p.1 p.2 h)
def ee{α:Type}(T:List Tok)(s:au)(a b:Option (α×au)):Prop:=∃p q,a=D p/\b=D q/\eD p q/\left T p.2<=left T s
def iS(T:List Tok)(k:Nat):Prop:=∀(s:au),left T s<=k->∀(lev n a:Nat),lev<=5->30*k+20<=n+lev->30*k+20<=a+lev->ee T s (hX T n lev s) (dd T a lev s)
def LW{T:List Tok}{s:au}(h:s.aG≠0)(lev n a:Nat)(c:lev<=5)(d:9<=n+lev)(e:9<=a+lev):ee T s (hX T n lev s) (dd T a lev s):=
 ⟨_,_,EW h n lev c d,q7 h a lev c e,.inr ⟨h,rfl,rfl⟩,bj _⟩
def xr{T:List Tok}(aK:T.length<=40000000){k:Nat}(p:∀j,j<k->iS T j){s:au}(m:s.aG=0)(ax:left T s<=k){x:aC}(o:kw x=4)(lev n d:Nat)(i:lev<=5)(u:30*k+9<=n)(v:30*k+9<=d):
  ((dA T x s).1=X/\left T (dA T x s).2+1<=left T s/\ee T (dA T x s).2 (hX T n lev (dA T x s).2) (dd T d lev (cJ T x s)))\/
  ((dA T x s).1=U/\(dA T x s).2.aG≠0/\(cJ T x s).aG=(dA T x s).2.aG/\(cJ T x s).cP=(dA T x s).2.cP/\dd T d lev (cJ T x s)=D (nI T (cJ T x s),cJ T x s)):=by
 rcases w7 (T:=T) m o with⟨h,a,c,e⟩|⟨h,a,c⟩
 ·refine .inl ⟨h,?_,?_⟩
  ·rw[c,CI];exact my aK bf a
  ·have q:=my aK bf a;rw[c,e];exact p (k-1) af _ (by rw[CI];omega) lev n d i af af
 ·rcases c with⟨c,_⟩|⟨_,e,l⟩
  ·exact absurd c a
  ·exact .inr ⟨h,a,e,l,q7 (by rw[e];exact a) d lev i af⟩
def xK{T:List Tok}(aK:T.length<=40000000){k:Nat}(A:∀j,j<k->iS T j){s:au}(w:s.aG=0)(ax:left T s<=k)(n l:Nat)(y:30*k+9<=n)(z:30*k+9<=l):ee T s (kp T (n+1) [40] [41] s) (ep T (l+1) s):=by
 rcases xr aK A w ax (x:=[40]) rfl 0 n l af y z with⟨d,a,p,q,c,e,i,B⟩|⟨d,a,c,e,i⟩
 ·refine⟨(p.1,(iC T [41] p.2).2),(q.1,dc T [41] q.2),?_,?_,?_,?_⟩
  ·simp[kp,d,c]
  ·simp[ep,e]
  ·rcases i with⟨h,rfl⟩|⟨h,u,v⟩
   ·exact eD.of (ml (.inl ⟨h,rfl⟩) rfl) λ_=>rfl
   ·refine eD.of (ml (.inr ⟨h,u,v⟩) rfl) λo=>absurd o ?_
    have:(eh p.2).aG≠0:=h;simp only[iC,eG,j5 this,aR,fE this];exact h
  ·have:=pC aK p.2 [41];simp only
   omega
 ·refine⟨(.zero,(dA T [40] s).2),_,by simp[kp,d],by simp only[ep,i];rfl,?_,?_⟩
  ·have m:(cJ T [40] s).aG≠0:=by rw[c];exact a
   have o:=ml (T:=T) (x:=[41]) (fp.refl (cJ T [40] s)) rfl;refine .inr ⟨a,?_,?_⟩<;>simp[dc,bo,eO m,fE m,eh,c,e]
  ·simp only[mx a];omega
def ee.le{α:Type}{T:List Tok}{s s0:au}{a b:Option (α×au)}(h:ee T s a b)(j:left T s<=left T s0):ee T s0 a b:=by
 obtain⟨p,q,c,d,e,i⟩:=h;exact⟨p,q,c,d,e,Nat.le_trans i j⟩
def zM{T:List Tok}{s:au}(h:s.aG≠0)(x:aC):(iC T x s).2.aG≠0:=by
 have a:(eh s).aG≠0:=h;simp only[iC,eG,j5 a,aR,fE a];exact h
def C2{T:List Tok}(aK:T.length<=40000000){k:Nat}(x:∀j,j<k->iS T j):∀(c n d:Nat) (s s':au) (l l':List aA),left T s<=c->c<=k->30*c+10<=n->30*c+10<=d->fp s s'->(s.aG=0->l'=l)->ee T s (pJ T n l s) (eE T d l' s')
 |c,0,d,s,s',l,l',o,u,v,w,e,m=>af
 |c,n+1,0,s,s',l,l',o,u,v,w,e,m=>af
 |c,n+1,d+1,s,s',l,l',o,u,v,w,e,m=>by
  by_cases a:s.aG=0
  ·obtain⟨_,rfl⟩:s.aG=0/\s'=s:=e.resolve_right (by rintro⟨h,_⟩;exact h a);cases m a;have an:aY T s' [44]=ck T s' 4 [44]:=rfl;cases i:ck T s' 4 [44]with
   |true=>
    have z:=my aK bf i;obtain⟨p,q,g1,g2,g3,g4⟩:=x (c-1) af (aF s') af 0 n d af af af;have:=C2 aK x (c-1) n d p.2 q.2 (l++[p.1]) (l++[q.1]) af af af af g3.st (λaI=>by
     rcases g3 with⟨_,rfl⟩|⟨h,_⟩
     ·rfl
     ·exact absurd aI h)
    have:=this.le (s0:=s') af;simpa [pJ,qo,i,eE,an,g1,g2]using this
   |false=>
    refine⟨(l,(iC T [41] s').2),(l,dc T [41] s'),by simp[pJ,qo,i],by simp[eE,an,i],eD.of (ml (.refl _) rfl) λ_=>rfl,pC aK s' [41]⟩
  ·have y:s'.aG≠0:=by
    rcases e with⟨h,_⟩|⟨_,h,_⟩
    ·exact absurd h a
    ·rw[h];exact a
   refine⟨(l,(iC T [41] s).2),(l',dc T [41] s'),by simp[pJ,qo,j5 a],by simp[eE,eO y],eD.of (ml e rfl) λh=>absurd h (zM a _),pC aK s [41]⟩
def Ik{T:List Tok}(aK:T.length<=40000000){k:Nat}(y:∀j,j<k->iS T j){s:au}(w:s.aG=0)(ax:left T s<=k)(n a:Nat)(G:30*k+10<=n)(H:30*k+10<=a):ee T s (ru T (n+1) s) (e2 T (a+1) s):=by
 rcases w7 (T:=T) w (x:=[40]) rfl with⟨e,c,i,v⟩|⟨e,c,i⟩
 ·have E:=my aK bf c;have F:left T (eN (aF s))=left T (aF s):=rfl;have B:(eN (aF s)).aG=0:=w;have an:aY T (eN (aF s)) [41]=ck T (eN (aF s)) 4 [41]:=rfl;cases u:ck T (eN (aF s)) 4 [41]with
  |true=>
   refine⟨([],(iC T [41] (eN (aF s))).2),([],dc T [41] (eN (aF s))),by simp[ru,e,i,u],by simp[e2,v,an,u],eD.of (ml (.refl _) rfl) λ_=>rfl,?_⟩;have:=pC aK (eN (aF s)) [41];simp only
   omega
  |false=>
   obtain⟨p,q,g1,g2,g3,g4⟩:=y (k-1) af (eN (aF s)) af 0 n a af af af;have:=C2 aK y k n a p.2 q.2 [p.1] [q.1] af af af af g3.st (λaI=>by
    rcases g3 with⟨_,rfl⟩|⟨h,_⟩
    ·rfl
    ·exact absurd aI h)
   have:=this.le (s0:=s) af;simpa [ru,e,i,u,e2,v,an,g1,g2]using this
 ·have o:=i.resolve_left (by rintro⟨h,_⟩;exact c h);have d:(cJ T [40] s).aG≠0:=by rw[o.2.1];exact c
  have A:=q7 (T:=T) d a 0 af af;have z:∀l,eE T a l (cJ T [40] s)=D (l,dc T [41] (cJ T [40] s)):=λl=>by
   obtain⟨a,rfl⟩:∃m,a=m+1:=⟨a-1,af⟩;simp[eE,eO d]
  refine⟨([],(dA T [40] s).2),_,by simp[ru,e],by simp only[e2,eO d,aR,A,Option.bind_some,z];rfl,?_,?_⟩
  ·refine .inr ⟨c,?_,?_⟩<;>simp[dc,bo,eO d,fE d,eh,o.2.1,o.2.2]
  ·simp only[mx c];omega
def EX{T:List Tok}(aK:T.length<=40000000){k:Nat}(E:∀j,j<k->iS T j){lev:Nat}(B:lev<5):∀(c n i:Nat) (s s':au) (e d:aA),left T s<=c->c<=k->30*c+10<=n->30*c+10<=i->fp s s'->(s.aG=0->d=e)->ee T s (oe T n lev e s) (e_ T i lev d s')
 |c,0,i,s,s',e,d,w,x,y,z,l,o=>af
 |c,n+1,0,s,s',e,d,w,x,y,z,l,o=>af
 |c,n+1,i+1,s,s',e,d,w,x,y,z,l,o=>by
  by_cases a:s.aG=0
  ·obtain⟨_,rfl⟩:s.aG=0/\s'=s:=l.resolve_right (by rintro⟨h,_⟩;exact h a);cases o a;have u:=Kl (T:=T) a B;have A:(s'.aG==0)=true:=by simpa using a
   by_cases m:mw T lev s'=0
   ·have v:(dW lev (al T s'.at_) != 0)=false:=by rw[<-u];simpa using m
    exact⟨(e,s'),(e,s'),by simp[oe,m],by simp[e_,A,v],.inl ⟨a,rfl⟩,bj _⟩
   ·have v:(dW lev (al T s'.at_) != 0)=true:=by rw[<-u];simpa using m
    have H:(al T s'.at_).kind≠0:=by
     intro F;exact m (wo (by rw[F];decide) _)
    have K:=kJ aK a H;obtain⟨p,q,g1,g2,g3,g4⟩:=E (c-1) af (aF s') af (lev+1) n i af af af;have:=EX aK E B (c-1) n i p.2 q.2 (.mk {kind:=mw T lev s',pos:=(al T s'.at_).pos} [e,p.1]) (.mk {kind:=dW lev (al T s'.at_),pos:=(al T s'.at_).pos} [e,q.1]) af af af af g3.st (λaI=>by
     rcases g3 with⟨_,rfl⟩|⟨h,_⟩
     ·rw[u]
     ·exact absurd aI h)
    have:=this.le (s0:=s') af;simpa [oe,m,e_,A,v,g1,g2]using this
  ·have G:s'.aG≠0:=by
    rcases l with⟨h,_⟩|⟨_,h,_⟩
    ·exact absurd h a
    ·rw[h];exact a
   exact⟨(e,s),(d,s'),EY a (n+1) af lev e,Af G (i+1) af lev d,eD.of l λh=>absurd h a,bj _⟩
def Jf{T:List Tok}{s:au}(h:s.aG=0)(e:aA):eD (jw T e s) (aA.mk {kind:=5,name:=(bA T (aF s)).1,pos:=(al T s.at_).pos} [e],(bA T (aF s)).2):=by
 have i:(aF s).aG=0:=h;by_cases c:(al T (aF s).at_).kind=1
 ·refine Or.inl ⟨?_,?_⟩
  ·have a:((al T (aF s).at_).kind != 1)=false:=by simp[c]
   simp only[jw,a,aR];exact h
  ·simp[jw,bA,c,i]
 ·have a:((al T (aF s).at_).kind==1)=false:=by simpa using c
  have d:((al T (aF s).at_).kind != 1)=true:=by simpa using c
  have j:=i_ (T:=T) i 2;refine Or.inr ⟨?_,?_,?_⟩
  ·simp only[jw,d,aW];show(cQ T 2 (aF s)).aG≠0;rw[j.1];decide
  ·simp only[jw,bA,a,d,aW,Bool.and_false,aR];rfl
  ·simp only[jw,bA,a,d,aW,Bool.and_false,aR];rfl
def Kv{T:List Tok}(aK:T.length<=40000000){s:au}(d:s.aG=0)(j:(al T s.at_).kind≠0)(e:aA):left T (jw T e s).2+1<=left T s:=by
 have k:=kJ aK d j;have h:(aF s).aG=0:=d;by_cases c:(al T (aF s).at_).kind=1
 ·have a:((al T (aF s).at_).kind != 1)=false:=by simp[c]
  have:=kJ aK h (by rw[c];decide);simp only[jw,a,aR];omega
 ·have a:((al T (aF s).at_).kind != 1)=true:=by simpa using c
  have i:(aF (cQ T 2 (aF s))).aG≠0:=by show(cQ T 2 (aF s)).aG≠0;rw[(i_ h 2).1];decide
  simp only[jw,a,aW,mx i];omega
def vv{T:List Tok}(aK:T.length<=40000000){k:Nat}(E:∀j,j<k->iS T j):∀(c n l:Nat) (s s':au) (e o:aA),left T s<=c->c<=k->30*c+12<=n->30*c+12<=l->fp s s'->(s.aG=0->o=e)->ee T s (j0 T n e s) (eg T l o s')
 |c,0,l,s,s',e,o,z,F,G,H,v,A=>af
 |c,n+1,0,s,s',e,o,z,F,G,H,v,A=>af
 |c,n+1,l+1,s,s',e,o,z,F,G,H,v,A=>by
  by_cases a:s.aG=0
  ·obtain⟨_,rfl⟩:s.aG=0/\s'=s:=v.resolve_right (by rintro⟨h,_⟩;exact h a);cases A a;have d:(s'.aG==0)=true:=by simpa using a
   have an:aY T s' [46]=((al T s'.at_).kind==4&&(al T s'.at_).text==[46]):=by show ck T s' 4 [46]=_;simp only[ck,d,Bool.true_and]
   have aE:aY T s' [91]=((al T s'.at_).kind==4&&(al T s'.at_).text==[91]):=by show ck T s' 4 [91]=_;simp only[ck,d,Bool.true_and]
   cases i:(al T s'.at_).kind==4 with
   |false=>exact⟨(e,s'),(e,s'),by simp[j0,d,i],by simp[eg,an,aE,i],.inl ⟨a,rfl⟩,bj _⟩
   |true=>
    have P:(al T s'.at_).kind=4:=by simpa using i
    cases u:(al T s'.at_).text==[46]with
    |true=>
     have S:=Kv aK a (by rw[P];decide) e;have ax:=Jf (T:=T) a e;have:=(vv aK E (c-1) n l _ _ (jw T e s').1 _ af af af af ax.st (λaI=>by
      rcases ax with⟨_,h⟩|⟨h,_⟩
      ·exact congrArg Prod.fst h
      ·exact absurd aI h)).le (s0:=s') af
     simpa [j0,d,i,u,eg,an]using this
    |false=>
     cases w:(al T s'.at_).text==[91]with
     |false=>exact⟨(e,s'),(e,s'),by simp[j0,d,i,u,w],by simp[eg,an,aE,i,u,w],.inl ⟨a,rfl⟩,bj _⟩
     |true=>
      obtain⟨n,rfl⟩:∃m,n=m+1:=⟨n-1,af⟩;have Q:∀j,j<c->iS T j:=λj R=>E j af
      rcases xr aK Q a z (x:=[91]) rfl 0 n l af af af with⟨bO,b2,p,q,cz,dz,y,W⟩|⟨bO,b2,cz,dz,y⟩
      ·have N:=ml (T:=T) (x:=[93]) y.st rfl;have V:=pC aK p.2 [93];have:=(vv aK E (c-1) (n+1) l (iC T [93] p.2).2 (dc T [93] q.2) (.mk {kind:=6,pos:=(al T s'.at_).pos} [e,p.1]) (.mk {kind:=6,pos:=(al T s'.at_).pos} [e,q.1]) af af af af N (λaI=>by
        rcases y with⟨_,rfl⟩|⟨h,_⟩
        ·rfl
        ·exact absurd aI (zM h _))).le (s0:=s') af
       simpa [j0,d,i,u,w,kp,bO,cz,eg,an,aE,dz]using this
      ·have B:(cJ T [91] s').aG≠0:=by rw[cz];exact b2
       have K:((dA T [91] s').2.aG==0)=false:=by simpa using b2
       have L:(dc T [93] (cJ T [91] s'))=eh (cJ T [91] s'):=by simp[dc,bo,eO B,fE B]
       have M:(eh (cJ T [91] s')).aG≠0:=B;refine⟨(.mk {kind:=6,pos:=(al T s'.at_).pos} [e,.zero],(dA T [91] s').2),(.mk {kind:=6,pos:=(al T s'.at_).pos} [e,nI T (cJ T [91] s')],eh (cJ T [91] s')),?_,?_,.inr ⟨b2,cz,dz⟩,?_⟩
       ·simp[j0,d,i,u,w,kp,bO,K]
       ·simp[eg,an,aE,i,u,w,y,L,vp M l af]
       ·simp only[mx b2];omega
  ·have O:s'.aG≠0:=by
    rcases v with⟨h,_⟩|⟨_,h,_⟩
    ·exact absurd h a
    ·rw[h];exact a
   have d:(s.aG==0)=false:=by simpa using a
   exact⟨(e,s),(o,s'),by simp[j0,d],vp O (l+1) af o,eD.of v λh=>absurd h a,bj _⟩
def ee.pure{α:Type}{T:List Tok}{s:au}{p q:α×au}(h:eD p q)(a:left T p.2<=left T s):ee T s (D p) (D q):=⟨p,q,rfl,rfl,h,a⟩
def ee.map{α β:Type}{T:List Tok}{s:au}{a b:Option (α×au)}(h:ee T s a b)(f:α->β):ee T s (a.bind λp=>D (f p.1,p.2)) (b.bind λp=>D (f p.1,p.2)):=by
 obtain⟨p,q,rfl,rfl,e,i⟩:=h;refine⟨(f p.1,p.2),(f q.1,q.2),rfl,rfl,?_,i⟩;rcases e with⟨h,rfl⟩|⟨h,c,d⟩
 ·exact .inl ⟨h,rfl⟩
 ·exact .inr ⟨h,c,d⟩
def K0{T:List Tok}(aK:T.length<=40000000){k:Nat}(h:∀j,j<k->iS T j){s:au}(a:s.aG=0)(d:(al T s.at_).kind=1)(ax:left T s<=k)(n c:Nat)(q:30*k+9<=n)(u:30*k+9<=c):
  ee T s (wV T (n+1) s) (bif aY T (bA T s).2 [40]then(e2 T (c+1) (bA T s).2).bind λp=>D (.mk {kind:=7,name:=(bA T s).1,pos:=(al T s.at_).pos} p.1,p.2)else D (.mk {kind:=4,name:=(bA T s).1,pos:=(al T s.at_).pos} [],(bA T s).2)):=by
 have e:bA T s=((al T s.at_).text,aF s):=by simp[bA,a,d]
 have i:=kJ aK a (by rw[d];decide);have an:aY T (aF s) [40]=ck T (aF s) 4 [40]:=rfl;rw[e];simp only[wV,an];cases ck T (aF s) 4 [40]with
 |true=>
  obtain⟨n,rfl⟩:∃m,n=m+1:=⟨n-1,af⟩;have:=Ik aK (k:=k-1) (λj o=>h j af) (s:=aF s) a af n c af af;exact(this.map λl=>aA.mk {kind:=7,name:=(al T s.at_).text,pos:=(al T s.at_).pos} l).le af
 |false=>exact ee.pure (.inl ⟨a,rfl⟩) (by simp only;omega)
def JE{T:List Tok}(aK:T.length<=40000000){k:Nat}(N:∀j,j<k->iS T j){s:au}(o:s.aG=0)(K:(al T s.at_).kind=3)(ax:left T s<=k)(n a:Nat)(V:30*k+9<=n)(W:30*k+9<=a):
  ee T s (vT T (n+1) s) (fj T (a+1) (al T s.at_).pos (aF s)):=by
 have O:=kJ aK o (by rw[K];decide);have p:(aF s).aG=0:=o;have an:aY T (aF s) [91]=ck T (aF s) 4 [91]:=rfl;simp only[vT,fj,an];cases c:ck T (aF s) 4 [91]with
 |true=>
  have P:=my aK bf c;have v:=of_same T (aF (aF s));have hw:=x9 (T:=T) (x:=[93]) v.st rfl;have R:=CK aK (aF (aF s));have S:=wB aK (e6 T (aF (aF s))).2 [93];simp only[aW];obtain⟨n,rfl⟩:∃m,n=m+1:=⟨n-1,af⟩;obtain⟨a,rfl⟩:∃m,a=m+1:=⟨a-1,af⟩;by_cases aI:(eG T [93] (e6 T (aF (aF s))).2).2.aG=0
  ·have L:(e6 T (aF (aF s))).2.aG=0:=by
    by_cases h:(e6 T (aF (aF s))).2.aG=0
    ·exact h
    ·exact absurd aI (by simp only[eG,j5 h,aR,fE h];exact h)
   have w:=(v.resolve_right (by rintro⟨h,_⟩;exact h L)).2;have y:=(hw.resolve_right (by rintro⟨h,_⟩;exact h aI)).2;rw[w]at y;rw[w,y];have:=xK aK (k:=k-1) (λj Q=>N j af) (s:=(eG T [93] (e6 T (aF (aF s))).2).2) aI af n a af af;exact(this.map λe=>aA.mk {kind:=9,cf:=(e6 T (aF (aF s))).1.1,cS:=(e6 T (aF (aF s))).1.2,pos:=(al T s.at_).pos} [e]).le af
  ·have q:=hw.resolve_left (by rintro⟨h,_⟩;exact aI h);have i:(bo T [93] (cI T (aF (aF s))).2).aG≠0:=by rw[q.2.1];exact aI
   have E:(dA T [40] (eG T [93] (e6 T (aF (aF s))).2).2)=(U,(eG T [93] (e6 T (aF (aF s))).2).2):=by simp[dA,j5 aI,fE aI]
   have F:cJ T [40] (bo T [93] (cI T (aF (aF s))).2)=eN (bo T [93] (cI T (aF (aF s))).2):=by
    simp only[cJ,eO i,Bool.false_and,aR];rw[bo,eO i,aR,fE i]
   have l:(eN (bo T [93] (cI T (aF (aF s))).2)).aG≠0:=i;have G:dc T [41] (eN (bo T [93] (cI T (aF (aF s))).2))=eh (eN (bo T [93] (cI T (aF (aF s))).2)):=by
    unfold dc;rw[bo,eO l,aR,fE l]
   have M:kp T (n+1) [40] [41] (eG T [93] (e6 T (aF (aF s))).2).2=D (.zero,(eG T [93] (e6 T (aF (aF s))).2).2):=by simp[kp,E]
   have H:ep T (a+1) (bo T [93] (cI T (aF (aF s))).2)=D (nI T (eN (bo T [93] (cI T (aF (aF s))).2)),eh (eN (bo T [93] (cI T (aF (aF s))).2))):=by
    simp only[ep,F,q7 l a 0 af af,Option.bind_some,G]
   simp only[M,H,Option.bind_some];exact ee.pure (.inr ⟨aI,q.2.1,q.2.2⟩) (by simp only[mx aI];omega)
 |false=>
  simp only[aR];by_cases d:(al T (aF s).at_).kind=1
  ·have c:((al T (aF s).at_).kind != 1)=false:=by simp[d]
   have:=kJ aK p (by rw[d];decide);have z:bA T (aF s)=((al T (aF s).at_).text,aF (aF s)):=by simp[bA,p,d]
   simp only[c,aR,z];exact ee.pure (.inl ⟨o,rfl⟩) (by simp only;omega)
  ·have c:((al T (aF s).at_).kind==1)=false:=by simpa using d
   have B:((al T (aF s).at_).kind != 1)=true:=by simpa using d
   have A:=i_ (T:=T) p 2;have u:(aF (cQ T 2 (aF s))).aG≠0:=by show(cQ T 2 (aF s)).aG≠0;rw[A.1];decide
   simp only[B,aW,bA,c,Bool.and_false,aR];exact ee.pure (.inr ⟨u,rfl,rfl⟩) (by simp only[mx u];omega)
def rk{T:List Tok}{s:au}(a:s.aG=0)(x:aC):aY T s x=((al T s.at_).kind==kw x&&(al T s.at_).text==x):=by simp[aY,ck,a]
def Kw{T:List Tok}(aK:T.length<=40000000)(s:au)(x:aC):left T (dA T x s).2<=left T s:=by
 cases h:ck T s 4 x with
 |true=>
  simp only[dA,h,aW];split
  ·exact nV s 4
  ·have:=my aK bf h;have e:left T {s with at_:=iO (s.at_+1),bU:=iO (s.bU+1)}=left T (aF s):=rfl;simp only[e];omega
 |false=>simp only[dA,h,aR];exact nV s 2
def LG{T:List Tok}{s:au}(k:s.aG=0):eD (rU T s) (aA.mk {kind:=11,pos:=(al T s.at_).pos} [],dc T [41] (cJ T [40] (aF s))):=by
 have l:(aF s).aG=0:=k;simp only[rU];rcases w7 (T:=T) l (x:=[40]) rfl with⟨c,a,d,j⟩|⟨c,a,d⟩
 ·simp only[c,d,j,aW];exact eD.of (ml (.refl _) rfl) λ_=>rfl
 ·simp only[c,aR];have e:=d.resolve_left (by rintro⟨h,_⟩;exact a h);have i:(cJ T [40] (aF s)).aG≠0:=by rw[e.2.1];exact a
  refine .inr ⟨a,?_,?_⟩<;>simp[dc,bo,eO i,fE i,eh,e.2.1,e.2.2]
def Ky{T:List Tok}(aK:T.length<=40000000)(s:au):left T (rU T s).2<=left T (aF s):=by
 have a:=Kw aK (aF s) [40];simp only[rU];cases(dA T [40] (aF s)).1 with
 |true=>simp only[aW];have:=pC aK (dA T [40] (aF s)).2 [41];omega
 |false=>simp only[aR];omega
def Jm{T:List Tok}{s:au}(d:s.aG=0)(a:(al T s.at_).kind≠1):bA T s=([],cQ T 2 s)/\(cQ T 2 s).aG≠0:=by
 have c:((al T s.at_).kind==1)=false:=by simpa using a
 exact⟨by simp[bA,c],by rw[(i_ d 2).1];decide⟩
def Jn{T:List Tok}(aK:T.length<=40000000){k:Nat}(A:∀j,j<k->iS T j){s:au}(a:s.aG=0)(ax:left T s<=k)(n c:Nat)(ai:30*k+10<=n)(aj:30*k+10<=c):
  ee T s (lx T (n+1) s) (dy T (c+1) s):=by
 obtain⟨n,rfl⟩:∃m,n=m+1:=⟨n-1,af⟩;obtain⟨c,rfl⟩:∃m,c=m+1:=⟨c-1,af⟩;have ae:(s.aG==0)=true:=by simpa using a
 have l:kw [116,114,117,101]=3:=rfl;have o:kw [102,97,108,115,101]=3:=rfl;have q:kw [110,117,108,108]=3:=rfl;have u:kw [110,101,119]=3:=rfl;have v:kw [108,101,110]=3:=rfl;have w:kw [114,101,97,100]=3:=rfl;have x:kw [40]=4:=rfl;have B:(al T s.at_).kind≠1->ee T s (D (aA.zero,cQ T 2 s)) (bif aY T (bA T s).2 [40]then(e2 T (c+1) (bA T s).2).bind λp=>D (.mk {kind:=7,name:=(bA T s).1,pos:=(al T s.at_).pos} p.1,p.2)else D (.mk {kind:=4,name:=(bA T s).1,pos:=(al T s.at_).pos} [],(bA T s).2)):=by
  intro d;obtain⟨an,aE⟩:=Jm (T:=T) a d;rw[an];simp only[eO aE,aR];exact ee.pure (.inr ⟨aE,rfl,rfl⟩) (nV s 2)
 by_cases y:(al T s.at_).kind=2
 ·have:=kJ aK a (by rw[y];decide);simp only[lx,dy,a,y,ne_eq,not_true,if_false,if_true,beq_self_eq_true,Bool.and_self,aW];exact ee.pure (.inl ⟨a,rfl⟩) (by simp only;omega)
 have N:((al T s.at_).kind==2)=false:=by simpa using y
 by_cases d:(al T s.at_).kind=1
 ·have:=K0 aK A a d ax n c af af;have R:((1:Int)==3)=false:=rfl;have aa:((1:Int)==4)=false:=rfl;have P:((1:Int)==2)=false:=rfl;have O:¬((1:Int)=2):=bf;simpa only[lx,dy,a,d,O,ne_eq,not_true,if_false,if_true,beq_self_eq_true,Bool.and_false,Bool.true_and,R,aa,P,aR,rk a,l,o,q,u,v,w,x,Bool.false_and,Bool.or_self,or_true,true_or]using this
 by_cases z:(al T s.at_).kind=4
 ·have F:((4:Int)==3)=false:=rfl;have E:((4:Int)==2)=false:=rfl;have G:¬((4:Int)=2):=bf;have H:¬((4:Int)=1):=bf;have K:((4:Int)=3\/(4:Int)=4):= .inr rfl;cases M:(al T s.at_).text==[40]with
  |true=>
   have:=xK aK A a ax n c af af;simpa only[lx,dy,a,z,G,H,K,F,E,M,ne_eq,not_true,if_false,if_true,beq_self_eq_true,Bool.and_false,Bool.true_and,aR,aW,rk a,l,o,q,u,v,w,x,Bool.false_and,Bool.or_self,or_true,true_or]using this
  |false=>
   have:=B d;simpa only[lx,dy,a,z,G,H,K,F,E,M,ne_eq,not_true,if_false,if_true,beq_self_eq_true,Bool.and_false,Bool.true_and,aR,aW,rk a,l,o,q,u,v,w,x,Bool.false_and,Bool.or_self,or_true,true_or]using this
 by_cases i:(al T s.at_).kind=3
 ·have ag:=kJ aK a (by rw[i];decide);have ad:(aF s).aG=0:=a;have ab:((3:Int)==4)=false:=rfl;have Q:((3:Int)==2)=false:=rfl;have S:¬((3:Int)=2):=bf;have V:¬((3:Int)=1):=bf;have W:((3:Int)=3\/(3:Int)=4):= .inl rfl;simp only[lx,dy,a,i,S,V,W,ab,Q,ne_eq,not_true,if_false,if_true,beq_self_eq_true,Bool.and_false,Bool.true_and,aR,aW,rk a,l,o,q,u,v,w,x,Bool.false_and];cases t1:(al T s.at_).text==[116,114,117,101]||(al T s.at_).text==[102,97,108,115,101]with
  |true=>simp only[aW];exact ee.pure (.inl ⟨a,rfl⟩) (by simp only[Gl];omega)
  |false=>
   cases t2:(al T s.at_).text==[110,117,108,108]with
   |true=>
    simp only[aW,aR];have L:=of_same T (aF s);refine ee.pure ?_ (by have:=CK aK (aF s);simp only[DJ];omega);refine eD.of L.st λh=> ?_
    rw[(L.resolve_right (by rintro⟨aZ,_⟩;exact aZ h)).2]
   |false=>
    cases t3:(al T s.at_).text==[110,101,119]with
    |true=>simp only[aW,aR];exact JE aK A a i ax n c af af
    |false=>
     cases t4:(al T s.at_).text==[108,101,110]with
     |true=>
      simp only[aW,aR];have:=xK aK (k:=k-1) (λj ah=>A j af) (s:=aF s) ad af n c af af;exact(this.map λe=>aA.mk {kind:=10,pos:=(al T s.at_).pos} [e]).le af
     |false=>
      cases t5:(al T s.at_).text==[114,101,97,100]with
      |true=>
       simp only[aW,aR];exact ee.pure (LG a) (by have:=Ky aK s;omega)
      |false=>simp only[aR];exact B d
 ·have b3:((al T s.at_).kind==3)=false:=by simpa using i
  have cY:((al T s.at_).kind==4)=false:=by simpa using z
  have:=B d;simpa only[lx,dy,a,d,y,i,z,N,b3,cY,ne_eq,not_true,if_false,if_true,beq_self_eq_true,Bool.and_false,Bool.true_and,aR,aW,rk a,l,o,q,u,v,w,x,Bool.false_and,Bool.or_self,or_self]using this
def PK{T:List Tok}(aK:T.length<=40000000){k:Nat}(o:∀j,j<k->iS T j){s:au}(w:s.aG=0)(ax:left T s<=k)(n a:Nat)(F:30*k+14<=n)(G:30*k+14<=a):
  ee T s (oY T n s) (fl T a s):=by
 obtain⟨n,rfl⟩:∃m,n=m+1:=⟨n-1,af⟩;obtain⟨a,rfl⟩:∃m,a=m+1:=⟨a-1,af⟩;have an:aY T s [45]=ck T s 4 [45]:=rfl;have aE:aY T s [33]=ck T s 4 [33]:=rfl;have y:∀(x:aC) (u:Int),kw x=4->ck T s 4 x=X->ee T s (uz T n x u s) (gN T a u s):=by
  intro x u E A;obtain⟨n,rfl⟩:∃m,n=m+1:=⟨n-1,af⟩;obtain⟨a,rfl⟩:∃m,a=m+1:=⟨a-1,af⟩;have B:(al T s.at_).text=x:=(wh A).2.2;simp only[uz,gN,B];rcases xr aK o w ax E 5 (n+1) a af af af with⟨i,l,p,q,d,e,c,v⟩|⟨i,l,d,e,c⟩
  ·have z:oY T n (dA T x s).2=D p:=by rw[hX]at d;exact d
   simp only[i,z,e,Option.bind_some,aW];refine ee.pure ?_ (by rw[Kx];omega);refine eD.of c.st.out λh=> ?_
   rw[(c.resolve_right (by rintro⟨aZ,_⟩;exact aZ h)).2]
  ·simp only[i,c,Option.bind_some,aR];exact ee.pure (.inr ⟨l,d,e⟩) (by simp only[mx l];omega)
 simp only[oY,fl,an,aE];cases i1:ck T s 4 [45]with
 |true=>simp only[aW];exact y [45] 12 rfl i1
 |false=>
  cases i2:ck T s 4 [33]with
  |true=>simp only[aW,aR];exact y [33] 13 rfl i2
  |false=>
   simp only[aR];obtain⟨n,rfl⟩:∃m,n=m+2:=⟨n-2,af⟩;obtain⟨a,rfl⟩:∃m,a=m+1:=⟨a-1,af⟩;obtain⟨p,q,d,e,c,v⟩:=Jn aK o w ax n a af af;have:=(vv aK o k (n+1) (a+1) p.2 q.2 p.1 q.1 af af af af c.st (λh=>by
    rw[(c.resolve_right (by rintro⟨aZ,_⟩;exact aZ h)).2])).le v
   rw[sK];simpa only[d,e,Option.bind_some]using this
def EZ{T:List Tok}(aK:T.length<=40000000){k:Nat}(c:∀j,j<k->iS T j){s:au}(d:s.aG=0)(ax:left T s<=k):∀(j lev n a:Nat),lev+j=5->30*k+20<=n+lev->30*k+20<=a+lev->ee T s (hX T n lev s) (dd T a lev s)
 |0,lev,n,a,i,l,o=>by
  obtain rfl:lev=5:=af;obtain⟨n,rfl⟩:∃m,n=m+1:=⟨n-1,af⟩;obtain⟨a,rfl⟩:∃m,a=m+1:=⟨a-1,af⟩;simp only[hX,dd,if_true];exact PK aK c d ax n a af af
 |j+1,lev,n,a,i,l,o=>by
  have e:¬lev=5:=af;obtain⟨n,rfl⟩:∃m,n=m+1:=⟨n-1,af⟩;obtain⟨a,rfl⟩:∃m,a=m+1:=⟨a-1,af⟩;obtain⟨p,q,g1,g2,g3,g4⟩:=EZ aK c d ax j (lev+1) n a af af af;have:=(EX aK c (lev:=lev) af k n a p.2 q.2 p.1 q.1 af af af af g3.st (λh=>by
   rw[(g3.resolve_right (by rintro⟨aZ,_⟩;exact aZ h)).2])).le g4
  simpa only[hX,dd,e,if_false,g1,g2,Option.bind_some]using this
def E0{T:List Tok}(aK:T.length<=40000000):∀k,iS T k:=by
 intro k
 induction k using Nat.strongRecOn with
 |_ k i=>
  intro s ax lev n c d e h;by_cases a:s.aG=0
  ·exact EZ aK i a ax (5-lev) lev n c af e h
  ·exact LW a lev n c d af af
def bG.cells(a:bG)(kv:aa):List aa:=[I J a.kind,I J a.n,Z a.name,Z a.cf,I J a.cS,kv,I J a.pos,I J a.nq,I J a.qp,I J a.ld,I J a.ref]
mutual
def cw(H:ad)(ok:Nat->Prop):aA->aa->Prop
 | .mk a ks,v=>∃kv,v= .agg (a.cells kv)/\((kv= .ar/\ks.length=0)\/(∃l i cap ro els,kv= .aB l i ks.length 11 cap/\ok l/\H.get l=D (.row ro 11 els)/\df H ok ks (els.drop i))\/∃l i cap,kv= .aB l i 0 11 cap/\ks.length=0)
def df(H:ad)(ok:Nat->Prop):List aA->List (List aa)->Prop
 |[],_=>True
 |e::es,[]=>False
 |e::es,cs::css=>cw H ok e (.agg cs)/\df H ok es css
end
def cg(H:ad)(ok:Nat->Prop)(ks:List aA)(kv:aa):Prop:=(kv= .ar/\ks.length=0)\/(∃l i cap ro els,kv= .aB l i ks.length 11 cap/\ok l/\H.get l=D (.row ro 11 els)/\df H ok ks (els.drop i))\/∃l i cap,kv= .aB l i 0 11 cap/\ks.length=0
def hc{H:ad}{ok:Nat->Prop}{a:bG}{ks:List aA}{v:aa}:cw H ok (.mk a ks) v↔∃kv,v= .agg (a.cells kv)/\cg H ok ks kv:=by
 rw[cw];rfl
def c9(H:ad)(ok:Nat->Prop)(H':ad)(ok':Nat->Prop):Prop:=∀l ro els,ok l->H.get l=D (.row ro 11 els)->ok' l/\H'.get l=D (.row ro 11 els)
mutual
def cw.a1{H H':ad}{ok ok':Nat->Prop}(p:c9 H ok H' ok'):∀(e:aA) (v:aa),cw H ok e v->cw H' ok' e v
 | .mk a ks,v,h=>by
  rw[cw]at h ⊢;obtain⟨kv,d,c⟩:=h;refine⟨kv,d,?_⟩;rcases c with c|⟨l,i,cap,ro,els,an,aE,bn,b8⟩|c
  ·exact .inl c
  ·obtain⟨a6,j⟩:=p l ro els aE bn;exact .inr (.inl ⟨l,i,cap,ro,els,an,a6,j,df.a1 p ks _ b8⟩)
  ·exact .inr (.inr c)
def df.a1{H H':ad}{ok ok':Nat->Prop}(p:c9 H ok H' ok'):∀(es:List aA) (cs:List (List aa)),df H ok es cs->df H' ok' es cs
 |[],_,_=>by rw[df];trivial
 |e::es,[],h=>by rw[df]at h;exact h.elim
 |e::es,cs::css,h=>by
  rw[df]at h ⊢;exact⟨cw.a1 p e _ h.1,df.a1 p es css h.2⟩
end
def cg.a1{H H':ad}{ok ok':Nat->Prop}(p:c9 H ok H' ok'){ks:List aA}{v:aa}(h:cg H ok ks v):cg H' ok' ks v:=by
 rcases h with a|⟨l,i,cap,ro,els,an,aE,bn,b8⟩|a
 ·exact .inl a
 ·obtain⟨a6,c⟩:=p l ro els aE bn;exact .inr (.inl ⟨l,i,cap,ro,els,an,a6,c,df.a1 p ks _ b8⟩)
 ·exact .inr (.inr a)
def c9.mut{r:Nat}{H H':ad}{ok ok':Nat->Prop}(m:cb r H H')(c:¬ok r)(a:∀l,ok l->ok' l):c9 H ok H' ok':=λl ro els h e=>⟨a l h,m.get e (by rintro rfl;exact c h)⟩
def c9.aM{H H':ad}{ok ok':Nat->Prop}(m:aO H H')(a:∀l,ok l->ok' l):c9 H ok H' ok':=λl ro els h e=>⟨a l h,m.get e⟩
def bk(n:Nat):Nat->Prop:=λl=>n<=l
def cw.agg{H:ad}{ok:Nat->Prop}{e:aA}{v:aa}(h:cw H ok e v):∃k n cp o d kv p t1 t2 t3 m,v= .agg [I J k,I J n,Z cp,Z o,I J d,kv,I J p,I J t1,I J t2,I J t3,I J m]/\kv.one=true:=by
 cases e with|mk a ks=>
 rw[hc]at h;obtain⟨kv,c,j⟩:=h;refine⟨_,_,_,_,_,kv,_,_,_,_,_,c,?_⟩;rcases j with⟨rfl,_⟩|⟨l,i,cap,ro,els,rfl,_⟩|⟨l,i,cap,rfl,_⟩<;>rfl
def cw.leaf(H:ad)(ok:Nat->Prop)(a:bG):cw H ok (.mk a []) (.agg (a.cells .ar)):=by
 rw[hc];exact⟨_,rfl,.inl ⟨rfl,rfl⟩⟩
def jM(l:Nat)(cs:List aa)(h:cs.length=11)(a:cs.all aa.one=X):b5 P l 41 1 [(0,.agg cs)]=D (.aB l 0 1 11 (D 1),.row U 11 [cs]):=by
 have:b5 P l 41 1 [(0,.agg cs)]=(iV 11 (List.replicate 1 [I J 0,I J 0,Z [],Z [],I J 0,.ar,I J 0,I J 0,I J 0,I J 0,I J 0]) [(0,.agg cs)]).bind λels=>D (.aB l 0 1 11 (D 1),.row U 11 els):=ah
 rw[this];simp[iV,aa.cells,h,a]
def xL(l:Nat)(cs a:List aa)(h:cs.length=11)(c:cs.all aa.one=X)(aZ:a.length=11)(d:a.all aa.one=X):b5 P l 41 2 [(0,.agg cs),(1,.agg a)]=D (.aB l 0 2 11 (D 2),.row U 11 [cs,a]):=by
 have:b5 P l 41 2 [(0,.agg cs),(1,.agg a)]=(iV 11 (List.replicate 2 [I J 0,I J 0,Z [],Z [],I J 0,.ar,I J 0,I J 0,I J 0,I J 0,I J 0]) [(0,.agg cs),(1,.agg a)]).bind λels=>D (.aB l 0 2 11 (D 2),.row U 11 els):=ah
 rw[this];have e:List.replicate 2 [aa.int J 0,I J 0,Z [],Z [],I J 0,.ar,I J 0,I J 0,I J 0,I J 0,I J 0]=[[aa.int J 0,I J 0,Z [],Z [],I J 0,.ar,I J 0,I J 0,I J 0,I J 0,I J 0],[aa.int J 0,I J 0,Z [],Z [],I J 0,.ar,I J 0,I J 0,I J 0,I J 0,I J 0]]:=rfl;rw[e];simp[iV,aa.cells,h,c,aZ,d]
def c9.push{H:ad}{ok ok':Nat->Prop}(b:bW)(a:∀l,ok l->ok' l):c9 H ok (H.push b) ok':=c9.aM (aO.push H b) a
def c9.set{H:ad}{ok ok':Nat->Prop}{l:Nat}(b:bW)(h:¬ok l)(c:∀l,ok l->ok' l):c9 H ok (H.set l b) ok':=λj ro els a e=>⟨c j a,by rw[ad.get_set_other (by rintro rfl;exact h a)];exact e⟩
def c9.lB{H:ad}{ok ok':Nat->Prop}(h:∀l,ok l->ok' l):c9 H ok H ok':=λl ro els a e=>⟨h l a,e⟩
def cw.cells{H:ad}{ok:Nat->Prop}{e:aA}{v:aa}(h:cw H ok e v):∃cs,v= .agg cs/\cs.length=11/\cs.all aa.one=true:=by
 obtain⟨k,n,cp,o,d,kv,p,t1,t2,t3,c,rfl,a⟩:=h.agg;exact⟨_,rfl,rfl,by simp only[List.all_cons,List.all_nil,gF,hp,a,Bool.and_self]⟩
def cw.same{H:ad}{ok:Nat->Prop}{e:aA}{v:aa}(h:cw H ok e v):bl (D v) v=true:=by
 cases e with|mk a ks=>
 rw[hc]at h;obtain⟨kv,rfl,c⟩:=h;have:aa.beq kv kv=true:=by rcases c with⟨rfl,_⟩|⟨l,i,cap,ro,els,rfl,_⟩|⟨l,i,cap,rfl,_⟩<;>simp[aa.beq]
 simp[bl,aa.beq,fV.beq,bG.cells,this]
def uZ(ok:Nat->Prop)(H:ad)(r:Nat)(T:List Tok)(ao b0:aa)(e:aA)(s':au)(v:aa)(H':ad):Prop:=cb r H H'/\jT H' r T ao b0 s'/\cw H' ok e v
abbrev qI(H:ad):=uZ (bk H.next) H
def qI.box{H c:ad}{r:Nat}{T:List Tok}{ao b0:aa}{s s':au}{a:bG}{ks:List aA}{kv:aa}{b:Nat}{lo:Nat}(h:jT H r T ao b0 s)(m:cb r H c)(e:jq c r ao b0 s')(i:H.next<=b)(n:b<lo)(j:cg c (bk lo) ks kv)(d:bW):
  qI H r T ao b0 (.mk a ks) s' (.agg (a.cells kv)) (c.set b d):=by
 have k:=h.rd.lt;have m':=m.cE (.inr i) d;refine⟨m',h.mut m' ?_,?_⟩
 ·unfold jq at e ⊢;rw[ad.get_set_other af];exact e
 ·rw[hc];exact⟨kv,rfl,j.a1 (c9.set _ (by unfold bk;omega) λl k=>by unfold bk at*;omega)⟩
def cg.nil(H:ad)(ok:Nat->Prop):cg H ok [] .ar:= .inl ⟨rfl,rfl⟩
def uZ.fin{ok:Nat->Prop}{H bR:ad}{r:Nat}{T:List Tok}{ao b0:aa}{s s':au}{a:bG}{ks:List aA}{kv:aa}(e:jT H r T ao b0 s)(m:cb r H bR)(c:jq bR r ao b0 s')(d:cg bR ok ks kv):uZ ok H r T ao b0 (.mk a ks) s' (.agg (a.cells kv)) bR:=
 ⟨m,e.mut m c,hc.2 ⟨kv,rfl,d⟩⟩
def cg.n5{H:ad}{ok:Nat->Prop}{L:Nat}{e:aA}{cs:List aa}{cap:Option Nat}{ro:Bool}(a:H.get L=D (.row ro 11 [cs]))(c:ok L)(h:cw H ok e (.agg cs)):cg H ok [e] (.aB L 0 1 11 cap):=by
 refine .inr (.inl ⟨L,0,cap,ro,[cs],rfl,c,a,?_⟩);simp only[List.drop_zero];rw[df,df];exact⟨h,trivial⟩
def cg.x5{H:ad}{ok:Nat->Prop}{L:Nat}{e f:aA}{cs a:List aa}{cap:Option Nat}{ro:Bool}(c:H.get L=D (.row ro 11 [cs,a]))(d:ok L)(h:cw H ok e (.agg cs))(aZ:cw H ok f (.agg a)):cg H ok [e,f] (.aB L 0 2 11 cap):=by
 refine .inr (.inl ⟨L,0,cap,ro,[cs,a],rfl,d,c,?_⟩);simp only[List.drop_zero];rw[df,df,df];exact⟨h,aZ,trivial⟩
def cw.mut{H H':ad}{ok ok':Nat->Prop}{r:Nat}{e:aA}{v:aa}(h:cw H ok e v)(m:cb r H H')(c:¬ok r)(a:∀l,ok l->ok' l):cw H' ok' e v:=cw.a1 (c9.mut m c a) e v h
def cw.new{H H':ad}{ok:Nat->Prop}{n:Nat}{e:aA}{v:aa}(h:cw H (bk n) e v)(m:c0 (· <n) H H')(c:∀l,n<=l->ok l):cw H' ok e v:=
 cw.a1 (λl ro els a g=>⟨c l a,m.get g (Nat.not_lt.2 a)⟩) e v h
def fA(n:Nat):Prop:=∀{H:ad} {r:Nat} {T:List Tok} {ao b0:aa} {s:au},jT H r T ao b0 s->b0≠ .ar->∀(lev:Nat),lev<=5->∀(e:aA) (s':au),hX T n lev s=D (e,s')->W (aD P ay 165 [.ptr r 0 0,I J lev] H) (qI H r T ao b0 e s')
def qI.ret{H a:ad}{r:Nat}{T:List Tok}{ao b0:aa}{s s':au}{e:aA}{v:aa}{b n:Nat}(i:jT H r T ao b0 s)(m:cb r H a)(d:jq a r ao b0 s')(j:H.next<=b)(he:cw a (bk n) e v)(k:b<n)(c:bW):qI H r T ao b0 e s' v (a.set b c):=by
 have o:=i.rd.lt;have m':=m.cE (.inr j) c;refine⟨m',i.mut m' ?_,he.new (c0.cE (S:=(· <n)) (c0.refl _ _) (.inl k) _) λl h=>by unfold bk;omega⟩;unfold jq at d ⊢;rw[ad.get_set_other af];exact d
def df.append{H:ad}{ok:Nat->Prop}:∀(es:List aA) (cs:List (List aa)) (e:aA) (c:List aa),df H ok es cs->cs.length=es.length->cw H ok e (.agg c)->df H ok (es++[e]) (cs++[c])
 |[],[],e,c,_,_,h=>by
  simp only[List.nil_append];rw[df,df];exact⟨h,trivial⟩
 |[],_::_,e,c,_,a,_=>by simp at a
 |_::_,[],e,c,h,_,_=>by rw[df]at h;exact h.elim
 |an::es,d::cs,e,c,h,a,he=>by
  rw[df]at h;simp only[List.cons_append];rw[df];exact⟨h.1,df.append es cs e c h.2 (by simpa using a) he⟩
def GQ:P.underlying 41=D (.slice 45):=ah
def zz:hN P 45=D 120:=ah
def y0:eV P 45=D (.agg [I J 0,I J 0,Z [],Z [],I J 0,.ar,I J 0,I J 0,I J 0,I J 0,I J 0]):=ah
def H5{H:ad}{L:Nat}{cs:List aa}{cap:Option Nat}{ro:Bool}(a:H.get L=D (.row ro 11 [cs])):c1 P H [41,41] .ar (.aB L 0 1 11 cap)=D (.aB H.next 0 1 11 C,H.push (.row U 11 [cs])):=by
 simp[c1,hS,ju,dG,GQ,uI,zz,y0,h7,eK,a,aa.cells]
def H6{H:ad}{L l n:Nat}{cs:List aa}{els:List (List aa)}{cap:Option Nat}{ro:Bool}(d:H.get L=D (.row ro 11 [cs]))(e:H.get l=D (.row U 11 els))(h:els.length=n)(i:n<=1000000000):c1 P H [41,41] (.aB l 0 n 11 C) (.aB L 0 1 11 cap)=D (.aB H.next 0 (n+1) 11 C,(H.set l .dead).push (.row U 11 (els++[cs]))):=by
 have a:(n+1)*120<=140737488355328:=af;have c:n+1<=9223372036854775807:=af;simp[c1,hS,ju,dG,GQ,uI,zz,y0,h7,eK,d,e,aa.cells,h,a,c];rw[List.take_of_length_le af]
def fn(n:Nat):aa:= .func (.func n) [] []
