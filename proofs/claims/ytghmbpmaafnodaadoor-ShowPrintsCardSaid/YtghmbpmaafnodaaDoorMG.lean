/-
  Texts of one proof, laid together: L3 L4 ShL A1 Sr Z1 Z2 Z3 Z4 Z5 Z6 Z7 Z8 Z9 Z10 Z11 X2 X3 X4 X5 X6 X7 X8 X9 X10.
-/
import Derived.Test.YtghmbpmaafnodaaDoorMF
set_option linter.unusedVariables false
set_option linter.unusedSimpArgs false
set_option linter.defProp false
open Option renaming some→D,none→Z
open Bool renaming true→X,false→U
open Go.cn.ad renaming int→I,str→Y
open Go.IntKind renaming i64→J
namespace Go.Proofs.YtghmbpmaafnodaaDoor
open Go.cn
open Nat (reduceAdd reduceLeDiff)
def vU(k:Int)(x:aG)(p:Int):cC P 61 [(0,I J k),(1,Y x),(3,I J p)]=D (.agg [I J k,Y x,I J 0,I J p]):=ah
def s6(k:Int)(z:Int)(p:Int):cC P 61 [(0,I J k),(2,I J z),(3,I J p)]=D (.agg [I J k,Y [],I J z,I J p]):=ah
def IQ(k:Int)(p:Int):cC P 61 [(0,I J k),(3,I J p)]=D (.agg [I J k,Y [],I J 0,I J p]):=ah
def xY(d:Bool):∀s:aG,runN d s<=s.length
 |[]=>bm _
 |c::r=>by
  rw[runN];have:=xY d r;cases eL c||(!d&&eN c)with
  |true=>simp only[aR,List.length_cons];omega
  |false=>simp only[aK,List.length_cons];omega
def xp(p:Nat):Option (Int×aG×Int×Nat)->ad
 |none=> .tuple [.agg [I J 0,Y [],I J 0,I J 0],I J 0]
 |some (k,t,v,m)=> .tuple [.agg [I J k,Y t,I J v,I J p],I J m]
def Lc{H:ae}{s:aG}(aB:s.length<=1000000000000000000){at_:Nat}(R:at_<s.length):W (aE P aA 39 [Y s,I J at_] H) λv H'=>v=xp at_ (hZ (s.drop at_))/\aP H H':=by
 refine cG (λ_=>Mq 0) ?_;obtain⟨c,r,u⟩:∃c r,s.drop at_=c::r:=by
  cases h:s.drop at_ with
  |nil=>have:=drop_nil h;omega
  |cons c r=>exact⟨c,r,rfl⟩
 obtain⟨Q,ah,ai,ak⟩:=drop_cons u;have l:=kn Q;have q:=aP.push H (.row U 4 [[I J 0,Y [],I J 0,I J 0]]);have N:=λd=>xY d (s.drop at_)
 have T:(s.drop at_).length=s.length-at_:=by simp
 simp-implicitDefEqProofs(disch:=try exact aj)only[e8,reduceAdd,reduceLeDiff,reduceIte,ax,l];refine mF (p5 _) ?_;cases M:lW (c.toNat:Int)with
 |true=>
  simp-implicitDefEqProofs(disch:=try exact aj)only[e8,bg,bx];refine mF (Fm aB at_ af U) ?_;have V:=N U;have n:=sA (s:=s) (a:=at_) (b:=at_+runN U (s.drop at_)) af af;rw[Nat.add_sub_cancel_left]at n;simp-implicitDefEqProofs(disch:=try exact aj)only[e8,bg,bx,cZ,lH,n];refine aO (yV _) ?_;rintro _ A ⟨rfl,e⟩;refine⟨e.1,?_⟩;have g2:A.get H.next=D (.row U 4 [[I J 0,Y [],I J 0,I J 0]]):=e.get (ae.bM _ _)
  have ab:=ae.aV g2;have k:hZ (s.drop at_)=(bif j7 ((s.drop at_).take (runN U (s.drop at_)))then D (3,(s.drop at_).take (runN U (s.drop at_)),0,runN U (s.drop at_))else bif eG ((s.drop at_).take (runN U (s.drop at_)))then D (1,(s.drop at_).take (runN U (s.drop at_)),0,runN U (s.drop at_))else Z):=by
   have w:eN c=true:=M;simp only[u,hZ,w,aR]
  cases hw:j7 ((s.drop at_).take (runN U (s.drop at_)))with
  |true=>
   rw[k,hw];simp-implicitDefEqProofs(disch:=try exact aj)only[e8,reduceAdd,reduceLeDiff,reduceIte,ax,vU,g2];exact bb.2 ⟨rfl,(q.trans e).cW (bm _) _⟩
  |false=>
   rw[k,hw];simp-implicitDefEqProofs(disch:=try exact aj)only[e8,bg,bx];refine aO (Hv (by simp only[List.length_take];omega)) ?_;rintro _ ag ⟨rfl,x⟩;refine⟨x.1,?_⟩;have g3:=x.get g2;have dH:=ae.aV g3;cases am:eG ((s.drop at_).take (runN U (s.drop at_)))with
   |true=>
    simp-implicitDefEqProofs(disch:=try exact aj)only[e8,reduceAdd,reduceLeDiff,reduceIte,ax,vU,g3];exact bb.2 ⟨rfl,((q.trans e).trans x).cW (bm _) _⟩
   |false=>
    simp-implicitDefEqProofs(disch:=try exact aj)only[e8,reduceAdd,reduceLeDiff,reduceIte,ax,g3];exact bb.2 ⟨rfl,((q.trans e).trans x).cW (bm _) _⟩
 |false=>
  simp-implicitDefEqProofs(disch:=try exact aj)only[e8,bg,bx,l];refine mF (wb _) ?_;have w:eN c=false:=M;have g1:(H.push (.row U 4 [[I J 0,Y [],I J 0,I J 0]])).get H.next=D (.row U 4 [[I J 0,Y [],I J 0,I J 0]]):=ae.bM _ _
  cases L:mN (c.toNat:Int)with
  |true=>
   have E:eL c=true:=L;simp-implicitDefEqProofs(disch:=try exact aj)only[e8,bg,bx];refine mF (Fm aB at_ af X) ?_;have V:=N X;have n:=sA (s:=s) (a:=at_) (b:=at_+runN X (s.drop at_)) af af;rw[Nat.add_sub_cancel_left]at n;simp-implicitDefEqProofs(disch:=try exact aj)only[e8,bg,bx,cZ,lH,n];refine mF (P7 (by simp only[List.length_take];omega) (λc S=>Fg _ c S)) ?_;have k:hZ (s.drop at_)=(match jB 0 ((s.drop at_).take (runN X (s.drop at_)))with
    |none=>Z
    |some v=>bif (decide (1<runN X (s.drop at_))&&c.toNat==48)||(decide (runN X (s.drop at_)<(s.drop at_).length)&&eN (((s.drop at_)[runN X (s.drop at_)]?).getD 0))then Z else D (2,[],v,runN X (s.drop at_))):=by
    simp only[u,hZ,w,E,aR,aK]<;>rfl
   rw[k];cases an:jB 0 ((s.drop at_).take (runN X (s.drop at_)))with
   |none=>
    simp-implicitDefEqProofs(disch:=try exact aj)only[e8,reduceAdd,reduceLeDiff,reduceIte,ax,Bool.not_false,g1];exact bb.2 ⟨rfl,aP.push _ _⟩
   |some z=>
    generalize al:runN X (s.drop at_)=aa at*;have aT:decide (1<aa)=decide ((1:Int)<(aa:Int)):=by rw[decide_eq_decide];omega
    have K:((c.toNat:Int)==48)=(c.toNat==48):=by rw[Bool.eq_iff_iff];simp;omega
    have ad:decide (aa<(s.drop at_).length)=decide (((at_+aa:Nat):Int)<(s.length:Int)):=by rw[decide_eq_decide,T];omega
    rw[aT,ad];simp only
    cases m:decide ((1:Int)<(aa:Int))with
    |true=>
     cases B:c.toNat==48 with
     |true=>
      simp-implicitDefEqProofs(disch:=try exact aj)only[e8,reduceAdd,reduceLeDiff,reduceIte,ax,Bool.not_true,m,l,K,B,g1];exact bb.2 ⟨rfl,aP.push _ _⟩
     |false=>
      cases i:decide (((at_+aa:Nat):Int)<(s.length:Int))with
      |false=>
       simp-implicitDefEqProofs(disch:=try exact aj)only[e8,reduceAdd,reduceLeDiff,reduceIte,ax,Bool.not_true,m,l,K,B,lH,i,g1,s6];exact bb.2 ⟨rfl,aP.push _ _⟩
      |true=>
       obtain⟨y,o⟩:∃y,s[at_+aa]? =D y:=⟨s[at_+aa]'(by have:=of_decide_eq_true i;omega),by simp⟩;have F:=kn o;have G:(s.drop at_)[aa]? =D y:=by rw[List.getElem?_drop];exact o
       simp-implicitDefEqProofs(disch:=try exact aj)only[e8,reduceAdd,reduceLeDiff,reduceIte,ax,Bool.not_true,m,l,K,B,lH,i,F];refine pA (p5 _) ?_;rw[G];cases p:lW (y.toNat:Int)with
       |true=>
        have j:eN y=true:=p;simp-implicitDefEqProofs(disch:=try exact aj)only[e8,reduceAdd,reduceLeDiff,reduceIte,ax,g1,Option.getD_some,j];exact bb.2 ⟨rfl,aP.push _ _⟩
       |false=>
        have j:eN y=false:=p;simp-implicitDefEqProofs(disch:=try exact aj)only[e8,reduceAdd,reduceLeDiff,reduceIte,ax,g1,s6,Option.getD_some,j];exact bb.2 ⟨rfl,aP.push _ _⟩
    |false=>
     cases i:decide (((at_+aa:Nat):Int)<(s.length:Int))with
     |false=>
      simp-implicitDefEqProofs(disch:=try exact aj)only[e8,reduceAdd,reduceLeDiff,reduceIte,ax,Bool.not_true,m,lH,i,g1,s6];exact bb.2 ⟨rfl,aP.push _ _⟩
     |true=>
      obtain⟨y,o⟩:∃y,s[at_+aa]? =D y:=⟨s[at_+aa]'(by have:=of_decide_eq_true i;omega),by simp⟩;have F:=kn o;have G:(s.drop at_)[aa]? =D y:=by rw[List.getElem?_drop];exact o
      simp-implicitDefEqProofs(disch:=try exact aj)only[e8,reduceAdd,reduceLeDiff,reduceIte,ax,Bool.not_true,m,lH,i,F];refine pA (p5 _) ?_;rw[G];cases p:lW (y.toNat:Int)with
      |true=>
       have j:eN y=true:=p;simp-implicitDefEqProofs(disch:=try exact aj)only[e8,reduceAdd,reduceLeDiff,reduceIte,ax,g1,Option.getD_some,j];exact bb.2 ⟨rfl,aP.push _ _⟩
      |false=>
       have j:eN y=false:=p;simp-implicitDefEqProofs(disch:=try exact aj)only[e8,reduceAdd,reduceLeDiff,reduceIte,ax,g1,s6,Option.getD_some,j];exact bb.2 ⟨rfl,aP.push _ _⟩
  |false=>
   have E:eL c=false:=L;simp-implicitDefEqProofs(disch:=try exact aj)only[e8,bg,bx];refine aO (Pf aB R) ?_;rintro _ A ⟨rfl,e⟩;refine⟨e.1,?_⟩;have g2:A.get H.next=D (.row U 4 [[I J 0,Y [],I J 0,I J 0]]):=e.get (ae.bM _ _)
   have ab:=ae.aV g2;have k:hZ (s.drop at_)=(bif hM (s.drop at_)==[]then Z else D (4,hM (s.drop at_),0,(hM (s.drop at_)).length)):=by
    simp only[u,hZ,w,E,aK]
   rw[k];cases O:hM (s.drop at_)==[]with
   |true=>
    simp-implicitDefEqProofs(disch:=try exact aj)only[e8,reduceAdd,reduceLeDiff,reduceIte,ax,O,g2];exact bb.2 ⟨rfl,(q.trans e).cW (bm _) _⟩
   |false=>
    simp-implicitDefEqProofs(disch:=try exact aj)only[e8,reduceAdd,reduceLeDiff,reduceIte,ax,O,g2,vU];exact bb.2 ⟨rfl,(q.trans e).cW (bm _) _⟩
def FD(l:Nat)(t:Tok):b6 P l 36 1 [(0,t.v)]=D (.aD l 0 1 4 (D 1),.row U 4 [t.cells]):=by
 obtain⟨k,x,n,p⟩:=t;kernel_rfl
def GU:P.underlying 36=D (.slice 61):=ah
def zV:hO P 61=D 40:=ah
def zk:eU P 61=D (.agg [I J 0,Y [],I J 0,I J 0]):=ah
def Io{H:ae}{L:Nat}{cs:List ad}{cap:Option Nat}{ro:Bool}(a:H.get L=D (.row ro 4 [cs])):c0 P H [36,36] .az (.aD L 0 1 4 cap)=D (.aD H.next 0 1 4 Z,H.push (.row U 4 [cs])):=by
 simp[c0,hU,jF,dK,GU,u4,zV,zk,ie,eJ,a,ad.cells]
def Ip{H:ae}{L l n:Nat}{cs:List ad}{els:List (List ad)}{cap:Option Nat}{ro:Bool}(d:H.get L=D (.row ro 4 [cs]))(e:H.get l=D (.row U 4 els))(h:els.length=n)(i:n<=1000000000):c0 P H [36,36] (.aD l 0 n 4 Z) (.aD L 0 1 4 cap)=D (.aD H.next 0 (n+1) 4 Z,(H.set l .dead).push (.row U 4 (els++[cs]))):=by
 have a:(n+1)*40<=140737488355328:=af;have c:n+1<=9223372036854775807:=af;simp[c0,hU,jF,dK,GU,u4,zV,zk,ie,eJ,d,e,ad.cells,h,a,c];rw[List.take_of_length_le af]
def mA(H0 H:ae)(v:ad)(T:List Tok):Prop:=(v= .az/\T=[])\/∃l,v= .aD l 0 T.length 4 Z/\H0.next<=l/\H.get l=D (.row U 4 (T.map Tok.cells))
def mA.tok{H0 H:ae}{v:ad}{T:List Tok}(h:mA H0 H v T):fe H v T:=by
 rcases h with h|⟨l,rfl,_,a⟩
 ·exact .inl h
 ·refine .inr ⟨l,0,Z,rfl,.inr ⟨U,_,a,λk t c=> ?_⟩⟩;simp[c]
def mA.aL{H0 H H':ae}{v:ad}{T:List Tok}(h:mA H0 H v T)(p:aP H H'):mA H0 H' v T:=by
 rcases h with h|⟨l,e,a,c⟩
 ·exact .inl h
 ·exact .inr ⟨l,e,a,p.get c⟩
def y9{H0 H:ae}{v:ad}{T:List Tok}(h:mA H0 H v T)(p:aP H0 H)(aw:T.length<=1000000)(t:Tok):∃d H',c0 P (H.push (.row U 4 [t.cells])) [36,36] v (.aD H.next 0 1 4 (D 1))=D (d,H')/\mA H0 H' d (T++[t])/\aP H0 H'/\(H.push (.row U 4 [t.cells])).next<=H'.next/\(∀l,l<H.next->(∀e,v≠ .aD l 0 T.length 4 e)->H'.get l=H.get l):=by
 have c:(H.push (.row U 4 [t.cells])).get H.next=D (.row U 4 [t.cells]):=ae.bM _ _
 rcases h with⟨rfl,rfl⟩|⟨l,rfl,i,a⟩
 ·refine⟨_,_,Io c,.inr ⟨_,rfl,?_,?_⟩,(p.bI _).bI _,by simp,λl m _=> ?_⟩
  ·have:=p.1;simp only[ae.b8];omega
  ·exact ae.bM (H.push (.row U 4 [t.cells])) _
  ·rw[ae.dC (by simp only[ae.b8];omega),ae.dC af]
 ·have m:=ae.aV a;have k:(H.push (.row U 4 [t.cells])).get l=D (.row U 4 (T.map Tok.cells)):=by rw[ae.dC af];exact a
  refine⟨_,_,Ip c k (by simp) af,.inr ⟨(H.push (.row U 4 [t.cells])).next,by simp,?_,?_⟩,?_,by simp,λj o n=> ?_⟩
  ·have:=p.1;simp only[ae.b8,ae.dz];omega
  ·have e:((H.push (.row U 4 [t.cells])).set l .dead).next=(H.push (.row U 4 [t.cells])).next:=rfl
   simp only[List.map_append,List.map_cons,List.map_nil];rw[<-e];exact ae.bM _ _
  ·exact((p.bI _).cW i _).bI _
  ·rw[ae.dC (by simp only[ae.b8,ae.dz];omega),ae.get_set_other (by rintro rfl;exact n _ rfl),ae.dC af]
def Fh(d:Bool)(c:UInt8)(r:aG)(h:(eL c||(!d&&eN c))=X):1<=runN d (c::r):=by
 rw[runN,h];simp
def Pe(s:aG):(hM s).length<=s.length:=by
 unfold hM;cases decide (2<=s.length)&&hl (s.take 2) j3 with
 |true=>simp only[aR,List.length_take];omega
 |false=>
  simp only[aK];cases s with
  |nil=>simp
  |cons c r=>simp only[List.length_cons];cases jP c hG<;>simp
def Eb{s:aG}{k:Int}{t:aG}{v:Int}{m:Nat}(h:hZ s=D (k,t,v,m)):1<=m/\m<=s.length:=by
 cases s with
 |nil=>simp[hZ]at h
 |cons c r=>
  have i:=λd=>xY d (c::r)
  rw[hZ]at h;cases e:eN c with
  |true=>
   have aC:=Fh U c r (by simp[e]);rw[e,aR]at h;cases hw:j7 ((c::r).take (runN U (c::r)))with
   |true=>rw[hw,aR]at h;cases h;exact⟨aC,i U⟩
   |false=>
    rw[hw,aK]at h;cases j:eG ((c::r).take (runN U (c::r)))with
    |true=>rw[j,aR]at h;cases h;exact⟨aC,i U⟩
    |false=>rw[j,aK]at h;cases h
  |false=>
   rw[e,aK]at h;cases a:eL c with
   |true=>
    have aC:=Fh X c r (by simp[a]);rw[a,aR]at h;split at h
    ·cases h
    ·rename_i z n;rw[Bool.cond_eq_ite]at h;split at h
     ·cases h
     ·cases h;exact⟨aC,i X⟩
   |false=>
    rw[a,aK]at h;cases aB:hM (c::r)==[]with
    |true=>rw[aB,aR]at h;cases h
    |false=>
     rw[aB,aK]at h;cases h;have l:¬hM (c::r)=[]:=by simpa using aB
     have:=Pe (c::r);exact⟨List.length_pos_iff.2 l,this⟩
def pJ:∀(s:aG) (b:Bool),dc b s<=s.length
 |[],b=>by cases b<;>simp[dc]
 |c::r,X=>by
  have a:=pJ r X;have d:=pJ r U;rw[dc];cases c.toNat==10<;>simp only[aR,aK,List.length_cons]<;>omega
 |c::r,U=>by
  have a:=pJ r X;have d:=pJ r U;rw[dc];cases jq c
  ·cases(c==47&&r.head?==D 47)<;>simp only[aR,aK,List.length_cons]<;>omega
  ·simp only[aR,List.length_cons];omega
def yT(H0:ae)(x:List Tok×Int×Int)(r:ad)(H':ae):Prop:=∃au,r= .tuple [au,.agg [I J x.2.1,I J x.2.2]]/\fe H' au x.1/\aP H0 H'
def p6(T:List Tok):Nat ⊕ List Tok->List Tok×Int×Int
 | .inl e=>([],1,e)
 | .inr l=>(T++l,0,0)
def IN(k p:Int):cC P 29 [(0,I J k),(1,I J p)]=D (.agg [I J k,I J p]):=ah
def Gm{H0:ae}{s:aG}(aB:s.length<=100000)(N:Nat):∀(n:Nat) (rest:aG) (at_ m:Nat) (T:List Tok) (v:ad) (H:ae),s.drop at_=rest->at_<=s.length->mA (H0.push (.row U 2 [[I J 0,I J 0]])) H v T->aP (H0.push (.row U 2 [[I J 0,I J 0]])) H->T.length<=at_->rest.length<n->rest.length<m->
  W (nq (aE P aA) N m (Y s) (.ptr H0.next 0 0) v (I J at_) H) (yT H0 (p6 T (gT n rest at_)))
 |0,_,_,_,_,_,_,_,_,_,_,_,x,_=>af
 |_,_,_,0,_,_,_,_,_,_,_,_,_,hm=>af
 |n+1,[],at_,m+1,T,v,H,h,R,i,p,aw,x,hm=>by
  have hlen:=drop_nil h;have u:¬((at_:Int)<(s.length:Int)):=af;have S:s.length=at_:=af;have g:H.get H0.next=D (.row U 2 [[I J 0,I J 0]]):=p.get (ae.bM _ _)
  have jH:=ae.aV g;obtain⟨E,H',d,j,A,L,K⟩:=y9 i p af ⟨0,[],0,s.length⟩;have a:=FD H.next ⟨0,[],0,s.length⟩
  simp only[Tok.v]at a;simp-implicitDefEqProofs(disch:=try exact aj)only[nq,jV,ld,ma,lf,lb,reduceAdd,reduceLeDiff,reduceIte,ax,u,decide_false,IQ,a,d,e2];have g':H'.get H0.next=D (.row U 2 [[I J 0,I J 0]]):=by
   rw[K _ jH ?_];exact g;intro e he;rcases i with⟨rfl,_⟩|⟨l,rfl,ai,_⟩
   ·cases he
   ·cases he;simp only[ae.b8]at ai;omega
  have aF:=ae.aV g';have y:bh (D (.agg [I J 0,I J 0])) (.agg [I J 0,I J 0])=true:=by simp[bh,ad.beq,gA.beq]
  simp-implicitDefEqProofs(disch:=try exact aj)only[jV,ld,ma,lf,lb,reduceAdd,reduceLeDiff,reduceIte,ax,g',y];have am:aP H0 H':=(aP.push _ _).trans A;have an:aP H0 (H'.set H0.next (.row U 2 [[I J 0,I J 0]])):=am.cW (bm _) _;refine bb.2 ⟨E,rfl,?_,an⟩;rw[gT];simp only[p6];rw[S]at j;exact j.tok.aW λl ro els e=>by
   rw[ae.get_set_other];exact e;rintro rfl;rw[g']at e;cases e
 |n+1,c::r,at_,m+1,T,v,H,h,R,i,p,aw,x,hm=>by
  obtain⟨av,ay,O,aC⟩:=drop_cons h;have u:((at_:Int)<(s.length:Int)):=af;have g:H.get H0.next=D (.row U 2 [[I J 0,I J 0]]):=p.get (ae.bM _ _)
  have jH:=ae.aV g;simp-implicitDefEqProofs(disch:=try exact aj)only[nq,jV,ld,ma,lf,lb,reduceAdd,reduceLeDiff,reduceIte,ax,u,decide_true];refine aO (Lc af O) ?_;rintro _ F ⟨rfl,o⟩;refine⟨o.1,?_⟩;have g2:=o.get g;have aH:=ae.aV g2;have aa:=i.aL o;replace p:=p.trans o;rw[h,gT];cases ak:hZ (c::r)with
  |none=>
   simp only[xp];simp-implicitDefEqProofs(disch:=try exact aj)only[jV,ld,ma,lf,lb,reduceAdd,reduceLeDiff,reduceIte,ax,IN,beq_self_eq_true,g2,ae.h1];have y:bh (D (.agg [I J 1,I J at_])) (.agg [I J 1,I J at_])=true:=by simp[bh,ad.beq,gA.beq]
   refine bb.2 ⟨.az,rfl,.inl ⟨rfl,rfl⟩,?_⟩;exact(((aP.push _ _).trans p).cW (bm _) _).bI _
  |some q=>
   obtain⟨k,t,z,b⟩:=q;obtain⟨ar,M⟩:=Eb ak;have V:((b:Int)==0)=false:=by simp;omega
   simp only[xp];simp only[List.length_cons]at M x hm;obtain⟨E,H',d,j,A,L,K⟩:=y9 (aa.aL (aP.push F (.row U 4 [Tok.cells ⟨k,t,z,at_⟩]))) (p.bI _) af ⟨k,t,z,at_⟩;have a:=FD (F.next+1) ⟨k,t,z,at_⟩;simp only[Tok.v]at a;simp only[Tok.cells,ae.b8]at d L;simp only[Tok.cells]at a;have y:∀aq:ae,bh (D (.agg [I J k,Y t,I J z,I J at_])) (.agg [I J k,Y t,I J z,I J at_])=true:=λ_=>by simp[bh,ad.beq,gA.beq]
   simp-implicitDefEqProofs(disch:=try exact aj)only[jV,ld,ma,lf,lb,reduceAdd,reduceLeDiff,reduceIte,ax,V,a,d,e2,lH];have G:s.drop (at_+b)=(c::r).drop b:=by rw[<-List.drop_drop,h]
   have ab:=pJ ((c::r).drop b) U;simp only[List.length_drop,List.length_cons]at ab;refine mF (zR af (at_:=at_+b) af) ?_;rw[G];simp only[ld];have ag:at_+b+dc U ((c::r).drop b)<=s.length:=af;have al:=Gm aB N n (s.drop (at_+b+dc U ((c::r).drop b))) (at_+b+dc U ((c::r).drop b)) m (T++[⟨k,t,z,at_⟩]) E H' rfl ag j A (by simp;omega) (by simp;omega) (by simp;omega);refine al.mono ?_;rintro w ap ⟨au,aT,B,ao⟩;have ah:s.drop (at_+b+dc U ((c::r).drop b))=((c::r).drop b).drop (dc U ((c::r).drop b)):=by rw[<-List.drop_drop,G]
   rw[ah]at aT B;have Q:p6 (T++[⟨k,t,z,at_⟩]) (gT n (((c::r).drop b).drop (dc U ((c::r).drop b))) (at_+b+dc U ((c::r).drop b)))=p6 T (match gT n (((c::r).drop b).drop (dc U ((c::r).drop b))) (at_+b+dc U ((c::r).drop b))with
     | .inl e=> .inl e
     | .inr l=> .inr (⟨k,t,z,at_⟩::l)):=by
    cases gT n (((c::r).drop b).drop (dc U ((c::r).drop b))) (at_+b+dc U ((c::r).drop b))with
    |inl e=>rfl
    |inr l=>simp[p6]
   rw[Q]at aT B;exact⟨au,aT,B,ao⟩
def HC{H:ae}(s:aG):W (aE P aA 14 [Y s] H) (yT H (dI s)):=by
 refine cG (λ_=>L9 (s.length+1)) ?_;by_cases c:(6000:Int)<(s.length:Int)
 ·have a:6000<s.length:=af;simp-implicitDefEqProofs(disch:=try exact aj)only[jV,ld,ma,lf,lb,reduceAdd,reduceLeDiff,reduceIte,ax,c,decide_true];refine bb.2 ⟨.az,by simp[dI,a],.inl ⟨rfl,by simp[dI,a]⟩,aP.push _ _⟩
 ·have a:¬6000<s.length:=af;simp-implicitDefEqProofs(disch:=try exact aj)only[jV,ld,lf,lb,reduceAdd,reduceLeDiff,reduceIte,ax,c,decide_false];refine mF (zR (s:=s) af (at_:=0) af) ?_;simp only[List.drop_zero,Nat.zero_add,lf];have h:=pJ s U;refine(Gm (H0:=H) af (s.length+1) (s.length+1) (s.drop (dc U s)) (dc U s) (s.length+1) [] .az _ rfl h (.inl ⟨rfl,rfl⟩) (.refl _) (by simp) (by simp;omega) (by simp;omega)).mono ?_;rintro v H' ⟨au,aT,d,i⟩;have e:p6 [] (gT (s.length+1) (s.drop (dc U s)) (dc U s))=dI s:=by
   simp only[dI,if_neg a,rM];cases gT (s.length+1) (s.drop (dc U s)) (dc U s)<;>rfl
  rw[e]at aT d;exact⟨au,aT,d,i⟩
section
set_option maxRecDepth 100000
noncomputable section
end
end
end Go.Proofs.YtghmbpmaafnodaaDoor
namespace Go.Proofs.YtghmbpmaafnodaaDoor.fk
open Go.cn
open Nat (reduceAdd reduceLeDiff)
structure ia(H:ae):Prop where
 u1:H.get 0=some (.row true 1 j2)
def ia.aL{H H':ae}(h:ia H)(p:aP H H'):ia H':=⟨p.get h.u1⟩
end Go.Proofs.YtghmbpmaafnodaaDoor.fk
namespace Go.Proofs.YtghmbpmaafnodaaDoor
open Go.cn
open Nat (reduceAdd reduceLeDiff)
def kw(x:aG):Int:=match x with
 |c::_=>if 97<=c.toNat/\c.toNat<=122 then 3 else 4
 |[]=>4
def aZ(T:List Tok)(s:an)(x:aG):Bool:=bo T s (kw x) x
def a_(T:List Tok)(x:aG)(s:an):an:=bif aZ T s x then av s else bE T 2 s
def eB(s:an):an:={s with a8:=eH (s.a8+1)}
def ct(T:List Tok)(x:aG)(s:an):an:=bif aZ T s x&&decide (50<=s.a8)then bE T 4 s else eB (a_ T x s)
def dm(T:List Tok)(x:aG)(s:an):an:=dQ (a_ T x s)
def bq(T:List Tok)(s:an):aG×an:=bif s.ak==0&&(al T s.at_).kind==1 then((al T s.at_).text,av s)else([],bE T 2 s)
def takeN(T:List Tok)(x:aG):Nat->an->an
 |0,s=>s
 |n+1,s=>takeN T x n (a_ T x s)
def gH(T:List Tok):Nat->Int->an->(Int×an) ⊕ an
 |0,d,s=>bif aZ T s [91]then .inr (bE T 4 s)else .inl (d,s)
 |n+1,d,s=>bif aZ T s [91]then gH T n (d+1) (av s)else .inl (d,s)
def fm(T:List Tok)(d:Int)(s:an):(aG×Int)×an:=bif aZ T s [105,110,116]||aZ T s [98,111,111,108]then(((al T s.at_).text,d),takeN T [93] d.toNat (av s)) else(((bq T s).1,d),takeN T [93] d.toNat (bq T s).2)
def cO(T:List Tok)(s:an):(aG×Int)×an:=match gH T 3 0 s with
 | .inr s'=>(([],0),s')
 | .inl (d,s')=>fm T d s'
def k3(x:aG):List (aG×Int)->Int
 |[]=>0
 |(y,k)::r=>bif y==x then k else k3 x r
def eO(lev:Nat)(t:Tok):Int:=bif t.kind != 4 then 0 else k3 t.text (ko[lev]?.getD [])
mutual
def eA(T:List Tok):Nat->Nat->an->aa aJ
 |0,_,_=>Z
 |n+1,lev,s=>if lev=5 then j4 T n s else(eA T n (lev+1) s).bind λp=>ig T n lev p.1 p.2
def ig(T:List Tok):Nat->Nat->aJ->an->aa aJ
 |0,_,_,_=>Z
 |n+1,lev,e,s=>bif s.ak==0&&eO lev (al T s.at_) != 0 then
  (eA T n (lev+1) (av s)).bind λp=>ig T n lev (.mk {kind:=eO lev (al T s.at_),pos:=(al T s.at_).pos} [e,p.1]) p.2
  else D (e,s)
def j4(T:List Tok):Nat->an->aa aJ
 |0,_=>Z
 |n+1,s=>bif aZ T s [45]then lC T n 12 s else bif aZ T s [33]then lC T n 13 s else(ih T n s).bind λp=>fC T n p.1 p.2
def lC(T:List Tok):Nat->Int->an->aa aJ
 |0,_,_=>Z
 |n+1,k,s=>(eA T n 5 (ct T (al T s.at_).text s)).bind λp=>D (.mk {kind:=k,pos:=(al T s.at_).pos} [p.1],dQ p.2)
def fC(T:List Tok):Nat->aJ->an->aa aJ
 |0,_,_=>Z
 |n+1,e,s=>bif aZ T s [46]then fC T n (.mk {kind:=5,name:=(bq T (av s)).1,pos:=(al T s.at_).pos} [e]) (bq T (av s)).2
  else bif aZ T s [91]then(eA T n 0 (ct T [91] s)).bind λp=>fC T n (.mk {kind:=6,pos:=(al T s.at_).pos} [e,p.1]) (dm T [93] p.2)
  else D (e,s)
def hC(T:List Tok):Nat->an->aa aJ
 |0,_=>Z
 |n+1,s=>(eA T n 0 (ct T [40] s)).bind λp=>D (p.1,dm T [41] p.2)
def ih(T:List Tok):Nat->an->aa aJ
 |0,_=>Z
 |n+1,s=>bif s.ak==0&&(al T s.at_).kind==2 then D (.mk {kind:=1,n:=(al T s.at_).n,pos:=(al T s.at_).pos} [],av s)
  else bif aZ T s [116,114,117,101]||aZ T s [102,97,108,115,101]then D (.mk {kind:=2,n:=bif (al T s.at_).text==[116,114,117,101]then 1 else 0,pos:=(al T s.at_).pos} [],av s)
  else bif aZ T s [110,117,108,108]then D (.mk {kind:=3,cp:=(cO T (av s)).1.1,c2:=(cO T (av s)).1.2,pos:=(al T s.at_).pos} [],(cO T (av s)).2)
  else bif aZ T s [110,101,119]then kY T n (al T s.at_).pos (av s)
  else bif aZ T s [108,101,110]then(hC T n (av s)).bind λp=>D (.mk {kind:=10,pos:=(al T s.at_).pos} [p.1],p.2)
  else bif aZ T s [114,101,97,100]then D (.mk {kind:=11,pos:=(al T s.at_).pos} [],dm T [41] (ct T [40] (av s)))
  else bif aZ T s [40]then hC T n s
  else bif aZ T (bq T s).2 [40]then(iH T n (bq T s).2).bind λp=>D (.mk {kind:=7,name:=(bq T s).1,pos:=(al T s.at_).pos} p.1,p.2)
  else D (.mk {kind:=4,name:=(bq T s).1,pos:=(al T s.at_).pos} [],(bq T s).2)
def kY(T:List Tok):Nat->Int->an->aa aJ
 |0,_,_=>Z
 |n+1,pos,s=>bif aZ T s [91]then
  (hC T n (a_ T [93] (cO T (av s)).2)).bind λp=>D (.mk {kind:=9,cp:=(cO T (av s)).1.1,c2:=(cO T (av s)).1.2,pos:=pos} [p.1],p.2)
  else D (.mk {kind:=8,cp:=(bq T s).1,pos:=pos} [],(bq T s).2)
def iH(T:List Tok):Nat->an->aa (List aJ)
 |0,_=>Z
 |n+1,s=>bif aZ T (ct T [40] s) [41]then D ([],dm T [41] (ct T [40] s))
  else(eA T n 0 (ct T [40] s)).bind λp=>hz T n [p.1] p.2
def hz(T:List Tok):Nat->List aJ->an->aa (List aJ)
 |0,_,_=>Z
 |n+1,l,s=>bif aZ T s [44]then(eA T n 0 (av s)).bind λp=>hz T n (l++[p.1]) p.2 else D (l,dm T [41] s)
end
def left(T:List Tok)(s:an):Nat:=if s.ak=0/\0<=s.at_/\s.at_<T.length then T.length-s.at_.toNat else 0
def cB{α:Type}(p q:α×an):Prop:=(p.2.ak=0/\q=p)\/(p.2.ak≠0/\q.2.ak=p.2.ak/\q.2.bD=p.2.bD)
def gS{T:List Tok}{s:an}(h:s.ak≠0)(k:Int)(x:aG):bo T s k x=false:=by simp[bo,h]
def dP{T:List Tok}{s:an}(h:s.ak≠0)(x:aG):aZ T s x=false:=gS h _ _
def eF{T:List Tok}{s:an}(h:s.ak≠0)(e:Int):bE T e s=s:=by simp[bE,h]
def CV{T:List Tok}{s:an}(h:s.ak≠0):∀l,mS T s l=0
 |[]=>rfl
 |(x,k)::r=>by simp[mS,gS h,CV h r]
def Kv{T:List Tok}{s:an}(h:s.ak≠0)(lev:Nat):k1 T lev s=0:=CV h _
def I9{T:List Tok}{s:an}(h:s.ak≠0)(n:Nat)(c:2<=n):mL T n s=D (.zero,s):=by
 obtain⟨n,rfl⟩:∃m,n=m+2:=⟨n-2,af⟩;have a:(s.ak==0)=false:=by simpa using h
 simp[mL,jo,h,fl,a]
def PU{T:List Tok}{s:an}(h:s.ak≠0)(n:Nat)(a:3<=n):kG T n s=D (.zero,s):=by
 obtain⟨n,rfl⟩:∃m,n=m+1:=⟨n-1,af⟩;simp[kG,gS h,I9 h n af]
def Fa{T:List Tok}{s:an}(h:s.ak≠0)(n:Nat)(a:1<=n)(lev:Nat)(e:aJ):hI T n lev e s=D (e,s):=by
 obtain⟨n,rfl⟩:∃m,n=m+1:=⟨n-1,af⟩;simp[hI,Kv h]
def E9{T:List Tok}{s:an}(h:s.ak≠0):∀(n lev:Nat),lev<=5->9<=n+lev->fJ T n lev s=D (.zero,s)
 |0,lev,c,d=>af
 |n+1,lev,c,d=>by
  by_cases a:lev=5
  ·simp[fJ,a,PU h n af]
  ·simp[fJ,a,E9 h n (lev+1) af af,Fa h n af]
def k0{T:List Tok}{s:an}{k:Int}{x:aG}(h:bo T s k x=X):s.ak=0/\(al T s.at_).kind=k/\(al T s.at_).text=x:=by
 simpa [bo]using h
def mM(T:List Tok)(s:an):aJ:= .mk {kind:=4,pos:=(al T s.at_).pos} []
def tK{T:List Tok}{s:an}(h:s.ak≠0):bq T s=([],s):=by
 have a:(s.ak==0)=false:=by simpa using h
 simp[bq,a,eF h]
def Jy{T:List Tok}{s:an}(h:s.ak≠0)(n:Nat)(c:1<=n):ih T n s=D (mM T s,s):=by
 obtain⟨n,rfl⟩:∃m,n=m+1:=⟨n-1,af⟩;have a:(s.ak==0)=false:=by simpa using h
 simp[ih,a,dP h,tK h,mM]
def vV{T:List Tok}{s:an}(h:s.ak≠0)(n:Nat)(a:1<=n)(e:aJ):fC T n e s=D (e,s):=by
 obtain⟨n,rfl⟩:∃m,n=m+1:=⟨n-1,af⟩;simp[fC,dP h]
def PV{T:List Tok}{s:an}(h:s.ak≠0)(n:Nat)(a:2<=n):j4 T n s=D (mM T s,s):=by
 obtain⟨n,rfl⟩:∃m,n=m+1:=⟨n-1,af⟩;simp[j4,dP h,Jy h n af,vV h n af]
def At{T:List Tok}{s:an}(h:s.ak≠0)(n:Nat)(c:1<=n)(lev:Nat)(e:aJ):ig T n lev e s=D (e,s):=by
 obtain⟨n,rfl⟩:∃m,n=m+1:=⟨n-1,af⟩;have a:(s.ak==0)=false:=by simpa using h
 simp[ig,a]
def pO{T:List Tok}{s:an}(h:s.ak≠0):∀(n lev:Nat),lev<=5->9<=n+lev->eA T n lev s=D (mM T s,s)
 |0,lev,c,d=>af
 |n+1,lev,c,d=>by
  by_cases a:lev=5
  ·simp[eA,a,PV h n af]
  ·simp[eA,a,pO h n (lev+1) af af,At h n af]
def Da{x:aG}:∀l:List (aG×Int),(∀p∈l,p.2≠0)->∀T s,s.ak=0->(al T s.at_).kind=4->mS T s l=k3 (al T s.at_).text l
 |[],_,_,_,_,_=>rfl
 |(y,k)::r,h,T,s,a,c=>by
  have e:=Da (x:=x) r (λp aC=>h p (by simp[aC])) T s a c;have d:bo T s 4 y=(y==(al T s.at_).text):=by
   simp only[bo,a,c,beq_self_eq_true,Bool.true_and];exact BEq.comm
  simp[mS,k3,e,d]
def wT{T:List Tok}{s:an}(a:(al T s.at_).kind≠4):∀l,mS T s l=0
 |[]=>rfl
 |(y,k)::r=>by
  have c:bo T s 4 y=false:=by simp[bo,a]
  simp[mS,c,wT a r]
def Kw{T:List Tok}{s:an}(c:s.ak=0){lev:Nat}(d:lev<5):k1 T lev s=eO lev (al T s.at_):=by
 by_cases a:(al T s.at_).kind=4
 ·have:((al T s.at_).kind != 4)=false:=by simp[a]
  simp only[k1,eO,this,aK];refine Da (x:=[]) _ ?_ T s c a;have:lev=0\/lev=1\/lev=2\/lev=3\/lev=4:=af;rcases this with rfl|rfl|rfl|rfl|rfl<;>simp[ko]
 ·have:((al T s.at_).kind != 4)=true:=by simp[a]
  simp[k1,eO,this,wT a]
def dL(s s':an):Prop:=(s.ak=0/\s'=s)\/(s.ak≠0/\s'.ak=s.ak/\s'.bD=s.bD)
def dL.refl(s:an):dL s s:=by
 by_cases h:s.ak=0
 ·exact .inl ⟨h,rfl⟩
 ·exact .inr ⟨h,rfl,rfl⟩
def dL.out{s s':an}(h:dL s s'):dL (dQ s) (dQ s'):=by
 rcases h with⟨h,rfl⟩|⟨h,a,c⟩
 ·exact .inl ⟨h,rfl⟩
 ·exact .inr ⟨h,a,c⟩
def jn{T:List Tok}{s:an}(h:s.ak=0)(e:Int):(bE T e s).ak=e/\(bE T e s).bD=(al T s.at_).pos:=by simp[bE,h]
def qU{T:List Tok}{s s':an}(h:dL s s'){x:aG}(d:kw x=4):dL (bR T x s).2 (a_ T x s'):=by
 rcases h with⟨h,rfl⟩|⟨h,a,e⟩
 ·cases c:bo T s' 4 x with
  |true=>simp only[bR,a_,aZ,d,c,aR];exact .refl _
  |false=>simp only[bR,a_,aZ,d,c,aK];exact .refl _
 ·have a1:s'.ak≠0:=by rw[a];exact h
  simp only[bR,a_,gS h,dP a1,aK,eF h,eF a1];exact .inr ⟨h,a,e⟩
def lP{T:List Tok}{s s':an}(h:dL s s'){x:aG}(o:kw x=4):dL (gE T x s).2 (dm T x s'):=by
 have n:=qU (T:=T) h.out o;have k:dL (a_ T x (dQ s')) (dm T x s'):=by
  by_cases i:s'.ak=0
  ·have l:aZ T (dQ s') x=aZ T s' x:=rfl;cases m:aZ T s' x with
   |true=>simp only[dm,a_,l,m,aR];exact .inl ⟨i,rfl⟩
   |false=>
    simp only[dm,a_,l,m,aK];have j:(dQ s').ak=0:=i;refine .inr ⟨by rw[(jn j 2).1];decide,?_,?_⟩
    ·rw[(jn j 2).1];exact(jn i 2).1
    ·rw[(jn j 2).2];exact(jn i 2).2
  ·have j:(dQ s').ak≠0:=i;simp only[dm,a_,dP i,dP j,aK,eF i,eF j];exact .refl _
 rcases n with⟨a,b⟩|⟨a,b,c⟩
 ·rcases k with⟨d,e⟩|⟨d,e,f⟩
  ·exact .inl ⟨a,by rw[e,b];rfl⟩
  ·exact absurd (by rw[b];exact a) d
 ·rcases k with⟨d,e⟩|⟨d,e,f⟩
  ·exact absurd (b.symm.trans d) a
  ·exact .inr ⟨a,e.trans b,f.trans c⟩
def xu{T:List Tok}{s:an}(h:s.ak=0){x:aG}(d:kw x=4):
  ((cV T x s).1=X/\bo T s 4 x=X/\(cV T x s).2=eB (av s)/\ct T x s=eB (av s))\/
  ((cV T x s).1=U/\(cV T x s).2.ak≠0/\dL (cV T x s).2 (ct T x s)):=by
 cases c:bo T s 4 x with
 |true=>
  by_cases a:50<=s.a8
  ·refine .inr ?_;simp only[cV,ct,aZ,d,c,aR,Bool.true_and,decide_eq_true a,if_pos a];exact⟨trivial,by rw[(jn h 4).1];decide,.refl _⟩
  ·refine .inl ?_;simp only[cV,ct,a_,aZ,d,c,aR,Bool.true_and,decide_eq_false a,if_neg a,aK];exact⟨trivial,trivial,rfl,trivial⟩
 |false=>
  refine .inr ?_;simp only[cV,ct,a_,aZ,d,c,aK,Bool.false_and];exact⟨trivial,by rw[(jn h 2).1];decide,.inr ⟨by rw[(jn h 2).1];decide,rfl,rfl⟩⟩
def cB.of{α:Type}{a b:α}{s s':an}(h:dL s s')(e:s.ak=0->b=a):cB (a,s) (b,s'):=by
 rcases h with⟨h,rfl⟩|⟨h,c,d⟩
 ·exact .inl ⟨h,by rw[e h]⟩
 ·exact .inr ⟨h,c,d⟩
def cB.st{α:Type}{p q:α×an}(h:cB p q):dL p.2 q.2:=by
 rcases h with⟨h,rfl⟩|⟨h,a,c⟩
 ·exact .inl ⟨h,rfl⟩
 ·exact .inr ⟨h,a,c⟩
def vb{T:List Tok}{x:aG}(a:kw x=4):∀(n:Nat) {s s':an},dL s s'->dL (iX T x n s) (takeN T x n s')
 |0,_,_,h=>h
 |n+1,_,_,h=>vb a n (qU h a)
def yd{T:List Tok}{x:aG}:∀(n:Nat) {s:an},s.ak≠0->takeN T x n s=s
 |0,_,_=>rfl
 |n+1,s,h=>by simp[takeN,a_,dP h,eF h,yd n h]
def yv{T:List Tok}{x:aG}:∀(n:Nat) {s:an},s.ak≠0->iX T x n s=s
 |0,_,_=>rfl
 |n+1,s,h=>by simp[iX,bR,gS h,eF h,yv n h]
def D8{T:List Tok}:∀(n:Nat) (d:Int) (s:an),gH T n d s=fF T n d s
 |0,d,s=>rfl
 |n+1,d,s=>by
  have:aZ T s [91]=bo T s 4 [91]:=rfl;simp[gH,fF,this,D8 n]
def K8{T:List Tok}(d:Int)(s:an):cB (iO T d s) (fm T d s):=by
 have c:aZ T s [105,110,116]=bo T s 3 [105,110,116]:=rfl;have e:aZ T s [98,111,111,108]=bo T s 3 [98,111,111,108]:=rfl;by_cases a:s.ak=0
 ·cases i:bo T s 3 [105,110,116]with
  |true=>
   simp only[iO,fm,c,e,i,Bool.not_true,Bool.false_and,Bool.and_false,aK,Bool.true_or,aR];exact cB.of (vb rfl _ (.refl _)) λ_=>rfl
  |false=>
   cases j:bo T s 3 [98,111,111,108]with
   |true=>
    simp only[iO,fm,c,e,i,j,Bool.not_true,Bool.and_false,aK,Bool.false_or,aR];exact cB.of (vb rfl _ (.refl _)) λ_=>rfl
   |false=>
    by_cases l:(al T s.at_).kind=1
    ·simp only[iO,fm,c,e,i,j,bq,a,l,Bool.not_false,Bool.and_self,Bool.and_true,bne_self_eq_false,aK,Bool.or_self,beq_self_eq_true,aR];exact cB.of (vb rfl _ (.refl _)) λ_=>rfl
    ·have k:((al T s.at_).kind==1)=false:=by simpa using l
     have n:((al T s.at_).kind != 1)=true:=by simpa using l
     have m:(bE T 2 s).ak≠0:=by rw[(jn a 2).1];decide
     simp only[iO,fm,c,e,i,j,bq,a,k,n,Bool.not_false,Bool.and_self,Bool.and_false,aR,Bool.or_self,aK,yd _ m];exact cB.of (.refl _) λh=>absurd h m
 ·have k:(s.ak==0)=false:=by simpa using a
  have o:(av s).ak≠0:=a;simp only[iO,fm,c,e,gS a,bq,k,Bool.false_and,Bool.or_self,aK,eF a,yd _ a,yv _ o,Bool.not_false,Bool.and_self,Bool.and_true];cases(al T s.at_).kind != 1 with
  |true=>exact .inr ⟨a,rfl,rfl⟩
  |false=>exact .inr ⟨a,rfl,rfl⟩
def of_same(T:List Tok)(s:an):cB (dD T s) (cO T s):=by
 simp only[dD,cO,D8];cases fF T 3 0 s with
 |inr s'=>exact cB.of (.refl _) λ_=>rfl
 |inl p=>exact K8 p.1 p.2
def jL{T:List Tok}{s:an}(h:s.ak≠0):left T s=0:=by simp[left,h]
def C2{T:List Tok}(s:an):left T (eB s)=left T s:=rfl
def w1{T:List Tok}(s:an):left T (dQ s)=left T s:=rfl
def oA{T:List Tok}(s:an)(e:Int):left T (bE T e s)<=left T s:=by
 by_cases h:s.ak=0
 ·unfold left;simp only[bE,h,if_true,true_and];split
  ·rename_i a;rw[if_pos a.2];omega
  ·omega
 ·rw[eF h];omega
def PK{T:List Tok}{a:Int}(h:(al T a).kind≠0):0<=a/\a<T.length:=by
 unfold al at h;split at h
 ·exact absurd rfl h
 ·omega
def jM{T:List Tok}(aw:T.length<=40000000){s:an}(d:s.ak=0)(e:(al T s.at_).kind≠0):left T (av s)+1<=left T s:=by
 obtain⟨a,c⟩:=PK e;have hw:eH (s.at_+1)=s.at_+1:=wrap_i64 af af;have h:left T s=T.length-s.at_.toNat:=by
  unfold left;rw[if_pos ⟨d,a,c⟩]
 have i:left T (av s)<=T.length-(s.at_+1).toNat:=by
  unfold left;simp only[av,hw];split<;>omega
 omega
def jN{T:List Tok}(aw:T.length<=40000000){s:an}{k:Int}{x:aG}(d:k≠0)(h:bo T s k x=X):left T (av s)+1<=left T s:=by
 obtain⟨a,c,_⟩:=k0 h;exact jM aw a (by rw[c];exact d)
def p2{T:List Tok}(aw:T.length<=40000000)(s:an)(x:aG):left T (bR T x s).2<=left T s:=by
 cases h:bo T s 4 x with
 |true=>simp only[bR,h,aR];have:=jN aw bk h;omega
 |false=>simp only[bR,h,aK];exact oA s 2
def p1{T:List Tok}(aw:T.length<=40000000)(s:an)(x:aG):left T (gE T x s).2<=left T s:=p2 aw (dQ s) x
def C5{T:List Tok}(aw:T.length<=40000000)(x:aG):∀(n:Nat) (s:an),left T (iX T x n s)<=left T s
 |0,s=>bm _
 |n+1,s=>Nat.le_trans (C5 aw x n _) (p2 aw s x)
def C4{T:List Tok}(aw:T.length<=40000000):∀(n:Nat) (d:Int) (s:an),(∀a s',fF T n d s= .inl (a,s')->left T s'<=left T s)/\(∀s',fF T n d s= .inr s'->left T s'<=left T s)
 |0,d,s=>by
  cases h:bo T s 4 [91]with
  |true=>simp only[fF,h,aR];exact⟨by simp,by rintro _ ⟨⟩;exact oA s 4⟩
  |false=>simp only[fF,h,aK];exact⟨by rintro _ _ ⟨⟩;exact bm _,by simp⟩
 |n+1,d,s=>by
  cases h:bo T s 4 [91]with
  |true=>
   simp only[fF,h,aR];obtain⟨i1,i2⟩:=C4 aw n (d+1) (av s);have c:=jN aw bk h;exact⟨λa s' a1=>by have:=i1 a s' a1;omega,λs' a1=>by have:=i2 s' a1;omega⟩
  |false=>simp only[fF,h,aK];exact⟨by rintro _ _ ⟨⟩;exact bm _,by simp⟩
def C3{T:List Tok}(aw:T.length<=40000000)(d:Int)(s:an):left T (iO T d s).2<=left T s:=by
 by_cases e:s.ak=0
 ·cases c:((al T s.at_).kind != 1&&(!bo T s 3 [105,110,116]&& !bo T s 3 [98,111,111,108]))with
  |true=>simp only[iO,c,aR];exact oA s 2
  |false=>
   simp only[iO,c,aK];have a:(al T s.at_).kind≠0:=by
    intro a;have i:∀x,bo T s 3 x=false:=λx=>by simp[bo,a]
    simp[a,i]at c
   have:=C5 aw [93] d.toNat (av s);have:=jM aw e a;omega
 ·have h:(av s).ak≠0:=e;simp only[iO];cases((al T s.at_).kind != 1&&(!bo T s 3 [105,110,116]&& !bo T s 3 [98,111,111,108]))with
  |true=>exact oA s 2
  |false=>simp only[aK,yv _ h,jL h];omega
def wZ{T:List Tok}(aw:T.length<=40000000)(s:an):left T (dD T s).2<=left T s:=by
 obtain⟨i1,i2⟩:=C4 aw 3 0 s;simp only[dD];cases h:fF T 3 0 s with
 |inr s'=>exact i2 s' h
 |inl p=>
  have:=i1 p.1 p.2 h;have:=C3 aw p.1 p.2;exact Nat.le_trans (C3 aw p.1 p.2) (i1 p.1 p.2 h)
def ed{α:Type}(T:List Tok)(s:an)(a b:Option (α×an)):Prop:=∃p q,a=D p/\b=D q/\cB p q/\left T p.2<=left T s
def jb(T:List Tok)(k:Nat):Prop:=∀(s:an),left T s<=k->∀(lev n a:Nat),lev<=5->30*k+20<=n+lev->30*k+20<=a+lev->ed T s (fJ T n lev s) (eA T a lev s)
def LZ{T:List Tok}{s:an}(h:s.ak≠0)(lev n a:Nat)(c:lev<=5)(d:9<=n+lev)(e:9<=a+lev):ed T s (fJ T n lev s) (eA T a lev s):=
 ⟨_,_,E9 h n lev c d,pO h a lev c e,.inr ⟨h,rfl,rfl⟩,bm _⟩
def xR{T:List Tok}(aw:T.length<=40000000){k:Nat}(p:∀j,j<k->jb T j){s:an}(m:s.ak=0)(aB:left T s<=k){x:aG}(o:kw x=4)(lev n d:Nat)(i:lev<=5)(u:30*k+9<=n)(v:30*k+9<=d):
  ((cV T x s).1=X/\left T (cV T x s).2+1<=left T s/\ed T (cV T x s).2 (fJ T n lev (cV T x s).2) (eA T d lev (ct T x s)))\/
  ((cV T x s).1=U/\(cV T x s).2.ak≠0/\(ct T x s).ak=(cV T x s).2.ak/\(ct T x s).bD=(cV T x s).2.bD/\eA T d lev (ct T x s)=D (mM T (ct T x s),ct T x s)):=by
 rcases xu (T:=T) m o with⟨h,a,c,e⟩|⟨h,a,c⟩
 ·refine .inl ⟨h,?_,?_⟩
  ·rw[c,C2];exact jN aw bk a
  ·have q:=jN aw bk a;rw[c,e];exact p (k-1) af _ (by rw[C2];omega) lev n d i af af
 ·rcases c with⟨c,_⟩|⟨_,e,l⟩
  ·exact absurd c a
  ·exact .inr ⟨h,a,e,l,pO (by rw[e];exact a) d lev i af⟩
def x5{T:List Tok}(aw:T.length<=40000000){k:Nat}(A:∀j,j<k->jb T j){s:an}(w:s.ak=0)(aB:left T s<=k)(n l:Nat)(y:30*k+9<=n)(z:30*k+9<=l):ed T s (h7 T (n+1) [40] [41] s) (hC T (l+1) s):=by
 rcases xR aw A w aB (x:=[40]) rfl 0 n l af y z with⟨d,a,p,q,c,e,i,B⟩|⟨d,a,c,e,i⟩
 ·refine⟨(p.1,(gE T [41] p.2).2),(q.1,dm T [41] q.2),?_,?_,?_,?_⟩
  ·simp[h7,d,c]
  ·simp[hC,e]
  ·rcases i with⟨h,rfl⟩|⟨h,u,v⟩
   ·exact cB.of (lP (.inl ⟨h,rfl⟩) rfl) λ_=>rfl
   ·refine cB.of (lP (.inr ⟨h,u,v⟩) rfl) λo=>absurd o ?_
    have:(dQ p.2).ak≠0:=h;simp only[gE,bR,gS this,aK,eF this];exact h
  ·have:=p1 aw p.2 [41];simp only
   omega
 ·refine⟨(.zero,(cV T [40] s).2),_,by simp[h7,d],by simp only[hC,i];rfl,?_,?_⟩
  ·have m:(ct T [40] s).ak≠0:=by rw[c];exact a
   have o:=lP (T:=T) (x:=[41]) (dL.refl (ct T [40] s)) rfl;refine .inr ⟨a,?_,?_⟩<;>simp[dm,a_,dP m,eF m,dQ,c,e]
  ·simp only[jL a];omega
def ed.le{α:Type}{T:List Tok}{s s0:an}{a b:Option (α×an)}(h:ed T s a b)(j:left T s<=left T s0):ed T s0 a b:=by
 obtain⟨p,q,c,d,e,i⟩:=h;exact⟨p,q,c,d,e,Nat.le_trans i j⟩
def z_{T:List Tok}{s:an}(h:s.ak≠0)(x:aG):(gE T x s).2.ak≠0:=by
 have a:(dQ s).ak≠0:=h;simp only[gE,bR,gS a,aK,eF a];exact h
def Dg{T:List Tok}(aw:T.length<=40000000){k:Nat}(y:∀j,j<k->jb T j):∀(c n d:Nat) (s s':an) (l l':List aJ),left T s<=c->c<=k->30*c+10<=n->30*c+10<=d->dL s s'->(s.ak=0->l'=l)->ed T s (hX T n l s) (hz T d l' s')
 |c,0,d,s,s',l,l',u,v,w,x,e,m=>af
 |c,n+1,0,s,s',l,l',u,v,w,x,e,m=>af
 |c,n+1,d+1,s,s',l,l',u,v,w,x,e,m=>by
  by_cases a:s.ak=0
  ·obtain⟨_,rfl⟩:s.ak=0/\s'=s:=e.resolve_right (by rintro⟨h,_⟩;exact h a);cases m a;have o:aZ T s' [44]=bo T s' 4 [44]:=rfl;cases i:bo T s' 4 [44]with
   |true=>
    have A:=jN aw bk i;obtain⟨p,q,g1,g2,g3,g4⟩:=y (c-1) af (av s') af 0 n d af af af;have:=Dg aw y (c-1) n d p.2 q.2 (l++[p.1]) (l++[q.1]) af af af af g3.st (λaC=>by
     rcases g3 with⟨_,rfl⟩|⟨h,_⟩
     ·rfl
     ·exact absurd aC h)
    have:=this.le (s0:=s') af;simpa [hX,e_,i,hz,o,g1,g2]using this
   |false=>
    refine⟨(l,(gE T [41] s').2),(l,dm T [41] s'),by simp[hX,e_,i],by simp[hz,o,i],cB.of (lP (.refl _) rfl) λ_=>rfl,p1 aw s' [41]⟩
  ·have z:s'.ak≠0:=by
    rcases e with⟨h,_⟩|⟨_,h,_⟩
    ·exact absurd h a
    ·rw[h];exact a
   refine⟨(l,(gE T [41] s).2),(l',dm T [41] s'),by simp[hX,e_,gS a],by simp[hz,dP z],cB.of (lP e rfl) λh=>absurd h (z_ a _),p1 aw s [41]⟩
def ID{T:List Tok}(aw:T.length<=40000000){k:Nat}(z:∀j,j<k->jb T j){s:an}(y:s.ak=0)(aB:left T s<=k)(n a:Nat)(H:30*k+10<=n)(K:30*k+10<=a):ed T s (lY T (n+1) s) (iH T (a+1) s):=by
 rcases xu (T:=T) y (x:=[40]) rfl with⟨e,c,i,w⟩|⟨e,c,i⟩
 ·have F:=jN aw bk c;have G:left T (eB (av s))=left T (av s):=rfl;have E:(eB (av s)).ak=0:=y;have v:aZ T (eB (av s)) [41]=bo T (eB (av s)) 4 [41]:=rfl;cases u:bo T (eB (av s)) 4 [41]with
  |true=>
   refine⟨([],(gE T [41] (eB (av s))).2),([],dm T [41] (eB (av s))),by simp[lY,e,i,u],by simp[iH,w,v,u],cB.of (lP (.refl _) rfl) λ_=>rfl,?_⟩;have:=p1 aw (eB (av s)) [41];simp only
   omega
  |false=>
   obtain⟨p,q,g1,g2,g3,g4⟩:=z (k-1) af (eB (av s)) af 0 n a af af af;have:=Dg aw z k n a p.2 q.2 [p.1] [q.1] af af af af g3.st (λaC=>by
    rcases g3 with⟨_,rfl⟩|⟨h,_⟩
    ·rfl
    ·exact absurd aC h)
   have:=this.le (s0:=s) af;simpa [lY,e,i,u,iH,w,v,g1,g2]using this
 ·have o:=i.resolve_left (by rintro⟨h,_⟩;exact c h);have d:(ct T [40] s).ak≠0:=by rw[o.2.1];exact c
  have B:=pO (T:=T) d a 0 af af;have A:∀l,hz T a l (ct T [40] s)=D (l,dm T [41] (ct T [40] s)):=λl=>by
   obtain⟨a,rfl⟩:∃m,a=m+1:=⟨a-1,af⟩;simp[hz,dP d]
  refine⟨([],(cV T [40] s).2),_,by simp[lY,e],by simp only[iH,dP d,aK,B,Option.bind_some,A];rfl,?_,?_⟩
  ·refine .inr ⟨c,?_,?_⟩<;>simp[dm,a_,dP d,eF d,dQ,o.2.1,o.2.2]
  ·simp only[jL c];omega
def E_{T:List Tok}(aw:T.length<=40000000){k:Nat}(E:∀j,j<k->jb T j){lev:Nat}(B:lev<5):∀(c n i:Nat) (s s':an) (e d:aJ),left T s<=c->c<=k->30*c+10<=n->30*c+10<=i->dL s s'->(s.ak=0->d=e)->ed T s (hI T n lev e s) (ig T i lev d s')
 |c,0,i,s,s',e,d,w,x,y,z,l,o=>af
 |c,n+1,0,s,s',e,d,w,x,y,z,l,o=>af
 |c,n+1,i+1,s,s',e,d,w,x,y,z,l,o=>by
  by_cases a:s.ak=0
  ·obtain⟨_,rfl⟩:s.ak=0/\s'=s:=l.resolve_right (by rintro⟨h,_⟩;exact h a);cases o a;have u:=Kw (T:=T) a B;have A:(s'.ak==0)=true:=by simpa using a
   by_cases m:k1 T lev s'=0
   ·have v:(eO lev (al T s'.at_) != 0)=false:=by rw[<-u];simpa using m
    exact⟨(e,s'),(e,s'),by simp[hI,m],by simp[ig,A,v],.inl ⟨a,rfl⟩,bm _⟩
   ·have v:(eO lev (al T s'.at_) != 0)=true:=by rw[<-u];simpa using m
    have H:(al T s'.at_).kind≠0:=by
     intro F;exact m (wT (by rw[F];decide) _)
    have K:=jM aw a H;obtain⟨p,q,g1,g2,g3,g4⟩:=E (c-1) af (av s') af (lev+1) n i af af af;have:=E_ aw E B (c-1) n i p.2 q.2 (.mk {kind:=k1 T lev s',pos:=(al T s'.at_).pos} [e,p.1]) (.mk {kind:=eO lev (al T s'.at_),pos:=(al T s'.at_).pos} [e,q.1]) af af af af g3.st (λaC=>by
     rcases g3 with⟨_,rfl⟩|⟨h,_⟩
     ·rw[u]
     ·exact absurd aC h)
    have:=this.le (s0:=s') af;simpa [hI,m,ig,A,v,g1,g2]using this
  ·have G:s'.ak≠0:=by
    rcases l with⟨h,_⟩|⟨_,h,_⟩
    ·exact absurd h a
    ·rw[h];exact a
   exact⟨(e,s),(d,s'),Fa a (n+1) af lev e,At G (i+1) af lev d,cB.of l λh=>absurd h a,bm _⟩
def Jw{T:List Tok}{s:an}(h:s.ak=0)(e:aJ):cB (hS T e s) (aJ.mk {kind:=5,name:=(bq T (av s)).1,pos:=(al T s.at_).pos} [e],(bq T (av s)).2):=by
 have i:(av s).ak=0:=h;by_cases c:(al T (av s).at_).kind=1
 ·refine Or.inl ⟨?_,?_⟩
  ·have a:((al T (av s).at_).kind != 1)=false:=by simp[c]
   simp only[hS,a,aK];exact h
  ·simp[hS,bq,c,i]
 ·have a:((al T (av s).at_).kind==1)=false:=by simpa using c
  have d:((al T (av s).at_).kind != 1)=true:=by simpa using c
  have j:=jn (T:=T) i 2;refine Or.inr ⟨?_,?_,?_⟩
  ·simp only[hS,d,aR];show(bE T 2 (av s)).ak≠0;rw[j.1];decide
  ·simp only[hS,bq,a,d,aR,Bool.and_false,aK];rfl
  ·simp only[hS,bq,a,d,aR,Bool.and_false,aK];rfl
def KG{T:List Tok}(aw:T.length<=40000000){s:an}(d:s.ak=0)(j:(al T s.at_).kind≠0)(e:aJ):left T (hS T e s).2+1<=left T s:=by
 have k:=jM aw d j;have h:(av s).ak=0:=d;by_cases c:(al T (av s).at_).kind=1
 ·have a:((al T (av s).at_).kind != 1)=false:=by simp[c]
  have:=jM aw h (by rw[c];decide);simp only[hS,a,aK];omega
 ·have a:((al T (av s).at_).kind != 1)=true:=by simpa using c
  have i:(av (bE T 2 (av s))).ak≠0:=by show(bE T 2 (av s)).ak≠0;rw[(jn h 2).1];decide
  simp only[hS,a,aR,jL i];omega
def v8{T:List Tok}(aw:T.length<=40000000){k:Nat}(G:∀j,j<k->jb T j):∀(c n l:Nat) (s s':an) (e o:aJ),left T s<=c->c<=k->30*c+12<=n->30*c+12<=l->dL s s'->(s.ak=0->o=e)->ed T s (fl T n e s) (fC T l o s')
 |c,0,l,s,s',e,o,B,H,K,L,w,E=>af
 |c,n+1,0,s,s',e,o,B,H,K,L,w,E=>af
 |c,n+1,l+1,s,s',e,o,B,H,K,L,w,E=>by
  by_cases a:s.ak=0
  ·obtain⟨_,rfl⟩:s.ak=0/\s'=s:=w.resolve_right (by rintro⟨h,_⟩;exact h a);cases E a;have d:(s'.ak==0)=true:=by simpa using a
   have v:aZ T s' [46]=((al T s'.at_).kind==4&&(al T s'.at_).text==[46]):=by show bo T s' 4 [46]=_;simp only[bo,d,Bool.true_and]
   have z:aZ T s' [91]=((al T s'.at_).kind==4&&(al T s'.at_).text==[91]):=by show bo T s' 4 [91]=_;simp only[bo,d,Bool.true_and]
   cases i:(al T s'.at_).kind==4 with
   |false=>exact⟨(e,s'),(e,s'),by simp[fl,d,i],by simp[fC,v,z,i],.inl ⟨a,rfl⟩,bm _⟩
   |true=>
    have R:(al T s'.at_).kind=4:=by simpa using i
    cases u:(al T s'.at_).text==[46]with
    |true=>
     have W:=KG aw a (by rw[R];decide) e;have aB:=Jw (T:=T) a e;have:=(v8 aw G (c-1) n l _ _ (hS T e s').1 _ af af af af aB.st (λaC=>by
      rcases aB with⟨_,h⟩|⟨h,_⟩
      ·exact congrArg Prod.fst h
      ·exact absurd aC h)).le (s0:=s') af
     simpa [fl,d,i,u,fC,v]using this
    |false=>
     cases y:(al T s'.at_).text==[91]with
     |false=>exact⟨(e,s'),(e,s'),by simp[fl,d,i,u,y],by simp[fC,v,z,i,u,y],.inl ⟨a,rfl⟩,bm _⟩
     |true=>
      obtain⟨n,rfl⟩:∃m,n=m+1:=⟨n-1,af⟩;have S:∀j,j<c->jb T j:=λj V=>G j af
      rcases xR aw S a B (x:=[91]) rfl 0 n l af af af with⟨bz,bH,p,q,bZ,dF,A,ab⟩|⟨bz,bH,bZ,dF,A⟩
      ·have P:=lP (T:=T) (x:=[93]) A.st rfl;have aa:=p1 aw p.2 [93];have:=(v8 aw G (c-1) (n+1) l (gE T [93] p.2).2 (dm T [93] q.2) (.mk {kind:=6,pos:=(al T s'.at_).pos} [e,p.1]) (.mk {kind:=6,pos:=(al T s'.at_).pos} [e,q.1]) af af af af P (λaC=>by
        rcases A with⟨_,rfl⟩|⟨h,_⟩
        ·rfl
        ·exact absurd aC (z_ h _))).le (s0:=s') af
       simpa [fl,d,i,u,y,h7,bz,bZ,fC,v,z,dF]using this
      ·have F:(ct T [91] s').ak≠0:=by rw[bZ];exact bH
       have M:((cV T [91] s').2.ak==0)=false:=by simpa using bH
       have N:(dm T [93] (ct T [91] s'))=dQ (ct T [91] s'):=by simp[dm,a_,dP F,eF F]
       have O:(dQ (ct T [91] s')).ak≠0:=F;refine⟨(.mk {kind:=6,pos:=(al T s'.at_).pos} [e,.zero],(cV T [91] s').2),(.mk {kind:=6,pos:=(al T s'.at_).pos} [e,mM T (ct T [91] s')],dQ (ct T [91] s')),?_,?_,.inr ⟨bH,bZ,dF⟩,?_⟩
       ·simp[fl,d,i,u,y,h7,bz,M]
       ·simp[fC,v,z,i,u,y,A,N,vV O l af]
       ·simp only[jL bH];omega
  ·have Q:s'.ak≠0:=by
    rcases w with⟨h,_⟩|⟨_,h,_⟩
    ·exact absurd h a
    ·rw[h];exact a
   have d:(s.ak==0)=false:=by simpa using a
   exact⟨(e,s),(o,s'),by simp[fl,d],vV Q (l+1) af o,cB.of w λh=>absurd h a,bm _⟩
def ed.pure{α:Type}{T:List Tok}{s:an}{p q:α×an}(h:cB p q)(a:left T p.2<=left T s):ed T s (D p) (D q):=⟨p,q,rfl,rfl,h,a⟩
def ed.map{α β:Type}{T:List Tok}{s:an}{a b:Option (α×an)}(h:ed T s a b)(f:α->β):ed T s (a.bind λp=>D (f p.1,p.2)) (b.bind λp=>D (f p.1,p.2)):=by
 obtain⟨p,q,rfl,rfl,e,i⟩:=h;refine⟨(f p.1,p.2),(f q.1,q.2),rfl,rfl,?_,i⟩;rcases e with⟨h,rfl⟩|⟨h,c,d⟩
 ·exact .inl ⟨h,rfl⟩
 ·exact .inr ⟨h,c,d⟩
def K6{T:List Tok}(aw:T.length<=40000000){k:Nat}(i:∀j,j<k->jb T j){s:an}(a:s.ak=0)(d:(al T s.at_).kind=1)(aB:left T s<=k)(n c:Nat)(u:30*k+9<=n)(v:30*k+9<=c):
  ed T s (oD T (n+1) s) (bif aZ T (bq T s).2 [40]then(iH T (c+1) (bq T s).2).bind λp=>D (.mk {kind:=7,name:=(bq T s).1,pos:=(al T s.at_).pos} p.1,p.2)else D (.mk {kind:=4,name:=(bq T s).1,pos:=(al T s.at_).pos} [],(bq T s).2)):=by
 have h:bq T s=((al T s.at_).text,av s):=by simp[bq,a,d]
 have o:=jM aw a (by rw[d];decide);have e:aZ T (av s) [40]=bo T (av s) 4 [40]:=rfl;rw[h];simp only[oD,e];cases bo T (av s) 4 [40]with
 |true=>
  obtain⟨n,rfl⟩:∃m,n=m+1:=⟨n-1,af⟩;have:=ID aw (k:=k-1) (λj q=>i j af) (s:=av s) a af n c af af;exact(this.map λl=>aJ.mk {kind:=7,name:=(al T s.at_).text,pos:=(al T s.at_).pos} l).le af
 |false=>exact ed.pure (.inl ⟨a,rfl⟩) (by simp only;omega)
def JS{T:List Tok}(aw:T.length<=40000000){k:Nat}(O:∀j,j<k->jb T j){s:an}(o:s.ak=0)(L:(al T s.at_).kind=3)(aB:left T s<=k)(n a:Nat)(W:30*k+9<=n)(aa:30*k+9<=a):
  ed T s (ow T (n+1) s) (kY T (a+1) (al T s.at_).pos (av s)):=by
 have P:=jM aw o (by rw[L];decide);have p:(av s).ak=0:=o;have z:aZ T (av s) [91]=bo T (av s) 4 [91]:=rfl;simp only[ow,kY,z];cases c:bo T (av s) 4 [91]with
 |true=>
  have Q:=jN aw bk c;have v:=of_same T (av (av s));have hw:=qU (T:=T) (x:=[93]) v.st rfl;have S:=wZ aw (av (av s));have V:=p2 aw (dD T (av (av s))).2 [93];simp only[aR];obtain⟨n,rfl⟩:∃m,n=m+1:=⟨n-1,af⟩;obtain⟨a,rfl⟩:∃m,a=m+1:=⟨a-1,af⟩;by_cases aC:(bR T [93] (dD T (av (av s))).2).2.ak=0
  ·have M:(dD T (av (av s))).2.ak=0:=by
    by_cases h:(dD T (av (av s))).2.ak=0
    ·exact h
    ·exact absurd aC (by simp only[bR,gS h,aK,eF h];exact h)
   have w:=(v.resolve_right (by rintro⟨h,_⟩;exact h M)).2;have y:=(hw.resolve_right (by rintro⟨h,_⟩;exact h aC)).2;rw[w]at y;rw[w,y];have:=x5 aw (k:=k-1) (λj R=>O j af) (s:=(bR T [93] (dD T (av (av s))).2).2) aC af n a af af;exact(this.map λe=>aJ.mk {kind:=9,cp:=(dD T (av (av s))).1.1,c2:=(dD T (av (av s))).1.2,pos:=(al T s.at_).pos} [e]).le af
  ·have q:=hw.resolve_left (by rintro⟨h,_⟩;exact aC h);have i:(a_ T [93] (cO T (av (av s))).2).ak≠0:=by rw[q.2.1];exact aC
   have F:(cV T [40] (bR T [93] (dD T (av (av s))).2).2)=(U,(bR T [93] (dD T (av (av s))).2).2):=by simp[cV,gS aC,eF aC]
   have G:ct T [40] (a_ T [93] (cO T (av (av s))).2)=eB (a_ T [93] (cO T (av (av s))).2):=by
    simp only[ct,dP i,Bool.false_and,aK];rw[a_,dP i,aK,eF i]
   have l:(eB (a_ T [93] (cO T (av (av s))).2)).ak≠0:=i;have H:dm T [41] (eB (a_ T [93] (cO T (av (av s))).2))=dQ (eB (a_ T [93] (cO T (av (av s))).2)):=by
    unfold dm;rw[a_,dP l,aK,eF l]
   have N:h7 T (n+1) [40] [41] (bR T [93] (dD T (av (av s))).2).2=D (.zero,(bR T [93] (dD T (av (av s))).2).2):=by simp[h7,F]
   have K:hC T (a+1) (a_ T [93] (cO T (av (av s))).2)=D (mM T (eB (a_ T [93] (cO T (av (av s))).2)),dQ (eB (a_ T [93] (cO T (av (av s))).2))):=by
    simp only[hC,G,pO l a 0 af af,Option.bind_some,H]
   simp only[N,K,Option.bind_some];exact ed.pure (.inr ⟨aC,q.2.1,q.2.2⟩) (by simp only[jL aC];omega)
 |false=>
  simp only[aK];by_cases d:(al T (av s).at_).kind=1
  ·have c:((al T (av s).at_).kind != 1)=false:=by simp[d]
   have:=jM aw p (by rw[d];decide);have A:bq T (av s)=((al T (av s).at_).text,av (av s)):=by simp[bq,p,d]
   simp only[c,aK,A];exact ed.pure (.inl ⟨o,rfl⟩) (by simp only;omega)
  ·have c:((al T (av s).at_).kind==1)=false:=by simpa using d
   have E:((al T (av s).at_).kind != 1)=true:=by simpa using d
   have B:=jn (T:=T) p 2;have u:(av (bE T 2 (av s))).ak≠0:=by show(bE T 2 (av s)).ak≠0;rw[B.1];decide
   simp only[E,aR,bq,c,Bool.and_false,aK];exact ed.pure (.inr ⟨u,rfl,rfl⟩) (by simp only[jL u];omega)
def rF{T:List Tok}{s:an}(a:s.ak=0)(x:aG):aZ T s x=((al T s.at_).kind==kw x&&(al T s.at_).text==x):=by simp[aZ,bo,a]
def KH{T:List Tok}(aw:T.length<=40000000)(s:an)(x:aG):left T (cV T x s).2<=left T s:=by
 cases h:bo T s 4 x with
 |true=>
  simp only[cV,h,aR];split
  ·exact oA s 4
  ·have:=jN aw bk h;have e:left T {s with at_:=eH (s.at_+1),a8:=eH (s.a8+1)}=left T (av s):=rfl;simp only[e];omega
 |false=>simp only[cV,h,aK];exact oA s 2
def LG{T:List Tok}{s:an}(k:s.ak=0):cB (oM T s) (aJ.mk {kind:=11,pos:=(al T s.at_).pos} [],dm T [41] (ct T [40] (av s))):=by
 have l:(av s).ak=0:=k;simp only[oM];rcases xu (T:=T) l (x:=[40]) rfl with⟨c,a,d,j⟩|⟨c,a,d⟩
 ·simp only[c,d,j,aR];exact cB.of (lP (.refl _) rfl) λ_=>rfl
 ·simp only[c,aK];have e:=d.resolve_left (by rintro⟨h,_⟩;exact a h);have i:(ct T [40] (av s)).ak≠0:=by rw[e.2.1];exact a
  refine .inr ⟨a,?_,?_⟩<;>simp[dm,a_,dP i,eF i,dQ,e.2.1,e.2.2]
def KI{T:List Tok}(aw:T.length<=40000000)(s:an):left T (oM T s).2<=left T (av s):=by
 have a:=KH aw (av s) [40];simp only[oM];cases(cV T [40] (av s)).1 with
 |true=>simp only[aR];have:=p1 aw (cV T [40] (av s)).2 [41];omega
 |false=>simp only[aK];omega
def Jz{T:List Tok}{s:an}(d:s.ak=0)(a:(al T s.at_).kind≠1):bq T s=([],bE T 2 s)/\(bE T 2 s).ak≠0:=by
 have c:((al T s.at_).kind==1)=false:=by simpa using a
 exact⟨by simp[bq,c],by rw[(jn d 2).1];decide⟩
def JA{T:List Tok}(aw:T.length<=40000000){k:Nat}(A:∀j,j<k->jb T j){s:an}(a:s.ak=0)(aB:left T s<=k)(n c:Nat)(am:30*k+10<=n)(ao:30*k+10<=c):
  ed T s (jo T (n+1) s) (ih T (c+1) s):=by
 obtain⟨n,rfl⟩:∃m,n=m+1:=⟨n-1,af⟩;obtain⟨c,rfl⟩:∃m,c=m+1:=⟨c-1,af⟩;have ah:(s.ak==0)=true:=by simpa using a
 have l:kw [116,114,117,101]=3:=rfl;have o:kw [102,97,108,115,101]=3:=rfl;have q:kw [110,117,108,108]=3:=rfl;have u:kw [110,101,119]=3:=rfl;have v:kw [108,101,110]=3:=rfl;have w:kw [114,101,97,100]=3:=rfl;have x:kw [40]=4:=rfl;have B:(al T s.at_).kind≠1->ed T s (D (aJ.zero,bE T 2 s)) (bif aZ T (bq T s).2 [40]then(iH T (c+1) (bq T s).2).bind λp=>D (.mk {kind:=7,name:=(bq T s).1,pos:=(al T s.at_).pos} p.1,p.2)else D (.mk {kind:=4,name:=(bq T s).1,pos:=(al T s.at_).pos} [],(bq T s).2)):=by
  intro d;obtain⟨P,E⟩:=Jz (T:=T) a d;rw[P];simp only[dP E,aK];exact ed.pure (.inr ⟨E,rfl,rfl⟩) (oA s 2)
 by_cases y:(al T s.at_).kind=2
 ·have:=jM aw a (by rw[y];decide);simp only[jo,ih,a,y,ne_eq,not_true,if_false,if_true,beq_self_eq_true,Bool.and_self,aR];exact ed.pure (.inl ⟨a,rfl⟩) (by simp only;omega)
 have O:((al T s.at_).kind==2)=false:=by simpa using y
 by_cases d:(al T s.at_).kind=1
 ·have:=K6 aw A a d aB n c af af;have V:((1:Int)==3)=false:=rfl;have ad:((1:Int)==4)=false:=rfl;have R:((1:Int)==2)=false:=rfl;have Q:¬((1:Int)=2):=bk;simpa only[jo,ih,a,d,Q,ne_eq,not_true,if_false,if_true,beq_self_eq_true,Bool.and_false,Bool.true_and,V,ad,R,aK,rF a,l,o,q,u,v,w,x,Bool.false_and,Bool.or_self,or_true,true_or]using this
 by_cases z:(al T s.at_).kind=4
 ·have G:((4:Int)==3)=false:=rfl;have F:((4:Int)==2)=false:=rfl;have H:¬((4:Int)=2):=bk;have K:¬((4:Int)=1):=bk;have L:((4:Int)=3\/(4:Int)=4):= .inr rfl;cases N:(al T s.at_).text==[40]with
  |true=>
   have:=x5 aw A a aB n c af af;simpa only[jo,ih,a,z,H,K,L,G,F,N,ne_eq,not_true,if_false,if_true,beq_self_eq_true,Bool.and_false,Bool.true_and,aK,aR,rF a,l,o,q,u,v,w,x,Bool.false_and,Bool.or_self,or_true,true_or]using this
  |false=>
   have:=B d;simpa only[jo,ih,a,z,H,K,L,G,F,N,ne_eq,not_true,if_false,if_true,beq_self_eq_true,Bool.and_false,Bool.true_and,aK,aR,rF a,l,o,q,u,v,w,x,Bool.false_and,Bool.or_self,or_true,true_or]using this
 by_cases i:(al T s.at_).kind=3
 ·have ai:=jM aw a (by rw[i];decide);have ag:(av s).ak=0:=a;have ae:((3:Int)==4)=false:=rfl;have S:((3:Int)==2)=false:=rfl;have W:¬((3:Int)=2):=bk;have aa:¬((3:Int)=1):=bk;have ab:((3:Int)=3\/(3:Int)=4):= .inl rfl;simp only[jo,ih,a,i,W,aa,ab,ae,S,ne_eq,not_true,if_false,if_true,beq_self_eq_true,Bool.and_false,Bool.true_and,aK,aR,rF a,l,o,q,u,v,w,x,Bool.false_and];cases t1:(al T s.at_).text==[116,114,117,101]||(al T s.at_).text==[102,97,108,115,101]with
  |true=>simp only[aR];exact ed.pure (.inl ⟨a,rfl⟩) (by simp only[yl];omega)
  |false=>
   cases t2:(al T s.at_).text==[110,117,108,108]with
   |true=>
    simp only[aR,aK];have M:=of_same T (av s);refine ed.pure ?_ (by have:=wZ aw (av s);simp only[xm];omega);refine cB.of M.st λh=> ?_
    rw[(M.resolve_right (by rintro⟨a1,_⟩;exact a1 h)).2]
   |false=>
    cases t3:(al T s.at_).text==[110,101,119]with
    |true=>simp only[aR,aK];exact JS aw A a i aB n c af af
    |false=>
     cases t4:(al T s.at_).text==[108,101,110]with
     |true=>
      simp only[aR,aK];have:=x5 aw (k:=k-1) (λj aj=>A j af) (s:=av s) ag af n c af af;exact(this.map λe=>aJ.mk {kind:=10,pos:=(al T s.at_).pos} [e]).le af
     |false=>
      cases t5:(al T s.at_).text==[114,101,97,100]with
      |true=>
       simp only[aR,aK];exact ed.pure (LG a) (by have:=KI aw s;omega)
      |false=>simp only[aK];exact B d
 ·have b3:((al T s.at_).kind==3)=false:=by simpa using i
  have cK:((al T s.at_).kind==4)=false:=by simpa using z
  have:=B d;simpa only[jo,ih,a,d,y,i,z,O,b3,cK,ne_eq,not_true,if_false,if_true,beq_self_eq_true,Bool.and_false,Bool.true_and,aK,aR,rF a,l,o,q,u,v,w,x,Bool.false_and,Bool.or_self,or_self]using this
def PW{T:List Tok}(aw:T.length<=40000000){k:Nat}(o:∀j,j<k->jb T j){s:an}(w:s.ak=0)(aB:left T s<=k)(n a:Nat)(H:30*k+14<=n)(K:30*k+14<=a):
  ed T s (kG T n s) (j4 T a s):=by
 obtain⟨n,rfl⟩:∃m,n=m+1:=⟨n-1,af⟩;obtain⟨a,rfl⟩:∃m,a=m+1:=⟨a-1,af⟩;have z:aZ T s [45]=bo T s 4 [45]:=rfl;have A:aZ T s [33]=bo T s 4 [33]:=rfl;have y:∀(x:aG) (u:Int),kw x=4->bo T s 4 x=X->ed T s (nP T n x u s) (lC T a u s):=by
  intro x u G E;obtain⟨n,rfl⟩:∃m,n=m+1:=⟨n-1,af⟩;obtain⟨a,rfl⟩:∃m,a=m+1:=⟨a-1,af⟩;have F:(al T s.at_).text=x:=(k0 E).2.2;simp only[nP,lC,F];rcases xR aw o w aB G 5 (n+1) a af af af with⟨i,l,p,q,d,e,c,v⟩|⟨i,l,d,e,c⟩
  ·have B:kG T n (cV T x s).2=D p:=by rw[fJ]at d;exact d
   simp only[i,B,e,Option.bind_some,aR];refine ed.pure ?_ (by rw[w1];omega);refine cB.of c.st.out λh=> ?_
   rw[(c.resolve_right (by rintro⟨a1,_⟩;exact a1 h)).2]
  ·simp only[i,c,Option.bind_some,aK];exact ed.pure (.inr ⟨l,d,e⟩) (by simp only[jL l];omega)
 simp only[kG,j4,z,A];cases i1:bo T s 4 [45]with
 |true=>simp only[aR];exact y [45] 12 rfl i1
 |false=>
  cases i2:bo T s 4 [33]with
  |true=>simp only[aR,aK];exact y [33] 13 rfl i2
  |false=>
   simp only[aK];obtain⟨n,rfl⟩:∃m,n=m+2:=⟨n-2,af⟩;obtain⟨a,rfl⟩:∃m,a=m+1:=⟨a-1,af⟩;obtain⟨p,q,d,e,c,v⟩:=JA aw o w aB n a af af;have:=(v8 aw o k (n+1) (a+1) p.2 q.2 p.1 q.1 af af af af c.st (λh=>by
    rw[(c.resolve_right (by rintro⟨a1,_⟩;exact a1 h)).2])).le v
   rw[mL];simpa only[d,e,Option.bind_some]using this
def Fb{T:List Tok}(aw:T.length<=40000000){k:Nat}(c:∀j,j<k->jb T j){s:an}(d:s.ak=0)(aB:left T s<=k):∀(j lev n a:Nat),lev+j=5->30*k+20<=n+lev->30*k+20<=a+lev->ed T s (fJ T n lev s) (eA T a lev s)
 |0,lev,n,a,i,l,o=>by
  obtain rfl:lev=5:=af;obtain⟨n,rfl⟩:∃m,n=m+1:=⟨n-1,af⟩;obtain⟨a,rfl⟩:∃m,a=m+1:=⟨a-1,af⟩;simp only[fJ,eA,if_true];exact PW aw c d aB n a af af
 |j+1,lev,n,a,i,l,o=>by
  have e:¬lev=5:=af;obtain⟨n,rfl⟩:∃m,n=m+1:=⟨n-1,af⟩;obtain⟨a,rfl⟩:∃m,a=m+1:=⟨a-1,af⟩;obtain⟨p,q,g1,g2,g3,g4⟩:=Fb aw c d aB j (lev+1) n a af af af;have:=(E_ aw c (lev:=lev) af k n a p.2 q.2 p.1 q.1 af af af af g3.st (λh=>by
   rw[(g3.resolve_right (by rintro⟨a1,_⟩;exact a1 h)).2])).le g4
  simpa only[fJ,eA,e,if_false,g1,g2,Option.bind_some]using this
def xS{T:List Tok}(aw:T.length<=40000000):∀k,jb T k:=by
 intro k
 induction k using Nat.strongRecOn with
 |_ k i=>
  intro s aB lev n c d e h;by_cases a:s.ak=0
  ·exact Fb aw i a aB (5-lev) lev n c af e h
  ·exact LZ a lev n c d af af
def bK.cells(a:bK)(kv:ad):List ad:=[I J a.kind,I J a.n,Y a.name,Y a.cp,I J a.c2,kv,I J a.pos,I J a.u2,I J a.Gr,I J a.qO,I J a.ref]
mutual
def cJ(H:ae)(ok:Nat->Prop):aJ->ad->Prop
 | .mk a ks,v=>∃kv,v= .agg (a.cells kv)/\((kv= .az/\ks.length=0)\/(∃l i cap ro els,kv= .aD l i ks.length 11 cap/\ok l/\H.get l=D (.row ro 11 els)/\dv H ok ks (els.drop i))\/∃l i cap,kv= .aD l i 0 11 cap/\ks.length=0)
def dv(H:ae)(ok:Nat->Prop):List aJ->List (List ad)->Prop
 |[],_=>True
 |e::es,[]=>False
 |e::es,cs::css=>cJ H ok e (.agg cs)/\dv H ok es css
end
def ck(H:ae)(ok:Nat->Prop)(ks:List aJ)(kv:ad):Prop:=(kv= .az/\ks.length=0)\/(∃l i cap ro els,kv= .aD l i ks.length 11 cap/\ok l/\H.get l=D (.row ro 11 els)/\dv H ok ks (els.drop i))\/∃l i cap,kv= .aD l i 0 11 cap/\ks.length=0
def hQ{H:ae}{ok:Nat->Prop}{a:bK}{ks:List aJ}{v:ad}:cJ H ok (.mk a ks) v↔∃kv,v= .agg (a.cells kv)/\ck H ok ks kv:=by
 rw[cJ];rfl
def dp(H:ae)(ok:Nat->Prop)(H':ae)(ok':Nat->Prop):Prop:=∀l ro els,ok l->H.get l=D (.row ro 11 els)->ok' l/\H'.get l=D (.row ro 11 els)
mutual
def cJ.aW{H H':ae}{ok ok':Nat->Prop}(p:dp H ok H' ok'):∀(e:aJ) (v:ad),cJ H ok e v->cJ H' ok' e v
 | .mk a ks,v,h=>by
  rw[cJ]at h ⊢;obtain⟨kv,n,c⟩:=h;refine⟨kv,n,?_⟩;rcases c with c|⟨l,i,cap,ro,els,d,j,k,m⟩|c
  ·exact .inl c
  ·obtain⟨aT,o⟩:=p l ro els j k;exact .inr (.inl ⟨l,i,cap,ro,els,d,aT,o,dv.aW p ks _ m⟩)
  ·exact .inr (.inr c)
def dv.aW{H H':ae}{ok ok':Nat->Prop}(p:dp H ok H' ok'):∀(es:List aJ) (cs:List (List ad)),dv H ok es cs->dv H' ok' es cs
 |[],_,_=>by rw[dv];trivial
 |e::es,[],h=>by rw[dv]at h;exact h.elim
 |e::es,cs::css,h=>by
  rw[dv]at h ⊢;exact⟨cJ.aW p e _ h.1,dv.aW p es css h.2⟩
end
def ck.aW{H H':ae}{ok ok':Nat->Prop}(p:dp H ok H' ok'){ks:List aJ}{v:ad}(h:ck H ok ks v):ck H' ok' ks v:=by
 rcases h with a|⟨l,i,cap,ro,els,c,d,e,j⟩|a
 ·exact .inl a
 ·obtain⟨aT,k⟩:=p l ro els d e;exact .inr (.inl ⟨l,i,cap,ro,els,c,aT,k,dv.aW p ks _ j⟩)
 ·exact .inr (.inr a)
def dp.mut{r:Nat}{H H':ae}{ok ok':Nat->Prop}(m:ca r H H')(c:¬ok r)(a:∀l,ok l->ok' l):dp H ok H' ok':=λl ro els h e=>⟨a l h,m.get e (by rintro rfl;exact c h)⟩
def dp.aL{H H':ae}{ok ok':Nat->Prop}(m:aP H H')(a:∀l,ok l->ok' l):dp H ok H' ok':=λl ro els h e=>⟨a l h,m.get e⟩
def bn(n:Nat):Nat->Prop:=λl=>n<=l
def cJ.agg{H:ae}{ok:Nat->Prop}{e:aJ}{v:ad}(h:cJ H ok e v):∃k n cq o d kv p t1 t2 t3 m,v= .agg [I J k,I J n,Y cq,Y o,I J d,kv,I J p,I J t1,I J t2,I J t3,I J m]/\kv.one=true:=by
 cases e with|mk a ks=>
 rw[hQ]at h;obtain⟨kv,c,j⟩:=h;refine⟨_,_,_,_,_,kv,_,_,_,_,_,c,?_⟩;rcases j with⟨rfl,_⟩|⟨l,i,cap,ro,els,rfl,_⟩|⟨l,i,cap,rfl,_⟩<;>rfl
def cJ.leaf(H:ae)(ok:Nat->Prop)(a:bK):cJ H ok (.mk a []) (.agg (a.cells .az)):=by
 rw[hQ];exact⟨_,rfl,.inl ⟨rfl,rfl⟩⟩
def j1(l:Nat)(cs:List ad)(h:cs.length=11)(a:cs.all ad.one=X):b6 P l 41 1 [(0,.agg cs)]=D (.aD l 0 1 11 (D 1),.row U 11 [cs]):=by
 have:b6 P l 41 1 [(0,.agg cs)]=(je 11 (List.replicate 1 [I J 0,I J 0,Y [],Y [],I J 0,.az,I J 0,I J 0,I J 0,I J 0,I J 0]) [(0,.agg cs)]).bind λels=>D (.aD l 0 1 11 (D 1),.row U 11 els):=ah
 rw[this];simp[je,ad.cells,h,a]
def x6(l:Nat)(cs a:List ad)(h:cs.length=11)(c:cs.all ad.one=X)(a1:a.length=11)(d:a.all ad.one=X):b6 P l 41 2 [(0,.agg cs),(1,.agg a)]=D (.aD l 0 2 11 (D 2),.row U 11 [cs,a]):=by
 have:b6 P l 41 2 [(0,.agg cs),(1,.agg a)]=(je 11 (List.replicate 2 [I J 0,I J 0,Y [],Y [],I J 0,.az,I J 0,I J 0,I J 0,I J 0,I J 0]) [(0,.agg cs),(1,.agg a)]).bind λels=>D (.aD l 0 2 11 (D 2),.row U 11 els):=ah
 rw[this];have e:List.replicate 2 [ad.int J 0,I J 0,Y [],Y [],I J 0,.az,I J 0,I J 0,I J 0,I J 0,I J 0]=[[ad.int J 0,I J 0,Y [],Y [],I J 0,.az,I J 0,I J 0,I J 0,I J 0,I J 0],[ad.int J 0,I J 0,Y [],Y [],I J 0,.az,I J 0,I J 0,I J 0,I J 0,I J 0]]:=rfl;rw[e];simp[je,ad.cells,h,c,a1,d]
def dp.push{H:ae}{ok ok':Nat->Prop}(b:bW)(a:∀l,ok l->ok' l):dp H ok (H.push b) ok':=dp.aL (aP.push H b) a
def dp.set{H:ae}{ok ok':Nat->Prop}{l:Nat}(b:bW)(h:¬ok l)(c:∀l,ok l->ok' l):dp H ok (H.set l b) ok':=λj ro els a e=>⟨c j a,by rw[ae.get_set_other (by rintro rfl;exact h a)];exact e⟩
def dp.lU{H:ae}{ok ok':Nat->Prop}(h:∀l,ok l->ok' l):dp H ok H ok':=λl ro els a e=>⟨h l a,e⟩
def cJ.cells{H:ae}{ok:Nat->Prop}{e:aJ}{v:ad}(h:cJ H ok e v):∃cs,v= .agg cs/\cs.length=11/\cs.all ad.one=true:=by
 obtain⟨k,n,cq,o,d,kv,p,t1,t2,t3,c,rfl,a⟩:=h.agg;exact⟨_,rfl,rfl,by simp only[List.all_cons,List.all_nil,hF,h0,a,Bool.and_self]⟩
def cJ.same{H:ae}{ok:Nat->Prop}{e:aJ}{v:ad}(h:cJ H ok e v):bh (D v) v=true:=by
 cases e with|mk a ks=>
 rw[hQ]at h;obtain⟨kv,rfl,c⟩:=h;have:ad.beq kv kv=true:=by rcases c with⟨rfl,_⟩|⟨l,i,cap,ro,els,rfl,_⟩|⟨l,i,cap,rfl,_⟩<;>simp[ad.beq]
 simp[bh,ad.beq,gA.beq,bK.cells,this]
def vt(ok:Nat->Prop)(H:ae)(r:Nat)(T:List Tok)(au cD:ad)(e:aJ)(s':an)(v:ad)(H':ae):Prop:=ca r H H'/\ka H' r T au cD s'/\cJ H' ok e v
abbrev q6(H:ae):=vt (bn H.next) H
def q6.box{H c:ae}{r:Nat}{T:List Tok}{au cD:ad}{s s':an}{a:bK}{ks:List aJ}{kv:ad}{b:Nat}{lo:Nat}(h:ka H r T au cD s)(m:ca r H c)(e:jD c r au cD s')(i:H.next<=b)(n:b<lo)(j:ck c (bn lo) ks kv)(d:bW):
  q6 H r T au cD (.mk a ks) s' (.agg (a.cells kv)) (c.set b d):=by
 have k:=h.rd.lt;have m':=m.cW (.inr i) d;refine⟨m',h.mut m' ?_,?_⟩
 ·unfold jD at e ⊢;rw[ae.get_set_other af];exact e
 ·rw[hQ];exact⟨kv,rfl,j.aW (dp.set _ (by unfold bn;omega) λl k=>by unfold bn at*;omega)⟩
def ck.nil(H:ae)(ok:Nat->Prop):ck H ok [] .az:= .inl ⟨rfl,rfl⟩
def vt.fin{ok:Nat->Prop}{H bP:ae}{r:Nat}{T:List Tok}{au cD:ad}{s s':an}{a:bK}{ks:List aJ}{kv:ad}(e:ka H r T au cD s)(m:ca r H bP)(c:jD bP r au cD s')(d:ck bP ok ks kv):vt ok H r T au cD (.mk a ks) s' (.agg (a.cells kv)) bP:=
 ⟨m,e.mut m c,hQ.2 ⟨kv,rfl,d⟩⟩
def ck.oH{H:ae}{ok:Nat->Prop}{L:Nat}{e:aJ}{cs:List ad}{cap:Option Nat}{ro:Bool}(a:H.get L=D (.row ro 11 [cs]))(c:ok L)(h:cJ H ok e (.agg cs)):ck H ok [e] (.aD L 0 1 11 cap):=by
 refine .inr (.inl ⟨L,0,cap,ro,[cs],rfl,c,a,?_⟩);simp only[List.drop_zero];rw[dv,dv];exact⟨h,trivial⟩
def ck.yq{H:ae}{ok:Nat->Prop}{L:Nat}{e f:aJ}{cs a:List ad}{cap:Option Nat}{ro:Bool}(c:H.get L=D (.row ro 11 [cs,a]))(d:ok L)(h:cJ H ok e (.agg cs))(a1:cJ H ok f (.agg a)):ck H ok [e,f] (.aD L 0 2 11 cap):=by
 refine .inr (.inl ⟨L,0,cap,ro,[cs,a],rfl,d,c,?_⟩);simp only[List.drop_zero];rw[dv,dv,dv];exact⟨h,a1,trivial⟩
def cJ.mut{H H':ae}{ok ok':Nat->Prop}{r:Nat}{e:aJ}{v:ad}(h:cJ H ok e v)(m:ca r H H')(c:¬ok r)(a:∀l,ok l->ok' l):cJ H' ok' e v:=cJ.aW (dp.mut m c a) e v h
def cJ.new{H H':ae}{ok:Nat->Prop}{n:Nat}{e:aJ}{v:ad}(h:cJ H (bn n) e v)(m:c7 (· <n) H H')(c:∀l,n<=l->ok l):cJ H' ok e v:=
 cJ.aW (λl ro els a g=>⟨c l a,m.get g (Nat.not_lt.2 a)⟩) e v h
def fy(n:Nat):Prop:=∀{H:ae} {r:Nat} {T:List Tok} {au cD:ad} {s:an},ka H r T au cD s->cD≠ .az->∀(lev:Nat),lev<=5->∀(e:aJ) (s':an),fJ T n lev s=D (e,s')->W (aE P aA 165 [.ptr r 0 0,I J lev] H) (q6 H r T au cD e s')
def q6.ret{H a:ae}{r:Nat}{T:List Tok}{au cD:ad}{s s':an}{e:aJ}{v:ad}{b n:Nat}(i:ka H r T au cD s)(m:ca r H a)(d:jD a r au cD s')(j:H.next<=b)(he:cJ a (bn n) e v)(k:b<n)(c:bW):q6 H r T au cD e s' v (a.set b c):=by
 have o:=i.rd.lt;have m':=m.cW (.inr j) c;refine⟨m',i.mut m' ?_,he.new (c7.cW (S:=(· <n)) (c7.refl _ _) (.inl k) _) λl h=>by unfold bn;omega⟩;unfold jD at d ⊢;rw[ae.get_set_other af];exact d
def dv.append{H:ae}{ok:Nat->Prop}:∀(es:List aJ) (cs:List (List ad)) (e:aJ) (c:List ad),dv H ok es cs->cs.length=es.length->cJ H ok e (.agg c)->dv H ok (es++[e]) (cs++[c])
 |[],[],e,c,_,_,h=>by
  simp only[List.nil_append];rw[dv,dv];exact⟨h,trivial⟩
 |[],_::_,e,c,_,a,_=>by simp at a
 |_::_,[],e,c,h,_,_=>by rw[dv]at h;exact h.elim
 |i::es,d::cs,e,c,h,a,he=>by
  rw[dv]at h;simp only[List.cons_append];rw[dv];exact⟨h.1,dv.append es cs e c h.2 (by simpa using a) he⟩
def GV:P.underlying 41=D (.slice 45):=ah
def zU:hO P 45=D 120:=ah
def zj:eU P 45=D (.agg [I J 0,I J 0,Y [],Y [],I J 0,.az,I J 0,I J 0,I J 0,I J 0,I J 0]):=ah
def Iq{H:ae}{L:Nat}{cs:List ad}{cap:Option Nat}{ro:Bool}(a:H.get L=D (.row ro 11 [cs])):c0 P H [41,41] .az (.aD L 0 1 11 cap)=D (.aD H.next 0 1 11 Z,H.push (.row U 11 [cs])):=by
 simp[c0,hU,jF,dK,GV,u3,zU,zj,ie,eJ,a,ad.cells]
def Ir{H:ae}{L l n:Nat}{cs:List ad}{els:List (List ad)}{cap:Option Nat}{ro:Bool}(d:H.get L=D (.row ro 11 [cs]))(e:H.get l=D (.row U 11 els))(h:els.length=n)(i:n<=1000000000):c0 P H [41,41] (.aD l 0 n 11 Z) (.aD L 0 1 11 cap)=D (.aD H.next 0 (n+1) 11 Z,(H.set l .dead).push (.row U 11 (els++[cs]))):=by
 have a:(n+1)*120<=140737488355328:=af;have c:n+1<=9223372036854775807:=af;simp[c0,hU,jF,dK,GV,u3,zU,zj,ie,eJ,d,e,ad.cells,h,a,c];rw[List.take_of_length_le af]
def fn(n:Nat):ad:= .func (.func n) [] []
def lE(at_ a8:Int):an:=⟨at_,if a8<0 then 0 else a8,0,0⟩
