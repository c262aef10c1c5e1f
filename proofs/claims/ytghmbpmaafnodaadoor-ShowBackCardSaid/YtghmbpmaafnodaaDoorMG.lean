/-
  Texts of one proof, laid together: L3 L4 ShL A1 Sr Z1 Z2 Z3 Z4 Z5 Z6 Z7 Z8 Z9 Z10 Z11 X2 X3 X4 X5 X6 X7 X8 X9 X10.
-/
import Derived.Test.YtghmbpmaafnodaaDoorMF
set_option linter.unusedVariables false
set_option linter.unusedSimpArgs false
set_option linter.defProp false
open Option renaming some→D,none→C
open Bool renaming true→X,false→U
open Go.bn.aa renaming int→I,str→Z
open Go.IntKind renaming i64→J
namespace Go.Proofs.YtghmbpmaafnodaaDoor
open Go.bn
open Nat (reduceAdd reduceLeDiff)
def yi(k:Int)(x:aC)(p:Int):cS P 61 [(0,I J k),(1,Z x),(3,I J p)]=D (.agg [I J k,Z x,I J 0,I J p]):=ah
def vk(k:Int)(z:Int)(p:Int):cS P 61 [(0,I J k),(2,I J z),(3,I J p)]=D (.agg [I J k,Z [],I J z,I J p]):=ah
def Mx(k:Int)(p:Int):cS P 61 [(0,I J k),(3,I J p)]=D (.agg [I J k,Z [],I J 0,I J p]):=ah
def Aq(d:Bool):∀s:aC,runN d s<=s.length
 |[]=>bo _
 |c::r=>by
  rw[runN];have:=Aq d r;cases dv c||(!d&&dn c)with
  |true=>simp only[aS,List.length_cons];omega
  |false=>simp only[aN,List.length_cons];omega
def zK(p:Nat):Option (Int×aC×Int×Nat)->aa
 |none=> .tuple [.agg [I J 0,Z [],I J 0,I J 0],I J 0]
 |some (k,t,v,m)=> .tuple [.agg [I J k,Z t,I J v,I J p],I J m]
def PS{H:af}{s:aC}(ar:s.length<=1000000000000000000){at_:Nat}(Q:at_<s.length):W (aI P aB 39 [Z s,I J at_] H) λv H'=>v=zK at_ (hr (s.drop at_))/\aU H H':=by
 refine cO (λ_=>Rp 0) ?_;obtain⟨c,r,u⟩:∃c r,s.drop at_=c::r:=by
  cases h:s.drop at_ with
  |nil=>have:=drop_nil h;omega
  |cons c r=>exact⟨c,r,rfl⟩
 obtain⟨aq,aH,bu,cq⟩:=drop_cons u;have l:=lC aq;have q:=aU.push H (.row U 4 [[I J 0,Z [],I J 0,I J 0]]);have N:=λd=>Aq d (s.drop at_)
 have S:(s.drop at_).length=s.length-at_:=by simp
 simp-implicitDefEqProofs(disch:=try exact ak)only[fT,reduceAdd,reduceLeDiff,reduceIte,az,l];refine oy (r7 _) ?_;cases M:ml (c.toNat:Int)with
 |true=>
  simp-implicitDefEqProofs(disch:=try exact ak)only[fT,bg,bG];refine oy (IS ar at_ ae U) ?_;have T:=N U;have n:=uR (s:=s) (a:=at_) (b:=at_+runN U (s.drop at_)) ae ae;rw[Nat.add_sub_cancel_left]at n;simp-implicitDefEqProofs(disch:=try exact ak)only[fT,bg,bG,c3,nd,n];refine aW (BF _) ?_;rintro _ A ⟨rfl,e⟩;refine⟨e.1,?_⟩;have g2:A.get H.next=D (.row U 4 [[I J 0,Z [],I J 0,I J 0]]):=e.get (af.bY _ _)
  have V:=af.a6 g2;have k:hr (s.drop at_)=(bif gk ((s.drop at_).take (runN U (s.drop at_)))then D (3,(s.drop at_).take (runN U (s.drop at_)),0,runN U (s.drop at_))else bif ek ((s.drop at_).take (runN U (s.drop at_)))then D (1,(s.drop at_).take (runN U (s.drop at_)),0,runN U (s.drop at_))else C):=by
   have w:dn c=true:=M;simp only[u,hr,w,aS]
  cases hw:gk ((s.drop at_).take (runN U (s.drop at_)))with
  |true=>
   rw[k,hw];simp-implicitDefEqProofs(disch:=try exact ak)only[fT,reduceAdd,reduceLeDiff,reduceIte,az,yi,g2];exact a_.2 ⟨rfl,(q.trans e).db (bo _) _⟩
  |false=>
   rw[k,hw];simp-implicitDefEqProofs(disch:=try exact ak)only[fT,bg,bG];refine aW (Lf (by simp only[List.length_take];omega)) ?_;rintro _ ab ⟨rfl,x⟩;refine⟨x.1,?_⟩;have g3:=x.get g2;have ea:=af.a6 g3;cases ah:ek ((s.drop at_).take (runN U (s.drop at_)))with
   |true=>
    simp-implicitDefEqProofs(disch:=try exact ak)only[fT,reduceAdd,reduceLeDiff,reduceIte,az,yi,g3];exact a_.2 ⟨rfl,((q.trans e).trans x).db (bo _) _⟩
   |false=>
    simp-implicitDefEqProofs(disch:=try exact ak)only[fT,reduceAdd,reduceLeDiff,reduceIte,az,g3];exact a_.2 ⟨rfl,((q.trans e).trans x).db (bo _) _⟩
 |false=>
  simp-implicitDefEqProofs(disch:=try exact ak)only[fT,bg,bG,l];refine oy (yw _) ?_;have w:dn c=false:=M;have g1:(H.push (.row U 4 [[I J 0,Z [],I J 0,I J 0]])).get H.next=D (.row U 4 [[I J 0,Z [],I J 0,I J 0]]):=af.bY _ _
  cases L:oH (c.toNat:Int)with
  |true=>
   have E:dv c=true:=L;simp-implicitDefEqProofs(disch:=try exact ak)only[fT,bg,bG];refine oy (IS ar at_ ae X) ?_;have T:=N X;have n:=uR (s:=s) (a:=at_) (b:=at_+runN X (s.drop at_)) ae ae;rw[Nat.add_sub_cancel_left]at n;simp-implicitDefEqProofs(disch:=try exact ak)only[fT,bg,bG,c3,nd,n];refine oy (Vl (by simp only[List.length_take];omega) (λc R=>IK _ c R)) ?_;have k:hr (s.drop at_)=(match iL 0 ((s.drop at_).take (runN X (s.drop at_)))with
    |none=>C
    |some v=>bif (decide (1<runN X (s.drop at_))&&c.toNat==48)||(decide (runN X (s.drop at_)<(s.drop at_).length)&&dn (((s.drop at_)[runN X (s.drop at_)]?).getD 0))then C else D (2,[],v,runN X (s.drop at_))):=by
    simp only[u,hr,w,E,aS,aN]<;>rfl
   rw[k];cases ai:iL 0 ((s.drop at_).take (runN X (s.drop at_)))with
   |none=>
    simp-implicitDefEqProofs(disch:=try exact ak)only[fT,reduceAdd,reduceLeDiff,reduceIte,az,Bool.not_false,g1];exact a_.2 ⟨rfl,aU.push _ _⟩
   |some z=>
    generalize ag:runN X (s.drop at_)=ad at*;have bb:decide (1<ad)=decide ((1:Int)<(ad:Int)):=by rw[decide_eq_decide];omega
    have K:((c.toNat:Int)==48)=(c.toNat==48):=by rw[Bool.eq_iff_iff];simp;omega
    have aa:decide (ad<(s.drop at_).length)=decide (((at_+ad:Nat):Int)<(s.length:Int)):=by rw[decide_eq_decide,S];omega
    rw[bb,aa];simp only
    cases m:decide ((1:Int)<(ad:Int))with
    |true=>
     cases B:c.toNat==48 with
     |true=>
      simp-implicitDefEqProofs(disch:=try exact ak)only[fT,reduceAdd,reduceLeDiff,reduceIte,az,Bool.not_true,m,l,K,B,g1];exact a_.2 ⟨rfl,aU.push _ _⟩
     |false=>
      cases i:decide (((at_+ad:Nat):Int)<(s.length:Int))with
      |false=>
       simp-implicitDefEqProofs(disch:=try exact ak)only[fT,reduceAdd,reduceLeDiff,reduceIte,az,Bool.not_true,m,l,K,B,nd,i,g1,vk];exact a_.2 ⟨rfl,aU.push _ _⟩
      |true=>
       obtain⟨y,o⟩:∃y,s[at_+ad]? =D y:=⟨s[at_+ad]'(by have:=of_decide_eq_true i;omega),by simp⟩;have F:=lC o;have G:(s.drop at_)[ad]? =D y:=by rw[List.getElem?_drop];exact o
       simp-implicitDefEqProofs(disch:=try exact ak)only[fT,reduceAdd,reduceLeDiff,reduceIte,az,Bool.not_true,m,l,K,B,nd,i,F];refine rq (r7 _) ?_;rw[G];cases p:ml (y.toNat:Int)with
       |true=>
        have j:dn y=true:=p;simp-implicitDefEqProofs(disch:=try exact ak)only[fT,reduceAdd,reduceLeDiff,reduceIte,az,g1,Option.getD_some,j];exact a_.2 ⟨rfl,aU.push _ _⟩
       |false=>
        have j:dn y=false:=p;simp-implicitDefEqProofs(disch:=try exact ak)only[fT,reduceAdd,reduceLeDiff,reduceIte,az,g1,vk,Option.getD_some,j];exact a_.2 ⟨rfl,aU.push _ _⟩
    |false=>
     cases i:decide (((at_+ad:Nat):Int)<(s.length:Int))with
     |false=>
      simp-implicitDefEqProofs(disch:=try exact ak)only[fT,reduceAdd,reduceLeDiff,reduceIte,az,Bool.not_true,m,nd,i,g1,vk];exact a_.2 ⟨rfl,aU.push _ _⟩
     |true=>
      obtain⟨y,o⟩:∃y,s[at_+ad]? =D y:=⟨s[at_+ad]'(by have:=of_decide_eq_true i;omega),by simp⟩;have F:=lC o;have G:(s.drop at_)[ad]? =D y:=by rw[List.getElem?_drop];exact o
      simp-implicitDefEqProofs(disch:=try exact ak)only[fT,reduceAdd,reduceLeDiff,reduceIte,az,Bool.not_true,m,nd,i,F];refine rq (r7 _) ?_;rw[G];cases p:ml (y.toNat:Int)with
      |true=>
       have j:dn y=true:=p;simp-implicitDefEqProofs(disch:=try exact ak)only[fT,reduceAdd,reduceLeDiff,reduceIte,az,g1,Option.getD_some,j];exact a_.2 ⟨rfl,aU.push _ _⟩
      |false=>
       have j:dn y=false:=p;simp-implicitDefEqProofs(disch:=try exact ak)only[fT,reduceAdd,reduceLeDiff,reduceIte,az,g1,vk,Option.getD_some,j];exact a_.2 ⟨rfl,aU.push _ _⟩
  |false=>
   have E:dv c=false:=L;simp-implicitDefEqProofs(disch:=try exact ak)only[fT,bg,bG];refine aW (Ui ar Q) ?_;rintro _ A ⟨rfl,e⟩;refine⟨e.1,?_⟩;have g2:A.get H.next=D (.row U 4 [[I J 0,Z [],I J 0,I J 0]]):=e.get (af.bY _ _)
   have V:=af.a6 g2;have k:hr (s.drop at_)=(bif ih (s.drop at_)==[]then C else D (4,ih (s.drop at_),0,(ih (s.drop at_)).length)):=by
    simp only[u,hr,w,E,aN]
   rw[k];cases O:ih (s.drop at_)==[]with
   |true=>
    simp-implicitDefEqProofs(disch:=try exact ak)only[fT,reduceAdd,reduceLeDiff,reduceIte,az,O,g2];exact a_.2 ⟨rfl,(q.trans e).db (bo _) _⟩
   |false=>
    simp-implicitDefEqProofs(disch:=try exact ak)only[fT,reduceAdd,reduceLeDiff,reduceIte,az,O,g2,yi];exact a_.2 ⟨rfl,(q.trans e).db (bo _) _⟩
def Jc(l:Nat)(t:Tok):cl P l 36 1 [(0,t.v)]=D (.aG l 0 1 4 (D 1),.row U 4 [t.cells]):=by
 obtain⟨k,x,n,p⟩:=t;kernel_rfl
def KB:P.underlying 36=D (.slice 61):=ah
def CM:je P 61=D 40:=ah
def Cb:fE P 61=D (.agg [I J 0,Z [],I J 0,I J 0]):=ah
def L5{H:af}{L:Nat}{cs:List aa}{cap:Option Nat}{ro:Bool}(a:H.get L=D (.row ro 4 [cs])):df P H [36,36] .aA (.aG L 0 1 4 cap)=D (.aG H.next 0 1 4 C,H.push (.row U 4 [cs])):=by
 simp[df,jj,kR,eg,KB,xt,CM,Cb,jG,fr,a,aa.cells]
def L6{H:af}{L l n:Nat}{cs:List aa}{els:List (List aa)}{cap:Option Nat}{ro:Bool}(d:H.get L=D (.row ro 4 [cs]))(e:H.get l=D (.row U 4 els))(h:els.length=n)(i:n<=1000000000):df P H [36,36] (.aG l 0 n 4 C) (.aG L 0 1 4 cap)=D (.aG H.next 0 (n+1) 4 C,(H.set l .dead).push (.row U 4 (els++[cs]))):=by
 have a:(n+1)*40<=140737488355328:=ae;have c:n+1<=9223372036854775807:=ae;simp[df,jj,kR,eg,KB,xt,CM,Cb,jG,fr,d,e,aa.cells,h,a,c];rw[List.take_of_length_le ae]
def oj(H0 H:af)(v:aa)(T:List Tok):Prop:=(v= .aA/\T=[])\/∃l,v= .aG l 0 T.length 4 C/\H0.next<=l/\H.get l=D (.row U 4 (T.map Tok.cells))
def oj.tok{H0 H:af}{v:aa}{T:List Tok}(h:oj H0 H v T):ga H v T:=by
 rcases h with h|⟨l,rfl,_,a⟩
 ·exact .inl h
 ·refine .inr ⟨l,0,C,rfl,.inr ⟨U,_,a,λk t c=> ?_⟩⟩;simp[c]
def oj.aR{H0 H H':af}{v:aa}{T:List Tok}(h:oj H0 H v T)(p:aU H H'):oj H0 H' v T:=by
 rcases h with h|⟨l,e,a,c⟩
 ·exact .inl h
 ·exact .inr ⟨l,e,a,p.get c⟩
def BY{H0 H:af}{v:aa}{T:List Tok}(h:oj H0 H v T)(p:aU H0 H)(ay:T.length<=1000000)(t:Tok):∃d H',df P (H.push (.row U 4 [t.cells])) [36,36] v (.aG H.next 0 1 4 (D 1))=D (d,H')/\oj H0 H' d (T++[t])/\aU H0 H'/\(H.push (.row U 4 [t.cells])).next<=H'.next/\(∀l,l<H.next->(∀e,v≠ .aG l 0 T.length 4 e)->H'.get l=H.get l):=by
 have c:(H.push (.row U 4 [t.cells])).get H.next=D (.row U 4 [t.cells]):=af.bY _ _
 rcases h with⟨rfl,rfl⟩|⟨l,rfl,i,a⟩
 ·refine⟨_,_,L5 c,.inr ⟨_,rfl,?_,?_⟩,(p.bT _).bT _,by simp,λl m _=> ?_⟩
  ·have:=p.1;simp only[af.ch];omega
  ·exact af.bY (H.push (.row U 4 [t.cells])) _
  ·rw[af.dS (by simp only[af.ch];omega),af.dS ae]
 ·have m:=af.a6 a;have k:(H.push (.row U 4 [t.cells])).get l=D (.row U 4 (T.map Tok.cells)):=by rw[af.dS ae];exact a
  refine⟨_,_,L6 c k (by simp) ae,.inr ⟨(H.push (.row U 4 [t.cells])).next,by simp,?_,?_⟩,?_,by simp,λj o n=> ?_⟩
  ·have:=p.1;simp only[af.ch,af.dK];omega
  ·have e:((H.push (.row U 4 [t.cells])).set l .dead).next=(H.push (.row U 4 [t.cells])).next:=rfl
   simp only[List.map_append,List.map_cons,List.map_nil];rw[<-e];exact af.bY _ _
  ·exact((p.bT _).db i _).bT _
  ·rw[af.dS (by simp only[af.ch,af.dK];omega),af.get_set_other (by rintro rfl;exact n _ rfl),af.dS ae]
def IL(d:Bool)(c:UInt8)(r:aC)(h:(dv c||(!d&&dn c))=X):1<=runN d (c::r):=by
 rw[runN,h];simp
def Ug(s:aC):(ih s).length<=s.length:=by
 unfold ih;cases decide (2<=s.length)&&fx (s.take 2) jd with
 |true=>simp only[aS,List.length_take];omega
 |false=>
  simp only[aN];cases s with
  |nil=>simp
  |cons c r=>simp only[List.length_cons];cases iV c hT<;>simp
def Hm{s:aC}{k:Int}{t:aC}{v:Int}{m:Nat}(h:hr s=D (k,t,v,m)):1<=m/\m<=s.length:=by
 cases s with
 |nil=>simp[hr]at h
 |cons c r=>
  have i:=λd=>Aq d (c::r)
  rw[hr]at h;cases e:dn c with
  |true=>
   have aF:=IL U c r (by simp[e]);rw[e,aS]at h;cases hw:gk ((c::r).take (runN U (c::r)))with
   |true=>rw[hw,aS]at h;cases h;exact⟨aF,i U⟩
   |false=>
    rw[hw,aN]at h;cases j:ek ((c::r).take (runN U (c::r)))with
    |true=>rw[j,aS]at h;cases h;exact⟨aF,i U⟩
    |false=>rw[j,aN]at h;cases h
  |false=>
   rw[e,aN]at h;cases a:dv c with
   |true=>
    have aF:=IL X c r (by simp[a]);rw[a,aS]at h;split at h
    ·cases h
    ·rename_i z n;rw[Bool.cond_eq_ite]at h;split at h
     ·cases h
     ·cases h;exact⟨aF,i X⟩
   |false=>
    rw[a,aN]at h;cases ar:ih (c::r)==[]with
    |true=>rw[ar,aS]at h;cases h
    |false=>
     rw[ar,aN]at h;cases h;have l:¬ih (c::r)=[]:=by simpa using ar
     have:=Ug (c::r);exact⟨List.length_pos_iff.2 l,this⟩
def rD:∀(s:aC) (b:Bool),cV b s<=s.length
 |[],b=>by cases b<;>simp[cV]
 |c::r,X=>by
  have a:=rD r X;have d:=rD r U;rw[cV];cases c.toNat==10<;>simp only[aS,aN,List.length_cons]<;>omega
 |c::r,U=>by
  have a:=rD r X;have d:=rD r U;rw[cV];cases h9 c
  ·cases(c==47&&r.head?==D 47)<;>simp only[aS,aN,List.length_cons]<;>omega
  ·simp only[aS,List.length_cons];omega
def BB(H0:af)(x:List Tok×Int×Int)(r:aa)(H':af):Prop:=∃ax,r= .tuple [ax,.agg [I J x.2.1,I J x.2.2]]/\ga H' ax x.1/\aU H0 H'
def r8(T:List Tok):Nat ⊕ List Tok->List Tok×Int×Int
 | .inl e=>([],1,e)
 | .inr l=>(T++l,0,0)
def Mv(k p:Int):cS P 29 [(0,I J k),(1,I J p)]=D (.agg [I J k,I J p]):=ah
def J4{H0:af}{s:aC}(ar:s.length<=100000)(N:Nat):∀(n:Nat) (rest:aC) (at_ m:Nat) (T:List Tok) (v:aa) (H:af),s.drop at_=rest->at_<=s.length->oj (H0.push (.row U 2 [[I J 0,I J 0]])) H v T->aU (H0.push (.row U 2 [[I J 0,I J 0]])) H->T.length<=at_->rest.length<n->rest.length<m->
  W (pc (aI P aB) N m (Z s) (.ptr H0.next 0 0) v (I J at_) H) (BB H0 (r8 T (gK n rest at_)))
 |0,_,_,_,_,_,_,_,_,_,_,_,x,_=>ae
 |_,_,_,0,_,_,_,_,_,_,_,_,_,hm=>ae
 |n+1,[],at_,m+1,T,v,H,h,Q,i,p,ay,x,hm=>by
  have hlen:=drop_nil h;have u:¬((at_:Int)<(s.length:Int)):=ae;have R:s.length=at_:=ae;have g:H.get H0.next=D (.row U 2 [[I J 0,I J 0]]):=p.get (af.bY _ _)
  have kA:=af.a6 g;obtain⟨E,H',d,j,A,L,K⟩:=BY i p ae ⟨0,[],0,s.length⟩;have a:=Jc H.next ⟨0,[],0,s.length⟩
  simp only[Tok.v]at a;simp-implicitDefEqProofs(disch:=try exact ak)only[pc,k4,mD,nK,mE,mC,reduceAdd,reduceLeDiff,reduceIte,az,u,decide_false,Mx,a,d,fJ];have g':H'.get H0.next=D (.row U 2 [[I J 0,I J 0]]):=by
   rw[K _ kA ?_];exact g;intro e he;rcases i with⟨rfl,_⟩|⟨l,rfl,ah,_⟩
   ·cases he
   ·cases he;simp only[af.ch]at ah;omega
  have av:=af.a6 g';have y:bp (D (.agg [I J 0,I J 0])) (.agg [I J 0,I J 0])=true:=by simp[bp,aa.beq,hg.beq]
  simp-implicitDefEqProofs(disch:=try exact ak)only[k4,mD,nK,mE,mC,reduceAdd,reduceLeDiff,reduceIte,az,g',y];have al:aU H0 H':=(aU.push _ _).trans A;have am:aU H0 (H'.set H0.next (.row U 2 [[I J 0,I J 0]])):=al.db (bo _) _;refine a_.2 ⟨E,rfl,?_,am⟩;rw[gK];simp only[r8];rw[R]at j;exact j.tok.a1 λl ro els e=>by
   rw[af.get_set_other];exact e;rintro rfl;rw[g']at e;cases e
 |n+1,c::r,at_,m+1,T,v,H,h,Q,i,p,ay,x,hm=>by
  obtain⟨aq,aH,bu,cq⟩:=drop_cons h;have u:((at_:Int)<(s.length:Int)):=ae;have g:H.get H0.next=D (.row U 2 [[I J 0,I J 0]]):=p.get (af.bY _ _)
  have kA:=af.a6 g;simp-implicitDefEqProofs(disch:=try exact ak)only[pc,k4,mD,nK,mE,mC,reduceAdd,reduceLeDiff,reduceIte,az,u,decide_true];refine aW (PS ae bu) ?_;rintro _ F ⟨rfl,o⟩;refine⟨o.1,?_⟩;have g2:=o.get g;have aw:=af.a6 g2;have V:=i.aR o;replace p:=p.trans o;rw[h,gK];cases ai:hr (c::r)with
  |none=>
   simp only[zK];simp-implicitDefEqProofs(disch:=try exact ak)only[k4,mD,nK,mE,mC,reduceAdd,reduceLeDiff,reduceIte,az,Mv,beq_self_eq_true,g2,af.iE];have y:bp (D (.agg [I J 1,I J at_])) (.agg [I J 1,I J at_])=true:=by simp[bp,aa.beq,hg.beq]
   refine a_.2 ⟨.aA,rfl,.inl ⟨rfl,rfl⟩,?_⟩;exact(((aU.push _ _).trans p).db (bo _) _).bT _
  |some q=>
   obtain⟨k,t,z,b⟩:=q;obtain⟨au,M⟩:=Hm ai;have S:((b:Int)==0)=false:=by simp;omega
   simp only[zK];simp only[List.length_cons]at M x hm;obtain⟨E,H',d,j,A,L,K⟩:=BY (V.aR (aU.push F (.row U 4 [Tok.cells ⟨k,t,z,at_⟩]))) (p.bT _) ae ⟨k,t,z,at_⟩;have a:=Jc (F.next+1) ⟨k,t,z,at_⟩;simp only[Tok.v]at a;simp only[Tok.cells,af.ch]at d L;simp only[Tok.cells]at a;have y:∀ap:af,bp (D (.agg [I J k,Z t,I J z,I J at_])) (.agg [I J k,Z t,I J z,I J at_])=true:=λ_=>by simp[bp,aa.beq,hg.beq]
   simp-implicitDefEqProofs(disch:=try exact ak)only[k4,mD,nK,mE,mC,reduceAdd,reduceLeDiff,reduceIte,az,S,a,d,fJ,nd];have G:s.drop (at_+b)=(c::r).drop b:=by rw[<-List.drop_drop,h]
   have ab:=rD ((c::r).drop b) U;simp only[List.length_drop,List.length_cons]at ab;refine oy (CI ae (at_:=at_+b) ae) ?_;rw[G];simp only[mD];have ad:at_+b+cV U ((c::r).drop b)<=s.length:=ae;have aj:=J4 ar N n (s.drop (at_+b+cV U ((c::r).drop b))) (at_+b+cV U ((c::r).drop b)) m (T++[⟨k,t,z,at_⟩]) E H' rfl ad j A (by simp;omega) (by simp;omega) (by simp;omega);refine aj.mono ?_;rintro w ao ⟨ax,bb,B,an⟩;have ag:s.drop (at_+b+cV U ((c::r).drop b))=((c::r).drop b).drop (cV U ((c::r).drop b)):=by rw[<-List.drop_drop,G]
   rw[ag]at bb B;have O:r8 (T++[⟨k,t,z,at_⟩]) (gK n (((c::r).drop b).drop (cV U ((c::r).drop b))) (at_+b+cV U ((c::r).drop b)))=r8 T (match gK n (((c::r).drop b).drop (cV U ((c::r).drop b))) (at_+b+cV U ((c::r).drop b))with
     | .inl e=> .inl e
     | .inr l=> .inr (⟨k,t,z,at_⟩::l)):=by
    cases gK n (((c::r).drop b).drop (cV U ((c::r).drop b))) (at_+b+cV U ((c::r).drop b))with
    |inl e=>rfl
    |inr l=>simp[r8]
   rw[O]at bb B;exact⟨ax,bb,B,an⟩
def Ll{H:af}(s:aC):W (aI P aB 14 [Z s] H) (BB H (dB s)):=by
 refine cO (λ_=>Q7 (s.length+1)) ?_;by_cases c:(6000:Int)<(s.length:Int)
 ·have a:6000<s.length:=ae;simp-implicitDefEqProofs(disch:=try exact ak)only[k4,mD,nK,mE,mC,reduceAdd,reduceLeDiff,reduceIte,az,c,decide_true];refine a_.2 ⟨.aA,by simp[dB,a],.inl ⟨rfl,by simp[dB,a]⟩,aU.push _ _⟩
 ·have a:¬6000<s.length:=ae;simp-implicitDefEqProofs(disch:=try exact ak)only[k4,mD,mE,mC,reduceAdd,reduceLeDiff,reduceIte,az,c,decide_false];refine oy (CI (s:=s) ae (at_:=0) ae) ?_;simp only[List.drop_zero,Nat.zero_add,mE];have h:=rD s U;refine(J4 (H0:=H) ae (s.length+1) (s.length+1) (s.drop (cV U s)) (cV U s) (s.length+1) [] .aA _ rfl h (.inl ⟨rfl,rfl⟩) (.refl _) (by simp) (by simp;omega) (by simp;omega)).mono ?_;rintro v H' ⟨ax,bb,d,i⟩;have e:r8 [] (gK (s.length+1) (s.drop (cV U s)) (cV U s))=dB s:=by
   simp only[dB,if_neg a,r9];cases gK (s.length+1) (s.drop (cV U s)) (cV U s)<;>rfl
  rw[e]at bb d;exact⟨ax,bb,d,i⟩
section
set_option maxRecDepth 100000
noncomputable section
end
end
end Go.Proofs.YtghmbpmaafnodaaDoor
namespace Go.Proofs.YtghmbpmaafnodaaDoor.gl
open Go.bn
open Nat (reduceAdd reduceLeDiff)
structure jA(H:af):Prop where
 xn:H.get 0=some (.row true 1 ld)
def jA.aR{H H':af}(h:jA H)(p:aU H H'):jA H':=⟨p.get h.xn⟩
end Go.Proofs.YtghmbpmaafnodaaDoor.gl
namespace Go.Proofs.YtghmbpmaafnodaaDoor
open Go.bn
open Nat (reduceAdd reduceLeDiff)
def kw(x:aC):Int:=match x with
 |c::_=>if 97<=c.toNat/\c.toNat<=122 then 3 else 4
 |[]=>4
def aV(T:List Tok)(s:al)(x:aC):Bool:=bz T s (kw x) x
def bh(T:List Tok)(x:aC)(s:al):al:=bif aV T s x then aw s else bQ T 2 s
def e0(s:al):al:={s with bk:=e8 (s.bk+1)}
def cB(T:List Tok)(x:aC)(s:al):al:=bif aV T s x&&decide (50<=s.bk)then bQ T 4 s else e0 (bh T x s)
def dh(T:List Tok)(x:aC)(s:al):al:=dU (bh T x s)
def bA(T:List Tok)(s:al):aC×al:=bif s.an==0&&(aj T s.at_).kind==1 then((aj T s.at_).text,aw s)else([],bQ T 2 s)
def takeN(T:List Tok)(x:aC):Nat->al->al
 |0,s=>s
 |n+1,s=>takeN T x n (bh T x s)
def fb(T:List Tok):Nat->Int->al->(Int×al) ⊕ al
 |0,d,s=>bif aV T s [91]then .inr (bQ T 4 s)else .inl (d,s)
 |n+1,d,s=>bif aV T s [91]then fb T n (d+1) (aw s)else .inl (d,s)
def fz(T:List Tok)(d:Int)(s:al):(aC×Int)×al:=bif aV T s [105,110,116]||aV T s [98,111,111,108]then(((aj T s.at_).text,d),takeN T [93] d.toNat (aw s)) else(((bA T s).1,d),takeN T [93] d.toNat (bA T s).2)
def cM(T:List Tok)(s:al):(aC×Int)×al:=match fb T 3 0 s with
 | .inr s'=>(([],0),s')
 | .inl (d,s')=>fz T d s'
def mm(x:aC):List (aC×Int)->Int
 |[]=>0
 |(y,k)::r=>bif y==x then k else mm x r
def eM(lev:Nat)(t:Tok):Int:=bif t.kind != 4 then 0 else mm t.text (lD[lev]?.getD [])
mutual
def dF(T:List Tok):Nat->Nat->al->ad aE
 |0,_,_=>C
 |n+1,lev,s=>if lev=5 then gj T n s else(dF T n (lev+1) s).bind λp=>fV T n lev p.1 p.2
def fV(T:List Tok):Nat->Nat->aE->al->ad aE
 |0,_,_,_=>C
 |n+1,lev,e,s=>bif s.an==0&&eM lev (aj T s.at_) != 0 then
  (dF T n (lev+1) (aw s)).bind λp=>fV T n lev (.mk {kind:=eM lev (aj T s.at_),pos:=(aj T s.at_).pos} [e,p.1]) p.2
  else D (e,s)
def gj(T:List Tok):Nat->al->ad aE
 |0,_=>C
 |n+1,s=>bif aV T s [45]then hZ T n 12 s else bif aV T s [33]then hZ T n 13 s else(dY T n s).bind λp=>eU T n p.1 p.2
def hZ(T:List Tok):Nat->Int->al->ad aE
 |0,_,_=>C
 |n+1,k,s=>(dF T n 5 (cB T (aj T s.at_).text s)).bind λp=>D (.mk {kind:=k,pos:=(aj T s.at_).pos} [p.1],dU p.2)
def eU(T:List Tok):Nat->aE->al->ad aE
 |0,_,_=>C
 |n+1,e,s=>bif aV T s [46]then eU T n (.mk {kind:=5,name:=(bA T (aw s)).1,pos:=(aj T s.at_).pos} [e]) (bA T (aw s)).2
  else bif aV T s [91]then(dF T n 0 (cB T [91] s)).bind λp=>eU T n (.mk {kind:=6,pos:=(aj T s.at_).pos} [e,p.1]) (dh T [93] p.2)
  else D (e,s)
def e4(T:List Tok):Nat->al->ad aE
 |0,_=>C
 |n+1,s=>(dF T n 0 (cB T [40] s)).bind λp=>D (p.1,dh T [41] p.2)
def dY(T:List Tok):Nat->al->ad aE
 |0,_=>C
 |n+1,s=>bif s.an==0&&(aj T s.at_).kind==2 then D (.mk {kind:=1,n:=(aj T s.at_).n,pos:=(aj T s.at_).pos} [],aw s)
  else bif aV T s [116,114,117,101]||aV T s [102,97,108,115,101]then D (.mk {kind:=2,n:=bif (aj T s.at_).text==[116,114,117,101]then 1 else 0,pos:=(aj T s.at_).pos} [],aw s)
  else bif aV T s [110,117,108,108]then D (.mk {kind:=3,b4:=(cM T (aw s)).1.1,cy:=(cM T (aw s)).1.2,pos:=(aj T s.at_).pos} [],(cM T (aw s)).2)
  else bif aV T s [110,101,119]then gb T n (aj T s.at_).pos (aw s)
  else bif aV T s [108,101,110]then(e4 T n (aw s)).bind λp=>D (.mk {kind:=10,pos:=(aj T s.at_).pos} [p.1],p.2)
  else bif aV T s [114,101,97,100]then D (.mk {kind:=11,pos:=(aj T s.at_).pos} [],dh T [41] (cB T [40] (aw s)))
  else bif aV T s [40]then e4 T n s
  else bif aV T (bA T s).2 [40]then(fN T n (bA T s).2).bind λp=>D (.mk {kind:=7,name:=(bA T s).1,pos:=(aj T s.at_).pos} p.1,p.2)
  else D (.mk {kind:=4,name:=(bA T s).1,pos:=(aj T s.at_).pos} [],(bA T s).2)
def gb(T:List Tok):Nat->Int->al->ad aE
 |0,_,_=>C
 |n+1,pos,s=>bif aV T s [91]then
  (e4 T n (bh T [93] (cM T (aw s)).2)).bind λp=>D (.mk {kind:=9,b4:=(cM T (aw s)).1.1,cy:=(cM T (aw s)).1.2,pos:=pos} [p.1],p.2)
  else D (.mk {kind:=8,b4:=(bA T s).1,pos:=pos} [],(bA T s).2)
def fN(T:List Tok):Nat->al->ad (List aE)
 |0,_=>C
 |n+1,s=>bif aV T (cB T [40] s) [41]then D ([],dh T [41] (cB T [40] s))
  else(dF T n 0 (cB T [40] s)).bind λp=>fi T n [p.1] p.2
def fi(T:List Tok):Nat->List aE->al->ad (List aE)
 |0,_,_=>C
 |n+1,l,s=>bif aV T s [44]then(dF T n 0 (aw s)).bind λp=>fi T n (l++[p.1]) p.2 else D (l,dh T [41] s)
end
def left(T:List Tok)(s:al):Nat:=if s.an=0/\0<=s.at_/\s.at_<T.length then T.length-s.at_.toNat else 0
def cR{α:Type}(p q:α×al):Prop:=(p.2.an=0/\q=p)\/(p.2.an≠0/\q.2.an=p.2.an/\q.2.bN=p.2.bN)
def h8{T:List Tok}{s:al}(h:s.an≠0)(k:Int)(x:aC):bz T s k x=false:=by simp[bz,h]
def et{T:List Tok}{s:al}(h:s.an≠0)(x:aC):aV T s x=false:=h8 h _ _
def fm{T:List Tok}{s:al}(h:s.an≠0)(e:Int):bQ T e s=s:=by simp[bQ,h]
def FN{T:List Tok}{s:al}(h:s.an≠0):∀l,oM T s l=0
 |[]=>rfl
 |(x,k)::r=>by simp[oM,h8 h,FN h r]
def OQ{T:List Tok}{s:al}(h:s.an≠0)(lev:Nat):mj T lev s=0:=FN h _
def MR{T:List Tok}{s:al}(h:s.an≠0)(n:Nat)(c:2<=n):oE T n s=D (.zero,s):=by
 obtain⟨n,rfl⟩:∃m,n=m+2:=⟨n-2,ae⟩;have a:(s.an==0)=false:=by simpa using h
 simp[oE,ky,h,gm,a]
def U9{T:List Tok}{s:al}(h:s.an≠0)(n:Nat)(a:3<=n):lX T n s=D (.zero,s):=by
 obtain⟨n,rfl⟩:∃m,n=m+1:=⟨n-1,ae⟩;simp[lX,h8 h,MR h n ae]
def IE{T:List Tok}{s:al}(h:s.an≠0)(n:Nat)(a:1<=n)(lev:Nat)(e:aE):iY T n lev e s=D (e,s):=by
 obtain⟨n,rfl⟩:∃m,n=m+1:=⟨n-1,ae⟩;simp[iY,OQ h]
def IC{T:List Tok}{s:al}(h:s.an≠0):∀(n lev:Nat),lev<=5->9<=n+lev->gP T n lev s=D (.zero,s)
 |0,lev,c,d=>ae
 |n+1,lev,c,d=>by
  by_cases a:lev=5
  ·simp[gP,a,U9 h n ae]
  ·simp[gP,a,IC h n (lev+1) ae ae,IE h n ae]
def mh{T:List Tok}{s:al}{k:Int}{x:aC}(h:bz T s k x=X):s.an=0/\(aj T s.at_).kind=k/\(aj T s.at_).text=x:=by
 simpa [bz]using h
def oG(T:List Tok)(s:al):aE:= .mk {kind:=4,pos:=(aj T s.at_).pos} []
def v7{T:List Tok}{s:al}(h:s.an≠0):bA T s=([],s):=by
 have a:(s.an==0)=false:=by simpa using h
 simp[bA,a,fm h]
def Nx{T:List Tok}{s:al}(h:s.an≠0)(n:Nat)(c:1<=n):dY T n s=D (oG T s,s):=by
 obtain⟨n,rfl⟩:∃m,n=m+1:=⟨n-1,ae⟩;have a:(s.an==0)=false:=by simpa using h
 simp[dY,a,et h,v7 h,oG]
def yj{T:List Tok}{s:al}(h:s.an≠0)(n:Nat)(a:1<=n)(e:aE):eU T n e s=D (e,s):=by
 obtain⟨n,rfl⟩:∃m,n=m+1:=⟨n-1,ae⟩;simp[eU,et h]
def U_{T:List Tok}{s:al}(h:s.an≠0)(n:Nat)(a:2<=n):gj T n s=D (oG T s,s):=by
 obtain⟨n,rfl⟩:∃m,n=m+1:=⟨n-1,ae⟩;simp[gj,et h,Nx h n ae,yj h n ae]
def Dh{T:List Tok}{s:al}(h:s.an≠0)(n:Nat)(c:1<=n)(lev:Nat)(e:aE):fV T n lev e s=D (e,s):=by
 obtain⟨n,rfl⟩:∃m,n=m+1:=⟨n-1,ae⟩;have a:(s.an==0)=false:=by simpa using h
 simp[fV,a]
def rL{T:List Tok}{s:al}(h:s.an≠0):∀(n lev:Nat),lev<=5->9<=n+lev->dF T n lev s=D (oG T s,s)
 |0,lev,c,d=>ae
 |n+1,lev,c,d=>by
  by_cases a:lev=5
  ·simp[dF,a,U_ h n ae]
  ·simp[dF,a,rL h n (lev+1) ae ae,Dh h n ae]
def F9{x:aC}:∀l:List (aC×Int),(∀p∈l,p.2≠0)->∀T s,s.an=0->(aj T s.at_).kind=4->oM T s l=mm (aj T s.at_).text l
 |[],_,_,_,_,_=>rfl
 |(y,k)::r,h,T,s,a,c=>by
  have e:=F9 (x:=x) r (λp aF=>h p (by simp[aF])) T s a c;have d:bz T s 4 y=(y==(aj T s.at_).text):=by
   simp only[bz,a,c,beq_self_eq_true,Bool.true_and];exact BEq.comm
  simp[oM,mm,e,d]
def y8{T:List Tok}{s:al}(a:(aj T s.at_).kind≠4):∀l,oM T s l=0
 |[]=>rfl
 |(y,k)::r=>by
  have c:bz T s 4 y=false:=by simp[bz,a]
  simp[oM,c,y8 a r]
def OR{T:List Tok}{s:al}(c:s.an=0){lev:Nat}(d:lev<5):mj T lev s=eM lev (aj T s.at_):=by
 by_cases a:(aj T s.at_).kind=4
 ·have:((aj T s.at_).kind != 4)=false:=by simp[a]
  simp only[mj,eM,this,aN];refine F9 (x:=[]) _ ?_ T s c a;have:lev=0\/lev=1\/lev=2\/lev=3\/lev=4:=ae;rcases this with rfl|rfl|rfl|rfl|rfl<;>simp[lD]
 ·have:((aj T s.at_).kind != 4)=true:=by simp[a]
  simp[mj,eM,this,y8 a]
def ei(s s':al):Prop:=(s.an=0/\s'=s)\/(s.an≠0/\s'.an=s.an/\s'.bN=s.bN)
def ei.refl(s:al):ei s s:=by
 by_cases h:s.an=0
 ·exact .inl ⟨h,rfl⟩
 ·exact .inr ⟨h,rfl,rfl⟩
def ei.out{s s':al}(h:ei s s'):ei (dU s) (dU s'):=by
 rcases h with⟨h,rfl⟩|⟨h,a,c⟩
 ·exact .inl ⟨h,rfl⟩
 ·exact .inr ⟨h,a,c⟩
def kx{T:List Tok}{s:al}(h:s.an=0)(e:Int):(bQ T e s).an=e/\(bQ T e s).bN=(aj T s.at_).pos:=by simp[bQ,h]
def s5{T:List Tok}{s s':al}(h:ei s s'){x:aC}(d:kw x=4):ei (b8 T x s).2 (bh T x s'):=by
 rcases h with⟨h,rfl⟩|⟨h,a,e⟩
 ·cases c:bz T s' 4 x with
  |true=>simp only[b8,bh,aV,d,c,aS];exact .refl _
  |false=>simp only[b8,bh,aV,d,c,aN];exact .refl _
 ·have a8:s'.an≠0:=by rw[a];exact h
  simp only[b8,bh,h8 h,et a8,aN,fm h,fm a8];exact .inr ⟨h,a,e⟩
def nq{T:List Tok}{s s':al}(h:ei s s'){x:aC}(o:kw x=4):ei (hP T x s).2 (dh T x s'):=by
 have n:=s5 (T:=T) h.out o;have k:ei (bh T x (dU s')) (dh T x s'):=by
  by_cases i:s'.an=0
  ·have l:aV T (dU s') x=aV T s' x:=rfl;cases m:aV T s' x with
   |true=>simp only[dh,bh,l,m,aS];exact .inl ⟨i,rfl⟩
   |false=>
    simp only[dh,bh,l,m,aN];have j:(dU s').an=0:=i;refine .inr ⟨by rw[(kx j 2).1];decide,?_,?_⟩
    ·rw[(kx j 2).1];exact(kx i 2).1
    ·rw[(kx j 2).2];exact(kx i 2).2
  ·have j:(dU s').an≠0:=i;simp only[dh,bh,et i,et j,aN,fm i,fm j];exact .refl _
 rcases n with⟨a,b⟩|⟨a,b,c⟩
 ·rcases k with⟨d,e⟩|⟨d,e,f⟩
  ·exact .inl ⟨a,by rw[e,b];rfl⟩
  ·exact absurd (by rw[b];exact a) d
 ·rcases k with⟨d,e⟩|⟨d,e,f⟩
  ·exact absurd (b.symm.trans d) a
  ·exact .inr ⟨a,e.trans b,f.trans c⟩
def zO{T:List Tok}{s:al}(h:s.an=0){x:aC}(d:kw x=4):
  ((da T x s).1=X/\bz T s 4 x=X/\(da T x s).2=e0 (aw s)/\cB T x s=e0 (aw s))\/
  ((da T x s).1=U/\(da T x s).2.an≠0/\ei (da T x s).2 (cB T x s)):=by
 cases c:bz T s 4 x with
 |true=>
  by_cases a:50<=s.bk
  ·refine .inr ?_;simp only[da,cB,aV,d,c,aS,Bool.true_and,decide_eq_true a,if_pos a];exact⟨trivial,by rw[(kx h 4).1];decide,.refl _⟩
  ·refine .inl ?_;simp only[da,cB,bh,aV,d,c,aS,Bool.true_and,decide_eq_false a,if_neg a,aN];exact⟨trivial,trivial,rfl,trivial⟩
 |false=>
  refine .inr ?_;simp only[da,cB,bh,aV,d,c,aN,Bool.false_and];exact⟨trivial,by rw[(kx h 2).1];decide,.inr ⟨by rw[(kx h 2).1];decide,rfl,rfl⟩⟩
def cR.of{α:Type}{a b:α}{s s':al}(h:ei s s')(e:s.an=0->b=a):cR (a,s) (b,s'):=by
 rcases h with⟨h,rfl⟩|⟨h,c,d⟩
 ·exact .inl ⟨h,by rw[e h]⟩
 ·exact .inr ⟨h,c,d⟩
def cR.st{α:Type}{p q:α×al}(h:cR p q):ei p.2 q.2:=by
 rcases h with⟨h,rfl⟩|⟨h,a,c⟩
 ·exact .inl ⟨h,rfl⟩
 ·exact .inr ⟨h,a,c⟩
def xz{T:List Tok}{x:aC}(a:kw x=4):∀(n:Nat) {s s':al},ei s s'->ei (kb T x n s) (takeN T x n s')
 |0,_,_,h=>h
 |n+1,_,_,h=>xz a n (s5 h a)
def AT{T:List Tok}{x:aC}:∀(n:Nat) {s:al},s.an≠0->takeN T x n s=s
 |0,_,_=>rfl
 |n+1,s,h=>by simp[takeN,bh,et h,fm h,AT n h]
def Bd{T:List Tok}{x:aC}:∀(n:Nat) {s:al},s.an≠0->kb T x n s=s
 |0,_,_=>rfl
 |n+1,s,h=>by simp[kb,b8,h8 h,fm h,Bd n h]
def He{T:List Tok}:∀(n:Nat) (d:Int) (s:al),fb T n d s=gM T n d s
 |0,d,s=>rfl
 |n+1,d,s=>by
  have:aV T s [91]=bz T s 4 [91]:=rfl;simp[fb,gM,this,He n]
def PK{T:List Tok}(d:Int)(s:al):cR (j1 T d s) (fz T d s):=by
 have aq:aV T s [105,110,116]=bz T s 3 [105,110,116]:=rfl;have aH:aV T s [98,111,111,108]=bz T s 3 [98,111,111,108]:=rfl;by_cases a:s.an=0
 ·cases c:bz T s 3 [105,110,116]with
  |true=>
   simp only[j1,fz,aq,aH,c,Bool.not_true,Bool.false_and,Bool.and_false,aN,Bool.true_or,aS];exact cR.of (xz rfl _ (.refl _)) λ_=>rfl
  |false=>
   cases e:bz T s 3 [98,111,111,108]with
   |true=>
    simp only[j1,fz,aq,aH,c,e,Bool.not_true,Bool.and_false,aN,Bool.false_or,aS];exact cR.of (xz rfl _ (.refl _)) λ_=>rfl
   |false=>
    by_cases j:(aj T s.at_).kind=1
    ·simp only[j1,fz,aq,aH,c,e,bA,a,j,Bool.not_false,Bool.and_self,Bool.and_true,bne_self_eq_false,aN,Bool.or_self,beq_self_eq_true,aS];exact cR.of (xz rfl _ (.refl _)) λ_=>rfl
    ·have i:((aj T s.at_).kind==1)=false:=by simpa using j
     have l:((aj T s.at_).kind != 1)=true:=by simpa using j
     have k:(bQ T 2 s).an≠0:=by rw[(kx a 2).1];decide
     simp only[j1,fz,aq,aH,c,e,bA,a,i,l,Bool.not_false,Bool.and_self,Bool.and_false,aS,Bool.or_self,aN,AT _ k];exact cR.of (.refl _) λh=>absurd h k
 ·have i:(s.an==0)=false:=by simpa using a
  have m:(aw s).an≠0:=a;simp only[j1,fz,aq,aH,h8 a,bA,i,Bool.false_and,Bool.or_self,aN,fm a,AT _ a,Bd _ m,Bool.not_false,Bool.and_self,Bool.and_true];cases(aj T s.at_).kind != 1 with
  |true=>exact .inr ⟨a,rfl,rfl⟩
  |false=>exact .inr ⟨a,rfl,rfl⟩
def of_same(T:List Tok)(s:al):cR (dT T s) (cM T s):=by
 simp only[dT,cM,He];cases gM T 3 0 s with
 |inr s'=>exact cR.of (.refl _) λ_=>rfl
 |inl p=>exact PK p.1 p.2
def kX{T:List Tok}{s:al}(h:s.an≠0):left T s=0:=by simp[left,h]
def FW{T:List Tok}(s:al):left T (e0 s)=left T s:=rfl
def ze{T:List Tok}(s:al):left T (dU s)=left T s:=rfl
def qf{T:List Tok}(s:al)(e:Int):left T (bQ T e s)<=left T s:=by
 by_cases h:s.an=0
 ·unfold left;simp only[bQ,h,if_true,true_and];split
  ·rename_i a;rw[if_pos a.2];omega
  ·omega
 ·rw[fm h];omega
def UW{T:List Tok}{a:Int}(h:(aj T a).kind≠0):0<=a/\a<T.length:=by
 unfold aj at h;split at h
 ·exact absurd rfl h
 ·omega
def kY{T:List Tok}(ay:T.length<=40000000){s:al}(d:s.an=0)(e:(aj T s.at_).kind≠0):left T (aw s)+1<=left T s:=by
 obtain⟨a,c⟩:=UW e;have hw:e8 (s.at_+1)=s.at_+1:=wrap_i64 ae ae;have aq:left T s=T.length-s.at_.toNat:=by
  unfold left;rw[if_pos ⟨d,a,c⟩]
 have aH:left T (aw s)<=T.length-(s.at_+1).toNat:=by
  unfold left;simp only[aw,hw];split<;>omega
 omega
def kZ{T:List Tok}(ay:T.length<=40000000){s:al}{k:Int}{x:aC}(d:k≠0)(h:bz T s k x=X):left T (aw s)+1<=left T s:=by
 obtain⟨a,c,_⟩:=mh h;exact kY ay a (by rw[c];exact d)
def r3{T:List Tok}(ay:T.length<=40000000)(s:al)(x:aC):left T (b8 T x s).2<=left T s:=by
 cases h:bz T s 4 x with
 |true=>simp only[b8,h,aS];have:=kZ ay aK h;omega
 |false=>simp only[b8,h,aN];exact qf s 2
def r2{T:List Tok}(ay:T.length<=40000000)(s:al)(x:aC):left T (hP T x s).2<=left T s:=r3 ay (dU s) x
def FZ{T:List Tok}(ay:T.length<=40000000)(x:aC):∀(n:Nat) (s:al),left T (kb T x n s)<=left T s
 |0,s=>bo _
 |n+1,s=>Nat.le_trans (FZ ay x n _) (r3 ay s x)
def FY{T:List Tok}(ay:T.length<=40000000):∀(n:Nat) (d:Int) (s:al),(∀a s',gM T n d s= .inl (a,s')->left T s'<=left T s)/\(∀s',gM T n d s= .inr s'->left T s'<=left T s)
 |0,d,s=>by
  cases h:bz T s 4 [91]with
  |true=>simp only[gM,h,aS];exact⟨by simp,by rintro _ ⟨⟩;exact qf s 4⟩
  |false=>simp only[gM,h,aN];exact⟨by rintro _ _ ⟨⟩;exact bo _,by simp⟩
 |n+1,d,s=>by
  cases h:bz T s 4 [91]with
  |true=>
   simp only[gM,h,aS];obtain⟨i1,i2⟩:=FY ay n (d+1) (aw s);have c:=kZ ay aK h;exact⟨λa s' a8=>by have:=i1 a s' a8;omega,λs' a8=>by have:=i2 s' a8;omega⟩
  |false=>simp only[gM,h,aN];exact⟨by rintro _ _ ⟨⟩;exact bo _,by simp⟩
def FX{T:List Tok}(ay:T.length<=40000000)(d:Int)(s:al):left T (j1 T d s).2<=left T s:=by
 by_cases e:s.an=0
 ·cases c:((aj T s.at_).kind != 1&&(!bz T s 3 [105,110,116]&& !bz T s 3 [98,111,111,108]))with
  |true=>simp only[j1,c,aS];exact qf s 2
  |false=>
   simp only[j1,c,aN];have a:(aj T s.at_).kind≠0:=by
    intro a;have i:∀x,bz T s 3 x=false:=λx=>by simp[bz,a]
    simp[a,i]at c
   have:=FZ ay [93] d.toNat (aw s);have:=kY ay e a;omega
 ·have h:(aw s).an≠0:=e;simp only[j1];cases((aj T s.at_).kind != 1&&(!bz T s 3 [105,110,116]&& !bz T s 3 [98,111,111,108]))with
  |true=>exact qf s 2
  |false=>simp only[aN,Bd _ h,kX h];omega
def zd{T:List Tok}(ay:T.length<=40000000)(s:al):left T (dT T s).2<=left T s:=by
 obtain⟨i1,i2⟩:=FY ay 3 0 s;simp only[dT];cases h:gM T 3 0 s with
 |inr s'=>exact i2 s' h
 |inl p=>
  have:=i1 p.1 p.2 h;have:=FX ay p.1 p.2;exact Nat.le_trans (FX ay p.1 p.2) (i1 p.1 p.2 h)
def eR{α:Type}(T:List Tok)(s:al)(a b:Option (α×al)):Prop:=∃p q,a=D p/\b=D q/\cR p q/\left T p.2<=left T s
def kh(T:List Tok)(k:Nat):Prop:=∀(s:al),left T s<=k->∀(lev n a:Nat),lev<=5->30*k+20<=n+lev->30*k+20<=a+lev->eR T s (gP T n lev s) (dF T a lev s)
def QW{T:List Tok}{s:al}(h:s.an≠0)(lev n a:Nat)(c:lev<=5)(d:9<=n+lev)(e:9<=a+lev):eR T s (gP T n lev s) (dF T a lev s):=
 ⟨_,_,IC h n lev c d,rL h a lev c e,.inr ⟨h,rfl,rfl⟩,bo _⟩
def Ai{T:List Tok}(ay:T.length<=40000000){k:Nat}(p:∀j,j<k->kh T j){s:al}(m:s.an=0)(ar:left T s<=k){x:aC}(o:kw x=4)(lev n d:Nat)(i:lev<=5)(u:30*k+9<=n)(v:30*k+9<=d):
  ((da T x s).1=X/\left T (da T x s).2+1<=left T s/\eR T (da T x s).2 (gP T n lev (da T x s).2) (dF T d lev (cB T x s)))\/
  ((da T x s).1=U/\(da T x s).2.an≠0/\(cB T x s).an=(da T x s).2.an/\(cB T x s).bN=(da T x s).2.bN/\dF T d lev (cB T x s)=D (oG T (cB T x s),cB T x s)):=by
 rcases zO (T:=T) m o with⟨h,a,c,e⟩|⟨h,a,c⟩
 ·refine .inl ⟨h,?_,?_⟩
  ·rw[c,FW];exact kZ ay aK a
  ·have q:=kZ ay aK a;rw[c,e];exact p (k-1) ae _ (by rw[FW];omega) lev n d i ae ae
 ·rcases c with⟨c,_⟩|⟨_,e,l⟩
  ·exact absurd c a
  ·exact .inr ⟨h,a,e,l,rL (by rw[e];exact a) d lev i ae⟩
def AH{T:List Tok}(ay:T.length<=40000000){k:Nat}(A:∀j,j<k->kh T j){s:al}(w:s.an=0)(ar:left T s<=k)(n l:Nat)(y:30*k+9<=n)(z:30*k+9<=l):eR T s (jx T (n+1) [40] [41] s) (e4 T (l+1) s):=by
 rcases Ai ay A w ar (x:=[40]) rfl 0 n l ae y z with⟨d,a,p,q,c,e,i,B⟩|⟨d,a,c,e,i⟩
 ·refine⟨(p.1,(hP T [41] p.2).2),(q.1,dh T [41] q.2),?_,?_,?_,?_⟩
  ·simp[jx,d,c]
  ·simp[e4,e]
  ·rcases i with⟨h,rfl⟩|⟨h,u,v⟩
   ·exact cR.of (nq (.inl ⟨h,rfl⟩) rfl) λ_=>rfl
   ·refine cR.of (nq (.inr ⟨h,u,v⟩) rfl) λo=>absurd o ?_
    have:(dU p.2).an≠0:=h;simp only[hP,b8,h8 this,aN,fm this];exact h
  ·have:=r2 ay p.2 [41];simp only
   omega
 ·refine⟨(.zero,(da T [40] s).2),_,by simp[jx,d],by simp only[e4,i];rfl,?_,?_⟩
  ·have m:(cB T [40] s).an≠0:=by rw[c];exact a
   have o:=nq (T:=T) (x:=[41]) (ei.refl (cB T [40] s)) rfl;refine .inr ⟨a,?_,?_⟩<;>simp[dh,bh,et m,fm m,dU,c,e]
  ·simp only[kX a];omega
def eR.le{α:Type}{T:List Tok}{s s0:al}{a b:Option (α×al)}(h:eR T s a b)(j:left T s<=left T s0):eR T s0 a b:=by
 obtain⟨p,q,c,d,e,i⟩:=h;exact⟨p,q,c,d,e,Nat.le_trans i j⟩
def CV{T:List Tok}{s:al}(h:s.an≠0)(x:aC):(hP T x s).2.an≠0:=by
 have a:(dU s).an≠0:=h;simp only[hP,b8,h8 a,aN,fm a];exact h
def Gf{T:List Tok}(ay:T.length<=40000000){k:Nat}(x:∀j,j<k->kh T j):∀(c n d:Nat) (s s':al) (l l':List aE),left T s<=c->c<=k->30*c+10<=n->30*c+10<=d->ei s s'->(s.an=0->l'=l)->eR T s (jn T n l s) (fi T d l' s')
 |c,0,d,s,s',l,l',o,u,v,w,e,m=>ae
 |c,n+1,0,s,s',l,l',o,u,v,w,e,m=>ae
 |c,n+1,d+1,s,s',l,l',o,u,v,w,e,m=>by
  by_cases a:s.an=0
  ·obtain⟨_,rfl⟩:s.an=0/\s'=s:=e.resolve_right (by rintro⟨h,_⟩;exact h a);cases m a;have aq:aV T s' [44]=bz T s' 4 [44]:=rfl;cases i:bz T s' 4 [44]with
   |true=>
    have z:=kZ ay aK i;obtain⟨p,q,g1,g2,g3,g4⟩:=x (c-1) ae (aw s') ae 0 n d ae ae ae;have:=Gf ay x (c-1) n d p.2 q.2 (l++[p.1]) (l++[q.1]) ae ae ae ae g3.st (λaF=>by
     rcases g3 with⟨_,rfl⟩|⟨h,_⟩
     ·rfl
     ·exact absurd aF h)
    have:=this.le (s0:=s') ae;simpa [jn,fY,i,fi,aq,g1,g2]using this
   |false=>
    refine⟨(l,(hP T [41] s').2),(l,dh T [41] s'),by simp[jn,fY,i],by simp[fi,aq,i],cR.of (nq (.refl _) rfl) λ_=>rfl,r2 ay s' [41]⟩
  ·have y:s'.an≠0:=by
    rcases e with⟨h,_⟩|⟨_,h,_⟩
    ·exact absurd h a
    ·rw[h];exact a
   refine⟨(l,(hP T [41] s).2),(l',dh T [41] s'),by simp[jn,fY,h8 a],by simp[fi,et y],cR.of (nq e rfl) λh=>absurd h (CV a _),r2 ay s [41]⟩
def Mj{T:List Tok}(ay:T.length<=40000000){k:Nat}(y:∀j,j<k->kh T j){s:al}(w:s.an=0)(ar:left T s<=k)(n a:Nat)(G:30*k+10<=n)(H:30*k+10<=a):eR T s (nw T (n+1) s) (fN T (a+1) s):=by
 rcases zO (T:=T) w (x:=[40]) rfl with⟨e,c,i,v⟩|⟨e,c,i⟩
 ·have E:=kZ ay aK c;have F:left T (e0 (aw s))=left T (aw s):=rfl;have B:(e0 (aw s)).an=0:=w;have aq:aV T (e0 (aw s)) [41]=bz T (e0 (aw s)) 4 [41]:=rfl;cases u:bz T (e0 (aw s)) 4 [41]with
  |true=>
   refine⟨([],(hP T [41] (e0 (aw s))).2),([],dh T [41] (e0 (aw s))),by simp[nw,e,i,u],by simp[fN,v,aq,u],cR.of (nq (.refl _) rfl) λ_=>rfl,?_⟩;have:=r2 ay (e0 (aw s)) [41];simp only
   omega
  |false=>
   obtain⟨p,q,g1,g2,g3,g4⟩:=y (k-1) ae (e0 (aw s)) ae 0 n a ae ae ae;have:=Gf ay y k n a p.2 q.2 [p.1] [q.1] ae ae ae ae g3.st (λaF=>by
    rcases g3 with⟨_,rfl⟩|⟨h,_⟩
    ·rfl
    ·exact absurd aF h)
   have:=this.le (s0:=s) ae;simpa [nw,e,i,u,fN,v,aq,g1,g2]using this
 ·have o:=i.resolve_left (by rintro⟨h,_⟩;exact c h);have d:(cB T [40] s).an≠0:=by rw[o.2.1];exact c
  have A:=rL (T:=T) d a 0 ae ae;have z:∀l,fi T a l (cB T [40] s)=D (l,dh T [41] (cB T [40] s)):=λl=>by
   obtain⟨a,rfl⟩:∃m,a=m+1:=⟨a-1,ae⟩;simp[fi,et d]
  refine⟨([],(da T [40] s).2),_,by simp[nw,e],by simp only[fN,et d,aN,A,Option.bind_some,z];rfl,?_,?_⟩
  ·refine .inr ⟨c,?_,?_⟩<;>simp[dh,bh,et d,fm d,dU,o.2.1,o.2.2]
  ·simp only[kX c];omega
def ID{T:List Tok}(ay:T.length<=40000000){k:Nat}(E:∀j,j<k->kh T j){lev:Nat}(B:lev<5):∀(c n i:Nat) (s s':al) (e d:aE),left T s<=c->c<=k->30*c+10<=n->30*c+10<=i->ei s s'->(s.an=0->d=e)->eR T s (iY T n lev e s) (fV T i lev d s')
 |c,0,i,s,s',e,d,w,x,y,z,l,o=>ae
 |c,n+1,0,s,s',e,d,w,x,y,z,l,o=>ae
 |c,n+1,i+1,s,s',e,d,w,x,y,z,l,o=>by
  by_cases a:s.an=0
  ·obtain⟨_,rfl⟩:s.an=0/\s'=s:=l.resolve_right (by rintro⟨h,_⟩;exact h a);cases o a;have u:=OR (T:=T) a B;have A:(s'.an==0)=true:=by simpa using a
   by_cases m:mj T lev s'=0
   ·have v:(eM lev (aj T s'.at_) != 0)=false:=by rw[<-u];simpa using m
    exact⟨(e,s'),(e,s'),by simp[iY,m],by simp[fV,A,v],.inl ⟨a,rfl⟩,bo _⟩
   ·have v:(eM lev (aj T s'.at_) != 0)=true:=by rw[<-u];simpa using m
    have H:(aj T s'.at_).kind≠0:=by
     intro F;exact m (y8 (by rw[F];decide) _)
    have K:=kY ay a H;obtain⟨p,q,g1,g2,g3,g4⟩:=E (c-1) ae (aw s') ae (lev+1) n i ae ae ae;have:=ID ay E B (c-1) n i p.2 q.2 (.mk {kind:=mj T lev s',pos:=(aj T s'.at_).pos} [e,p.1]) (.mk {kind:=eM lev (aj T s'.at_),pos:=(aj T s'.at_).pos} [e,q.1]) ae ae ae ae g3.st (λaF=>by
     rcases g3 with⟨_,rfl⟩|⟨h,_⟩
     ·rw[u]
     ·exact absurd aF h)
    have:=this.le (s0:=s') ae;simpa [iY,m,fV,A,v,g1,g2]using this
  ·have G:s'.an≠0:=by
    rcases l with⟨h,_⟩|⟨_,h,_⟩
    ·exact absurd h a
    ·rw[h];exact a
   exact⟨(e,s),(d,s'),IE a (n+1) ae lev e,Dh G (i+1) ae lev d,cR.of l λh=>absurd h a,bo _⟩
def Nr{T:List Tok}{s:al}(h:s.an=0)(e:aE):cR (jh T e s) (aE.mk {kind:=5,name:=(bA T (aw s)).1,pos:=(aj T s.at_).pos} [e],(bA T (aw s)).2):=by
 have i:(aw s).an=0:=h;by_cases c:(aj T (aw s).at_).kind=1
 ·refine Or.inl ⟨?_,?_⟩
  ·have a:((aj T (aw s).at_).kind != 1)=false:=by simp[c]
   simp only[jh,a,aN];exact h
  ·simp[jh,bA,c,i]
 ·have a:((aj T (aw s).at_).kind==1)=false:=by simpa using c
  have d:((aj T (aw s).at_).kind != 1)=true:=by simpa using c
  have j:=kx (T:=T) i 2;refine Or.inr ⟨?_,?_,?_⟩
  ·simp only[jh,d,aS];show(bQ T 2 (aw s)).an≠0;rw[j.1];decide
  ·simp only[jh,bA,a,d,aS,Bool.and_false,aN];rfl
  ·simp only[jh,bA,a,d,aS,Bool.and_false,aN];rfl
def O0{T:List Tok}(ay:T.length<=40000000){s:al}(d:s.an=0)(j:(aj T s.at_).kind≠0)(e:aE):left T (jh T e s).2+1<=left T s:=by
 have k:=kY ay d j;have h:(aw s).an=0:=d;by_cases c:(aj T (aw s).at_).kind=1
 ·have a:((aj T (aw s).at_).kind != 1)=false:=by simp[c]
  have:=kY ay h (by rw[c];decide);simp only[jh,a,aN];omega
 ·have a:((aj T (aw s).at_).kind != 1)=true:=by simpa using c
  have i:(aw (bQ T 2 (aw s))).an≠0:=by show(bQ T 2 (aw s)).an≠0;rw[(kx h 2).1];decide
  simp only[jh,a,aS,kX i];omega
def yp{T:List Tok}(ay:T.length<=40000000){k:Nat}(E:∀j,j<k->kh T j):∀(c n l:Nat) (s s':al) (e o:aE),left T s<=c->c<=k->30*c+12<=n->30*c+12<=l->ei s s'->(s.an=0->o=e)->eR T s (gm T n e s) (eU T l o s')
 |c,0,l,s,s',e,o,z,F,G,H,v,A=>ae
 |c,n+1,0,s,s',e,o,z,F,G,H,v,A=>ae
 |c,n+1,l+1,s,s',e,o,z,F,G,H,v,A=>by
  by_cases a:s.an=0
  ·obtain⟨_,rfl⟩:s.an=0/\s'=s:=v.resolve_right (by rintro⟨h,_⟩;exact h a);cases A a;have d:(s'.an==0)=true:=by simpa using a
   have aq:aV T s' [46]=((aj T s'.at_).kind==4&&(aj T s'.at_).text==[46]):=by show bz T s' 4 [46]=_;simp only[bz,d,Bool.true_and]
   have aH:aV T s' [91]=((aj T s'.at_).kind==4&&(aj T s'.at_).text==[91]):=by show bz T s' 4 [91]=_;simp only[bz,d,Bool.true_and]
   cases i:(aj T s'.at_).kind==4 with
   |false=>exact⟨(e,s'),(e,s'),by simp[gm,d,i],by simp[eU,aq,aH,i],.inl ⟨a,rfl⟩,bo _⟩
   |true=>
    have P:(aj T s'.at_).kind=4:=by simpa using i
    cases u:(aj T s'.at_).text==[46]with
    |true=>
     have S:=O0 ay a (by rw[P];decide) e;have ar:=Nr (T:=T) a e;have:=(yp ay E (c-1) n l _ _ (jh T e s').1 _ ae ae ae ae ar.st (λaF=>by
      rcases ar with⟨_,h⟩|⟨h,_⟩
      ·exact congrArg Prod.fst h
      ·exact absurd aF h)).le (s0:=s') ae
     simpa [gm,d,i,u,eU,aq]using this
    |false=>
     cases w:(aj T s'.at_).text==[91]with
     |false=>exact⟨(e,s'),(e,s'),by simp[gm,d,i,u,w],by simp[eU,aq,aH,i,u,w],.inl ⟨a,rfl⟩,bo _⟩
     |true=>
      obtain⟨n,rfl⟩:∃m,n=m+1:=⟨n-1,ae⟩;have Q:∀j,j<c->kh T j:=λj R=>E j ae
      rcases Ai ay Q a z (x:=[91]) rfl 0 n l ae ae ae with⟨bO,b2,p,q,cw,dN,y,W⟩|⟨bO,b2,cw,dN,y⟩
      ·have N:=nq (T:=T) (x:=[93]) y.st rfl;have V:=r2 ay p.2 [93];have:=(yp ay E (c-1) (n+1) l (hP T [93] p.2).2 (dh T [93] q.2) (.mk {kind:=6,pos:=(aj T s'.at_).pos} [e,p.1]) (.mk {kind:=6,pos:=(aj T s'.at_).pos} [e,q.1]) ae ae ae ae N (λaF=>by
        rcases y with⟨_,rfl⟩|⟨h,_⟩
        ·rfl
        ·exact absurd aF (CV h _))).le (s0:=s') ae
       simpa [gm,d,i,u,w,jx,bO,cw,eU,aq,aH,dN]using this
      ·have B:(cB T [91] s').an≠0:=by rw[cw];exact b2
       have K:((da T [91] s').2.an==0)=false:=by simpa using b2
       have L:(dh T [93] (cB T [91] s'))=dU (cB T [91] s'):=by simp[dh,bh,et B,fm B]
       have M:(dU (cB T [91] s')).an≠0:=B;refine⟨(.mk {kind:=6,pos:=(aj T s'.at_).pos} [e,.zero],(da T [91] s').2),(.mk {kind:=6,pos:=(aj T s'.at_).pos} [e,oG T (cB T [91] s')],dU (cB T [91] s')),?_,?_,.inr ⟨b2,cw,dN⟩,?_⟩
       ·simp[gm,d,i,u,w,jx,bO,K]
       ·simp[eU,aq,aH,i,u,w,y,L,yj M l ae]
       ·simp only[kX b2];omega
  ·have O:s'.an≠0:=by
    rcases v with⟨h,_⟩|⟨_,h,_⟩
    ·exact absurd h a
    ·rw[h];exact a
   have d:(s.an==0)=false:=by simpa using a
   exact⟨(e,s),(o,s'),by simp[gm,d],yj O (l+1) ae o,cR.of v λh=>absurd h a,bo _⟩
def eR.pure{α:Type}{T:List Tok}{s:al}{p q:α×al}(h:cR p q)(a:left T p.2<=left T s):eR T s (D p) (D q):=⟨p,q,rfl,rfl,h,a⟩
def eR.map{α β:Type}{T:List Tok}{s:al}{a b:Option (α×al)}(h:eR T s a b)(f:α->β):eR T s (a.bind λp=>D (f p.1,p.2)) (b.bind λp=>D (f p.1,p.2)):=by
 obtain⟨p,q,rfl,rfl,e,i⟩:=h;refine⟨(f p.1,p.2),(f q.1,q.2),rfl,rfl,?_,i⟩;rcases e with⟨h,rfl⟩|⟨h,c,d⟩
 ·exact .inl ⟨h,rfl⟩
 ·exact .inr ⟨h,c,d⟩
def Pz{T:List Tok}(ay:T.length<=40000000){k:Nat}(h:∀j,j<k->kh T j){s:al}(a:s.an=0)(d:(aj T s.at_).kind=1)(ar:left T s<=k)(n c:Nat)(q:30*k+9<=n)(u:30*k+9<=c):
  eR T s (qi T (n+1) s) (bif aV T (bA T s).2 [40]then(fN T (c+1) (bA T s).2).bind λp=>D (.mk {kind:=7,name:=(bA T s).1,pos:=(aj T s.at_).pos} p.1,p.2)else D (.mk {kind:=4,name:=(bA T s).1,pos:=(aj T s.at_).pos} [],(bA T s).2)):=by
 have e:bA T s=((aj T s.at_).text,aw s):=by simp[bA,a,d]
 have i:=kY ay a (by rw[d];decide);have aq:aV T (aw s) [40]=bz T (aw s) 4 [40]:=rfl;rw[e];simp only[qi,aq];cases bz T (aw s) 4 [40]with
 |true=>
  obtain⟨n,rfl⟩:∃m,n=m+1:=⟨n-1,ae⟩;have:=Mj ay (k:=k-1) (λj o=>h j ae) (s:=aw s) a ae n c ae ae;exact(this.map λl=>aE.mk {kind:=7,name:=(aj T s.at_).text,pos:=(aj T s.at_).pos} l).le ae
 |false=>exact eR.pure (.inl ⟨a,rfl⟩) (by simp only;omega)
def NW{T:List Tok}(ay:T.length<=40000000){k:Nat}(N:∀j,j<k->kh T j){s:al}(o:s.an=0)(K:(aj T s.at_).kind=3)(ar:left T s<=k)(n a:Nat)(V:30*k+9<=n)(W:30*k+9<=a):
  eR T s (qb T (n+1) s) (gb T (a+1) (aj T s.at_).pos (aw s)):=by
 have O:=kY ay o (by rw[K];decide);have p:(aw s).an=0:=o;have aq:aV T (aw s) [91]=bz T (aw s) 4 [91]:=rfl;simp only[qb,gb,aq];cases c:bz T (aw s) 4 [91]with
 |true=>
  have P:=kZ ay aK c;have v:=of_same T (aw (aw s));have hw:=s5 (T:=T) (x:=[93]) v.st rfl;have R:=zd ay (aw (aw s));have S:=r3 ay (dT T (aw (aw s))).2 [93];simp only[aS];obtain⟨n,rfl⟩:∃m,n=m+1:=⟨n-1,ae⟩;obtain⟨a,rfl⟩:∃m,a=m+1:=⟨a-1,ae⟩;by_cases aF:(b8 T [93] (dT T (aw (aw s))).2).2.an=0
  ·have L:(dT T (aw (aw s))).2.an=0:=by
    by_cases h:(dT T (aw (aw s))).2.an=0
    ·exact h
    ·exact absurd aF (by simp only[b8,h8 h,aN,fm h];exact h)
   have w:=(v.resolve_right (by rintro⟨h,_⟩;exact h L)).2;have y:=(hw.resolve_right (by rintro⟨h,_⟩;exact h aF)).2;rw[w]at y;rw[w,y];have:=AH ay (k:=k-1) (λj Q=>N j ae) (s:=(b8 T [93] (dT T (aw (aw s))).2).2) aF ae n a ae ae;exact(this.map λe=>aE.mk {kind:=9,b4:=(dT T (aw (aw s))).1.1,cy:=(dT T (aw (aw s))).1.2,pos:=(aj T s.at_).pos} [e]).le ae
  ·have q:=hw.resolve_left (by rintro⟨h,_⟩;exact aF h);have i:(bh T [93] (cM T (aw (aw s))).2).an≠0:=by rw[q.2.1];exact aF
   have E:(da T [40] (b8 T [93] (dT T (aw (aw s))).2).2)=(U,(b8 T [93] (dT T (aw (aw s))).2).2):=by simp[da,h8 aF,fm aF]
   have F:cB T [40] (bh T [93] (cM T (aw (aw s))).2)=e0 (bh T [93] (cM T (aw (aw s))).2):=by
    simp only[cB,et i,Bool.false_and,aN];rw[bh,et i,aN,fm i]
   have l:(e0 (bh T [93] (cM T (aw (aw s))).2)).an≠0:=i;have G:dh T [41] (e0 (bh T [93] (cM T (aw (aw s))).2))=dU (e0 (bh T [93] (cM T (aw (aw s))).2)):=by
    unfold dh;rw[bh,et l,aN,fm l]
   have M:jx T (n+1) [40] [41] (b8 T [93] (dT T (aw (aw s))).2).2=D (.zero,(b8 T [93] (dT T (aw (aw s))).2).2):=by simp[jx,E]
   have H:e4 T (a+1) (bh T [93] (cM T (aw (aw s))).2)=D (oG T (e0 (bh T [93] (cM T (aw (aw s))).2)),dU (e0 (bh T [93] (cM T (aw (aw s))).2))):=by
    simp only[e4,F,rL l a 0 ae ae,Option.bind_some,G]
   simp only[M,H,Option.bind_some];exact eR.pure (.inr ⟨aF,q.2.1,q.2.2⟩) (by simp only[kX aF];omega)
 |false=>
  simp only[aN];by_cases d:(aj T (aw s).at_).kind=1
  ·have c:((aj T (aw s).at_).kind != 1)=false:=by simp[d]
   have:=kY ay p (by rw[d];decide);have z:bA T (aw s)=((aj T (aw s).at_).text,aw (aw s)):=by simp[bA,p,d]
   simp only[c,aN,z];exact eR.pure (.inl ⟨o,rfl⟩) (by simp only;omega)
  ·have c:((aj T (aw s).at_).kind==1)=false:=by simpa using d
   have B:((aj T (aw s).at_).kind != 1)=true:=by simpa using d
   have A:=kx (T:=T) p 2;have u:(aw (bQ T 2 (aw s))).an≠0:=by show(bQ T 2 (aw s)).an≠0;rw[A.1];decide
   simp only[B,aS,bA,c,Bool.and_false,aN];exact eR.pure (.inr ⟨u,rfl,rfl⟩) (by simp only[kX u];omega)
def tL{T:List Tok}{s:al}(a:s.an=0)(x:aC):aV T s x=((aj T s.at_).kind==kw x&&(aj T s.at_).text==x):=by simp[aV,bz,a]
def O1{T:List Tok}(ay:T.length<=40000000)(s:al)(x:aC):left T (da T x s).2<=left T s:=by
 cases h:bz T s 4 x with
 |true=>
  simp only[da,h,aS];split
  ·exact qf s 4
  ·have:=kZ ay aK h;have e:left T {s with at_:=e8 (s.at_+1),bk:=e8 (s.bk+1)}=left T (aw s):=rfl;simp only[e];omega
 |false=>simp only[da,h,aN];exact qf s 2
def Qz{T:List Tok}{s:al}(k:s.an=0):cR (qy T s) (aE.mk {kind:=11,pos:=(aj T s.at_).pos} [],dh T [41] (cB T [40] (aw s))):=by
 have l:(aw s).an=0:=k;simp only[qy];rcases zO (T:=T) l (x:=[40]) rfl with⟨c,a,d,j⟩|⟨c,a,d⟩
 ·simp only[c,d,j,aS];exact cR.of (nq (.refl _) rfl) λ_=>rfl
 ·simp only[c,aN];have e:=d.resolve_left (by rintro⟨h,_⟩;exact a h);have i:(cB T [40] (aw s)).an≠0:=by rw[e.2.1];exact a
  refine .inr ⟨a,?_,?_⟩<;>simp[dh,bh,et i,fm i,dU,e.2.1,e.2.2]
def O2{T:List Tok}(ay:T.length<=40000000)(s:al):left T (qy T s).2<=left T (aw s):=by
 have a:=O1 ay (aw s) [40];simp only[qy];cases(da T [40] (aw s)).1 with
 |true=>simp only[aS];have:=r2 ay (da T [40] (aw s)).2 [41];omega
 |false=>simp only[aN];omega
def Ny{T:List Tok}{s:al}(d:s.an=0)(a:(aj T s.at_).kind≠1):bA T s=([],bQ T 2 s)/\(bQ T 2 s).an≠0:=by
 have c:((aj T s.at_).kind==1)=false:=by simpa using a
 exact⟨by simp[bA,c],by rw[(kx d 2).1];decide⟩
def Nz{T:List Tok}(ay:T.length<=40000000){k:Nat}(A:∀j,j<k->kh T j){s:al}(a:s.an=0)(ar:left T s<=k)(n c:Nat)(ai:30*k+10<=n)(ak:30*k+10<=c):
  eR T s (ky T (n+1) s) (dY T (c+1) s):=by
 obtain⟨n,rfl⟩:∃m,n=m+1:=⟨n-1,ae⟩;obtain⟨c,rfl⟩:∃m,c=m+1:=⟨c-1,ae⟩;have af:(s.an==0)=true:=by simpa using a
 have l:kw [116,114,117,101]=3:=rfl;have o:kw [102,97,108,115,101]=3:=rfl;have q:kw [110,117,108,108]=3:=rfl;have u:kw [110,101,119]=3:=rfl;have v:kw [108,101,110]=3:=rfl;have w:kw [114,101,97,100]=3:=rfl;have x:kw [40]=4:=rfl;have B:(aj T s.at_).kind≠1->eR T s (D (aE.zero,bQ T 2 s)) (bif aV T (bA T s).2 [40]then(fN T (c+1) (bA T s).2).bind λp=>D (.mk {kind:=7,name:=(bA T s).1,pos:=(aj T s.at_).pos} p.1,p.2)else D (.mk {kind:=4,name:=(bA T s).1,pos:=(aj T s.at_).pos} [],(bA T s).2)):=by
  intro d;obtain⟨aq,aH⟩:=Ny (T:=T) a d;rw[aq];simp only[et aH,aN];exact eR.pure (.inr ⟨aH,rfl,rfl⟩) (qf s 2)
 by_cases y:(aj T s.at_).kind=2
 ·have:=kY ay a (by rw[y];decide);simp only[ky,dY,a,y,ne_eq,not_true,if_false,if_true,beq_self_eq_true,Bool.and_self,aS];exact eR.pure (.inl ⟨a,rfl⟩) (by simp only;omega)
 have N:((aj T s.at_).kind==2)=false:=by simpa using y
 by_cases d:(aj T s.at_).kind=1
 ·have:=Pz ay A a d ar n c ae ae;have R:((1:Int)==3)=false:=rfl;have aa:((1:Int)==4)=false:=rfl;have P:((1:Int)==2)=false:=rfl;have O:¬((1:Int)=2):=aK;simpa only[ky,dY,a,d,O,ne_eq,not_true,if_false,if_true,beq_self_eq_true,Bool.and_false,Bool.true_and,R,aa,P,aN,tL a,l,o,q,u,v,w,x,Bool.false_and,Bool.or_self,or_true,true_or]using this
 by_cases z:(aj T s.at_).kind=4
 ·have F:((4:Int)==3)=false:=rfl;have E:((4:Int)==2)=false:=rfl;have G:¬((4:Int)=2):=aK;have H:¬((4:Int)=1):=aK;have K:((4:Int)=3\/(4:Int)=4):= .inr rfl;cases M:(aj T s.at_).text==[40]with
  |true=>
   have:=AH ay A a ar n c ae ae;simpa only[ky,dY,a,z,G,H,K,F,E,M,ne_eq,not_true,if_false,if_true,beq_self_eq_true,Bool.and_false,Bool.true_and,aN,aS,tL a,l,o,q,u,v,w,x,Bool.false_and,Bool.or_self,or_true,true_or]using this
  |false=>
   have:=B d;simpa only[ky,dY,a,z,G,H,K,F,E,M,ne_eq,not_true,if_false,if_true,beq_self_eq_true,Bool.and_false,Bool.true_and,aN,aS,tL a,l,o,q,u,v,w,x,Bool.false_and,Bool.or_self,or_true,true_or]using this
 by_cases i:(aj T s.at_).kind=3
 ·have ag:=kY ay a (by rw[i];decide);have ad:(aw s).an=0:=a;have ab:((3:Int)==4)=false:=rfl;have Q:((3:Int)==2)=false:=rfl;have S:¬((3:Int)=2):=aK;have V:¬((3:Int)=1):=aK;have W:((3:Int)=3\/(3:Int)=4):= .inl rfl;simp only[ky,dY,a,i,S,V,W,ab,Q,ne_eq,not_true,if_false,if_true,beq_self_eq_true,Bool.and_false,Bool.true_and,aN,aS,tL a,l,o,q,u,v,w,x,Bool.false_and];cases t1:(aj T s.at_).text==[116,114,117,101]||(aj T s.at_).text==[102,97,108,115,101]with
  |true=>simp only[aS];exact eR.pure (.inl ⟨a,rfl⟩) (by simp only[A2];omega)
  |false=>
   cases t2:(aj T s.at_).text==[110,117,108,108]with
   |true=>
    simp only[aS,aN];have L:=of_same T (aw s);refine eR.pure ?_ (by have:=zd ay (aw s);simp only[zH];omega);refine cR.of L.st λh=> ?_
    rw[(L.resolve_right (by rintro⟨a8,_⟩;exact a8 h)).2]
   |false=>
    cases t3:(aj T s.at_).text==[110,101,119]with
    |true=>simp only[aS,aN];exact NW ay A a i ar n c ae ae
    |false=>
     cases t4:(aj T s.at_).text==[108,101,110]with
     |true=>
      simp only[aS,aN];have:=AH ay (k:=k-1) (λj ah=>A j ae) (s:=aw s) ad ae n c ae ae;exact(this.map λe=>aE.mk {kind:=10,pos:=(aj T s.at_).pos} [e]).le ae
     |false=>
      cases t5:(aj T s.at_).text==[114,101,97,100]with
      |true=>
       simp only[aS,aN];exact eR.pure (Qz a) (by have:=O2 ay s;omega)
      |false=>simp only[aN];exact B d
 ·have b3:((aj T s.at_).kind==3)=false:=by simpa using i
  have cY:((aj T s.at_).kind==4)=false:=by simpa using z
  have:=B d;simpa only[ky,dY,a,d,y,i,z,N,b3,cY,ne_eq,not_true,if_false,if_true,beq_self_eq_true,Bool.and_false,Bool.true_and,aN,aS,tL a,l,o,q,u,v,w,x,Bool.false_and,Bool.or_self,or_self]using this
def Va{T:List Tok}(ay:T.length<=40000000){k:Nat}(o:∀j,j<k->kh T j){s:al}(w:s.an=0)(ar:left T s<=k)(n a:Nat)(F:30*k+14<=n)(G:30*k+14<=a):
  eR T s (lX T n s) (gj T a s):=by
 obtain⟨n,rfl⟩:∃m,n=m+1:=⟨n-1,ae⟩;obtain⟨a,rfl⟩:∃m,a=m+1:=⟨a-1,ae⟩;have aq:aV T s [45]=bz T s 4 [45]:=rfl;have aH:aV T s [33]=bz T s 4 [33]:=rfl;have y:∀(x:aC) (u:Int),kw x=4->bz T s 4 x=X->eR T s (pG T n x u s) (hZ T a u s):=by
  intro x u E A;obtain⟨n,rfl⟩:∃m,n=m+1:=⟨n-1,ae⟩;obtain⟨a,rfl⟩:∃m,a=m+1:=⟨a-1,ae⟩;have B:(aj T s.at_).text=x:=(mh A).2.2;simp only[pG,hZ,B];rcases Ai ay o w ar E 5 (n+1) a ae ae ae with⟨i,l,p,q,d,e,c,v⟩|⟨i,l,d,e,c⟩
  ·have z:lX T n (da T x s).2=D p:=by rw[gP]at d;exact d
   simp only[i,z,e,Option.bind_some,aS];refine eR.pure ?_ (by rw[ze];omega);refine cR.of c.st.out λh=> ?_
   rw[(c.resolve_right (by rintro⟨a8,_⟩;exact a8 h)).2]
  ·simp only[i,c,Option.bind_some,aN];exact eR.pure (.inr ⟨l,d,e⟩) (by simp only[kX l];omega)
 simp only[lX,gj,aq,aH];cases i1:bz T s 4 [45]with
 |true=>simp only[aS];exact y [45] 12 rfl i1
 |false=>
  cases i2:bz T s 4 [33]with
  |true=>simp only[aS,aN];exact y [33] 13 rfl i2
  |false=>
   simp only[aN];obtain⟨n,rfl⟩:∃m,n=m+2:=⟨n-2,ae⟩;obtain⟨a,rfl⟩:∃m,a=m+1:=⟨a-1,ae⟩;obtain⟨p,q,d,e,c,v⟩:=Nz ay o w ar n a ae ae;have:=(yp ay o k (n+1) (a+1) p.2 q.2 p.1 q.1 ae ae ae ae c.st (λh=>by
    rw[(c.resolve_right (by rintro⟨a8,_⟩;exact a8 h)).2])).le v
   rw[oE];simpa only[d,e,Option.bind_some]using this
def IF{T:List Tok}(ay:T.length<=40000000){k:Nat}(c:∀j,j<k->kh T j){s:al}(d:s.an=0)(ar:left T s<=k):∀(j lev n a:Nat),lev+j=5->30*k+20<=n+lev->30*k+20<=a+lev->eR T s (gP T n lev s) (dF T a lev s)
 |0,lev,n,a,i,l,o=>by
  obtain rfl:lev=5:=ae;obtain⟨n,rfl⟩:∃m,n=m+1:=⟨n-1,ae⟩;obtain⟨a,rfl⟩:∃m,a=m+1:=⟨a-1,ae⟩;simp only[gP,dF,if_true];exact Va ay c d ar n a ae ae
 |j+1,lev,n,a,i,l,o=>by
  have e:¬lev=5:=ae;obtain⟨n,rfl⟩:∃m,n=m+1:=⟨n-1,ae⟩;obtain⟨a,rfl⟩:∃m,a=m+1:=⟨a-1,ae⟩;obtain⟨p,q,g1,g2,g3,g4⟩:=IF ay c d ar j (lev+1) n a ae ae ae;have:=(ID ay c (lev:=lev) ae k n a p.2 q.2 p.1 q.1 ae ae ae ae g3.st (λh=>by
   rw[(g3.resolve_right (by rintro⟨a8,_⟩;exact a8 h)).2])).le g4
  simpa only[gP,dF,e,if_false,g1,g2,Option.bind_some]using this
def Aj{T:List Tok}(ay:T.length<=40000000):∀k,kh T k:=by
 intro k
 induction k using Nat.strongRecOn with
 |_ k i=>
  intro s ar lev n c d e h;by_cases a:s.an=0
  ·exact IF ay i a ar (5-lev) lev n c ae e h
  ·exact QW a lev n c d ae ae
def bU.cells(a:bU)(kv:aa):List aa:=[I J a.kind,I J a.n,Z a.name,Z a.b4,I J a.cy,kv,I J a.pos,I J a.jc,I J a.sX,I J a.na,I J a.ref]
mutual
def cT(H:af)(ok:Nat->Prop):aE->aa->Prop
 | .mk a ks,v=>∃kv,v= .agg (a.cells kv)/\((kv= .aA/\ks.length=0)\/(∃l i cap ro els,kv= .aG l i ks.length 11 cap/\ok l/\H.get l=D (.row ro 11 els)/\dz H ok ks (els.drop i))\/∃l i cap,kv= .aG l i 0 11 cap/\ks.length=0)
def dz(H:af)(ok:Nat->Prop):List aE->List (List aa)->Prop
 |[],_=>True
 |e::es,[]=>False
 |e::es,cs::css=>cT H ok e (.agg cs)/\dz H ok es css
end
def cz(H:af)(ok:Nat->Prop)(ks:List aE)(kv:aa):Prop:=(kv= .aA/\ks.length=0)\/(∃l i cap ro els,kv= .aG l i ks.length 11 cap/\ok l/\H.get l=D (.row ro 11 els)/\dz H ok ks (els.drop i))\/∃l i cap,kv= .aG l i 0 11 cap/\ks.length=0
def iO{H:af}{ok:Nat->Prop}{a:bU}{ks:List aE}{v:aa}:cT H ok (.mk a ks) v↔∃kv,v= .agg (a.cells kv)/\cz H ok ks kv:=by
 rw[cT];rfl
def dA(H:af)(ok:Nat->Prop)(H':af)(ok':Nat->Prop):Prop:=∀l ro els,ok l->H.get l=D (.row ro 11 els)->ok' l/\H'.get l=D (.row ro 11 els)
mutual
def cT.a1{H H':af}{ok ok':Nat->Prop}(p:dA H ok H' ok'):∀(e:aE) (v:aa),cT H ok e v->cT H' ok' e v
 | .mk a ks,v,h=>by
  rw[cT]at h ⊢;obtain⟨kv,d,c⟩:=h;refine⟨kv,d,?_⟩;rcases c with c|⟨l,i,cap,ro,els,aq,aH,bu,cq⟩|c
  ·exact .inl c
  ·obtain⟨bb,j⟩:=p l ro els aH bu;exact .inr (.inl ⟨l,i,cap,ro,els,aq,bb,j,dz.a1 p ks _ cq⟩)
  ·exact .inr (.inr c)
def dz.a1{H H':af}{ok ok':Nat->Prop}(p:dA H ok H' ok'):∀(es:List aE) (cs:List (List aa)),dz H ok es cs->dz H' ok' es cs
 |[],_,_=>by rw[dz];trivial
 |e::es,[],h=>by rw[dz]at h;exact h.elim
 |e::es,cs::css,h=>by
  rw[dz]at h ⊢;exact⟨cT.a1 p e _ h.1,dz.a1 p es css h.2⟩
end
def cz.a1{H H':af}{ok ok':Nat->Prop}(p:dA H ok H' ok'){ks:List aE}{v:aa}(h:cz H ok ks v):cz H' ok' ks v:=by
 rcases h with a|⟨l,i,cap,ro,els,aq,aH,bu,cq⟩|a
 ·exact .inl a
 ·obtain⟨bb,c⟩:=p l ro els aH bu;exact .inr (.inl ⟨l,i,cap,ro,els,aq,bb,c,dz.a1 p ks _ cq⟩)
 ·exact .inr (.inr a)
def dA.mut{r:Nat}{H H':af}{ok ok':Nat->Prop}(m:cv r H H')(c:¬ok r)(a:∀l,ok l->ok' l):dA H ok H' ok':=λl ro els h e=>⟨a l h,m.get e (by rintro rfl;exact c h)⟩
def dA.aR{H H':af}{ok ok':Nat->Prop}(m:aU H H')(a:∀l,ok l->ok' l):dA H ok H' ok':=λl ro els h e=>⟨a l h,m.get e⟩
def bx(n:Nat):Nat->Prop:=λl=>n<=l
def cT.agg{H:af}{ok:Nat->Prop}{e:aE}{v:aa}(h:cT H ok e v):∃k n cC o d kv p t1 t2 t3 m,v= .agg [I J k,I J n,Z cC,Z o,I J d,kv,I J p,I J t1,I J t2,I J t3,I J m]/\kv.one=true:=by
 cases e with|mk a ks=>
 rw[iO]at h;obtain⟨kv,c,j⟩:=h;refine⟨_,_,_,_,_,kv,_,_,_,_,_,c,?_⟩;rcases j with⟨rfl,_⟩|⟨l,i,cap,ro,els,rfl,_⟩|⟨l,i,cap,rfl,_⟩<;>rfl
def cT.leaf(H:af)(ok:Nat->Prop)(a:bU):cT H ok (.mk a []) (.agg (a.cells .aA)):=by
 rw[iO];exact⟨_,rfl,.inl ⟨rfl,rfl⟩⟩
def lb(l:Nat)(cs:List aa)(h:cs.length=11)(a:cs.all aa.one=X):cl P l 41 1 [(0,.agg cs)]=D (.aG l 0 1 11 (D 1),.row U 11 [cs]):=by
 have:cl P l 41 1 [(0,.agg cs)]=(kk 11 (List.replicate 1 [I J 0,I J 0,Z [],Z [],I J 0,.aA,I J 0,I J 0,I J 0,I J 0,I J 0]) [(0,.agg cs)]).bind λels=>D (.aG l 0 1 11 (D 1),.row U 11 els):=ah
 rw[this];simp[kk,aa.cells,h,a]
def AI(l:Nat)(cs a:List aa)(h:cs.length=11)(c:cs.all aa.one=X)(a8:a.length=11)(d:a.all aa.one=X):cl P l 41 2 [(0,.agg cs),(1,.agg a)]=D (.aG l 0 2 11 (D 2),.row U 11 [cs,a]):=by
 have:cl P l 41 2 [(0,.agg cs),(1,.agg a)]=(kk 11 (List.replicate 2 [I J 0,I J 0,Z [],Z [],I J 0,.aA,I J 0,I J 0,I J 0,I J 0,I J 0]) [(0,.agg cs),(1,.agg a)]).bind λels=>D (.aG l 0 2 11 (D 2),.row U 11 els):=ah
 rw[this];have e:List.replicate 2 [aa.int J 0,I J 0,Z [],Z [],I J 0,.aA,I J 0,I J 0,I J 0,I J 0,I J 0]=[[aa.int J 0,I J 0,Z [],Z [],I J 0,.aA,I J 0,I J 0,I J 0,I J 0,I J 0],[aa.int J 0,I J 0,Z [],Z [],I J 0,.aA,I J 0,I J 0,I J 0,I J 0,I J 0]]:=rfl;rw[e];simp[kk,aa.cells,h,c,a8,d]
def dA.push{H:af}{ok ok':Nat->Prop}(b:cb)(a:∀l,ok l->ok' l):dA H ok (H.push b) ok':=dA.aR (aU.push H b) a
def dA.set{H:af}{ok ok':Nat->Prop}{l:Nat}(b:cb)(h:¬ok l)(c:∀l,ok l->ok' l):dA H ok (H.set l b) ok':=λj ro els a e=>⟨c j a,by rw[af.get_set_other (by rintro rfl;exact h a)];exact e⟩
def dA.nu{H:af}{ok ok':Nat->Prop}(h:∀l,ok l->ok' l):dA H ok H ok':=λl ro els a e=>⟨h l a,e⟩
def cT.cells{H:af}{ok:Nat->Prop}{e:aE}{v:aa}(h:cT H ok e v):∃cs,v= .agg cs/\cs.length=11/\cs.all aa.one=true:=by
 obtain⟨k,n,cC,o,d,kv,p,t1,t2,t3,c,rfl,a⟩:=h.agg;exact⟨_,rfl,rfl,by simp only[List.all_cons,List.all_nil,hs,hS,a,Bool.and_self]⟩
def cT.same{H:af}{ok:Nat->Prop}{e:aE}{v:aa}(h:cT H ok e v):bp (D v) v=true:=by
 cases e with|mk a ks=>
 rw[iO]at h;obtain⟨kv,rfl,c⟩:=h;have:aa.beq kv kv=true:=by rcases c with⟨rfl,_⟩|⟨l,i,cap,ro,els,rfl,_⟩|⟨l,i,cap,rfl,_⟩<;>simp[aa.beq]
 simp[bp,aa.beq,hg.beq,bU.cells,this]
def xT(ok:Nat->Prop)(H:af)(r:Nat)(T:List Tok)(ax cc:aa)(e:aE)(s':al)(v:aa)(H':af):Prop:=cv r H H'/\ll H' r T ax cc s'/\cT H' ok e v
abbrev te(H:af):=xT (bx H.next) H
def te.box{H c:af}{r:Nat}{T:List Tok}{ax cc:aa}{s s':al}{a:bU}{ks:List aE}{kv:aa}{b:Nat}{lo:Nat}(h:ll H r T ax cc s)(m:cv r H c)(e:kO c r ax cc s')(i:H.next<=b)(n:b<lo)(j:cz c (bx lo) ks kv)(d:cb):
  te H r T ax cc (.mk a ks) s' (.agg (a.cells kv)) (c.set b d):=by
 have k:=h.rd.lt;have m':=m.db (.inr i) d;refine⟨m',h.mut m' ?_,?_⟩
 ·unfold kO at e ⊢;rw[af.get_set_other ae];exact e
 ·rw[iO];exact⟨kv,rfl,j.a1 (dA.set _ (by unfold bx;omega) λl k=>by unfold bx at*;omega)⟩
def cz.nil(H:af)(ok:Nat->Prop):cz H ok [] .aA:= .inl ⟨rfl,rfl⟩
def xT.fin{ok:Nat->Prop}{H b5:af}{r:Nat}{T:List Tok}{ax cc:aa}{s s':al}{a:bU}{ks:List aE}{kv:aa}(e:ll H r T ax cc s)(m:cv r H b5)(c:kO b5 r ax cc s')(d:cz b5 ok ks kv):xT ok H r T ax cc (.mk a ks) s' (.agg (a.cells kv)) b5:=
 ⟨m,e.mut m c,iO.2 ⟨kv,rfl,d⟩⟩
def cz.qo{H:af}{ok:Nat->Prop}{L:Nat}{e:aE}{cs:List aa}{cap:Option Nat}{ro:Bool}(a:H.get L=D (.row ro 11 [cs]))(c:ok L)(h:cT H ok e (.agg cs)):cz H ok [e] (.aG L 0 1 11 cap):=by
 refine .inr (.inl ⟨L,0,cap,ro,[cs],rfl,c,a,?_⟩);simp only[List.drop_zero];rw[dz,dz];exact⟨h,trivial⟩
def cz.A7{H:af}{ok:Nat->Prop}{L:Nat}{e f:aE}{cs a:List aa}{cap:Option Nat}{ro:Bool}(c:H.get L=D (.row ro 11 [cs,a]))(d:ok L)(h:cT H ok e (.agg cs))(a8:cT H ok f (.agg a)):cz H ok [e,f] (.aG L 0 2 11 cap):=by
 refine .inr (.inl ⟨L,0,cap,ro,[cs,a],rfl,d,c,?_⟩);simp only[List.drop_zero];rw[dz,dz,dz];exact⟨h,a8,trivial⟩
def cT.mut{H H':af}{ok ok':Nat->Prop}{r:Nat}{e:aE}{v:aa}(h:cT H ok e v)(m:cv r H H')(c:¬ok r)(a:∀l,ok l->ok' l):cT H' ok' e v:=cT.a1 (dA.mut m c a) e v h
def cT.new{H H':af}{ok:Nat->Prop}{n:Nat}{e:aE}{v:aa}(h:cT H (bx n) e v)(m:dp (· <n) H H')(c:∀l,n<=l->ok l):cT H' ok e v:=
 cT.a1 (λl ro els a g=>⟨c l a,m.get g (Nat.not_lt.2 a)⟩) e v h
def gD(n:Nat):Prop:=∀{H:af} {r:Nat} {T:List Tok} {ax cc:aa} {s:al},ll H r T ax cc s->cc≠ .aA->∀(lev:Nat),lev<=5->∀(e:aE) (s':al),gP T n lev s=D (e,s')->W (aI P aB 165 [.ptr r 0 0,I J lev] H) (te H r T ax cc e s')
def te.ret{H a:af}{r:Nat}{T:List Tok}{ax cc:aa}{s s':al}{e:aE}{v:aa}{b n:Nat}(i:ll H r T ax cc s)(m:cv r H a)(d:kO a r ax cc s')(j:H.next<=b)(he:cT a (bx n) e v)(k:b<n)(c:cb):te H r T ax cc e s' v (a.set b c):=by
 have o:=i.rd.lt;have m':=m.db (.inr j) c;refine⟨m',i.mut m' ?_,he.new (dp.db (S:=(· <n)) (dp.refl _ _) (.inl k) _) λl h=>by unfold bx;omega⟩;unfold kO at d ⊢;rw[af.get_set_other ae];exact d
def dz.append{H:af}{ok:Nat->Prop}:∀(es:List aE) (cs:List (List aa)) (e:aE) (c:List aa),dz H ok es cs->cs.length=es.length->cT H ok e (.agg c)->dz H ok (es++[e]) (cs++[c])
 |[],[],e,c,_,_,h=>by
  simp only[List.nil_append];rw[dz,dz];exact⟨h,trivial⟩
 |[],_::_,e,c,_,a,_=>by simp at a
 |_::_,[],e,c,h,_,_=>by rw[dz]at h;exact h.elim
 |aq::es,d::cs,e,c,h,a,he=>by
  rw[dz]at h;simp only[List.cons_append];rw[dz];exact⟨h.1,dz.append es cs e c h.2 (by simpa using a) he⟩
def KC:P.underlying 41=D (.slice 45):=ah
def CL:je P 45=D 120:=ah
def Ca:fE P 45=D (.agg [I J 0,I J 0,Z [],Z [],I J 0,.aA,I J 0,I J 0,I J 0,I J 0,I J 0]):=ah
def L7{H:af}{L:Nat}{cs:List aa}{cap:Option Nat}{ro:Bool}(a:H.get L=D (.row ro 11 [cs])):df P H [41,41] .aA (.aG L 0 1 11 cap)=D (.aG H.next 0 1 11 C,H.push (.row U 11 [cs])):=by
 simp[df,jj,kR,eg,KC,xr,CL,Ca,jG,fr,a,aa.cells]
def L8{H:af}{L l n:Nat}{cs:List aa}{els:List (List aa)}{cap:Option Nat}{ro:Bool}(d:H.get L=D (.row ro 11 [cs]))(e:H.get l=D (.row U 11 els))(h:els.length=n)(i:n<=1000000000):df P H [41,41] (.aG l 0 n 11 C) (.aG L 0 1 11 cap)=D (.aG H.next 0 (n+1) 11 C,(H.set l .dead).push (.row U 11 (els++[cs]))):=by
 have a:(n+1)*120<=140737488355328:=ae;have c:n+1<=9223372036854775807:=ae;simp[df,jj,kR,eg,KC,xr,CL,Ca,jG,fr,d,e,aa.cells,h,a,c];rw[List.take_of_length_le ae]
def fn(n:Nat):aa:= .func (.func n) [] []
def m_(at_ bk:Int):al:=⟨at_,if bk<0 then 0 else bk,0,0⟩
