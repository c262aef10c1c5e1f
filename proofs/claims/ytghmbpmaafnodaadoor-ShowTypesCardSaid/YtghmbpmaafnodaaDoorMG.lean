/-
  Texts of one proof, laid together: L3 L4 ShL A1 Sr Z1 Z2 Z3 Z4 Z5 Z6 Z7 Z8 Z9 Z10 Z11 X2 X3 X4 X5 X6 X7 X8 X9 X10.
-/
import Derived.Test.YtghmbpmaafnodaaDoorMF
set_option linter.unusedVariables false
set_option linter.unusedSimpArgs false
set_option linter.defProp false
open Option renaming some→D,none→Z
open Bool renaming true→X,false→U
open Go.b9.aa renaming int→I,str→Y
open Go.IntKind renaming i64→J
namespace Go.Proofs.YtghmbpmaafnodaaDoor
open Go.b9
open Nat (reduceAdd reduceLeDiff)
def tS(k:Int)(x:aB)(p:Int):ch P 61 [(0,I J k),(1,Y x),(3,I J p)]=D (.agg [I J k,Y x,I J 0,I J p]):=ah
def rr(k:Int)(z:Int)(p:Int):ch P 61 [(0,I J k),(2,I J z),(3,I J p)]=D (.agg [I J k,Y [],I J z,I J p]):=ah
def GO(k:Int)(p:Int):ch P 61 [(0,I J k),(3,I J p)]=D (.agg [I J k,Y [],I J 0,I J p]):=ah
def vV(d:Bool):∀s:aB,runN d s<=s.length
 |[]=>bf _
 |c::r=>by
  rw[runN];have:=vV d r;cases du c||(!d&&dj c)with
  |true=>simp only[aU,List.length_cons];omega
  |false=>simp only[aO,List.length_cons];omega
def vp(p:Nat):Option (Int×aB×Int×Nat)->aa
 |none=> .tuple [.agg [I J 0,Y [],I J 0,I J 0],I J 0]
 |some (k,t,v,m)=> .tuple [.agg [I J k,Y t,I J v,I J p],I J m]
def Jg{H:ad}{s:aB}(az:s.length<=1000000000000000000){at_:Nat}(R:at_<s.length):W (aA P aw 39 [Y s,I J at_] H) λv H'=>v=vp at_ (fL (s.drop at_))/\aM H H':=by
 refine cA (λ_=>Kl 0) ?_;obtain⟨c,r,u⟩:∃c r,s.drop at_=c::r:=by
  cases h:s.drop at_ with
  |nil=>have:=drop_nil h;omega
  |cons c r=>exact⟨c,r,rfl⟩
 obtain⟨Q,ah,ai,ak⟩:=drop_cons u;have l:=jH Q;have q:=aM.push H (.row U 4 [[I J 0,Y [],I J 0,I J 0]]);have N:=λd=>vV d (s.drop at_)
 have T:(s.drop at_).length=s.length-at_:=by simp
 simp-implicitDefEqProofs(disch:=try exact aj)only[eR,reduceAdd,reduceLeDiff,reduceIte,av,l];refine lu (oy _) ?_;cases M:j_ (c.toNat:Int)with
 |true=>
  simp-implicitDefEqProofs(disch:=try exact aj)only[eR,bd,br];refine lu (Dz az at_ af U) ?_;have V:=N U;have n:=q0 (s:=s) (a:=at_) (b:=at_+runN U (s.drop at_)) af af;rw[Nat.add_sub_cancel_left]at n;simp-implicitDefEqProofs(disch:=try exact aj)only[eR,bd,br,c7,kE,n];refine aL (xh _) ?_;rintro _ A ⟨rfl,e⟩;refine⟨e.1,?_⟩;have g2:A.get H.next=D (.row U 4 [[I J 0,Y [],I J 0,I J 0]]):=e.get (ad.bx _ _)
  have aa:=ad.aR g2;have k:fL (s.drop at_)=(bif e1 ((s.drop at_).take (runN U (s.drop at_)))then D (3,(s.drop at_).take (runN U (s.drop at_)),0,runN U (s.drop at_))else bif dQ ((s.drop at_).take (runN U (s.drop at_)))then D (1,(s.drop at_).take (runN U (s.drop at_)),0,runN U (s.drop at_))else Z):=by
   have w:dj c=true:=M;simp only[u,fL,w,aU]
  cases hw:e1 ((s.drop at_).take (runN U (s.drop at_)))with
  |true=>
   rw[k,hw];simp-implicitDefEqProofs(disch:=try exact aj)only[eR,reduceAdd,reduceLeDiff,reduceIte,av,tS,g2];exact a_.2 ⟨rfl,(q.trans e).cz (bf _) _⟩
  |false=>
   rw[k,hw];simp-implicitDefEqProofs(disch:=try exact aj)only[eR,bd,br];refine aL (FE (by simp only[List.length_take];omega)) ?_;rintro _ ag ⟨rfl,x⟩;refine⟨x.1,?_⟩;have g3:=x.get g2;have dI:=ad.aR g3;cases am:dQ ((s.drop at_).take (runN U (s.drop at_)))with
   |true=>
    simp-implicitDefEqProofs(disch:=try exact aj)only[eR,reduceAdd,reduceLeDiff,reduceIte,av,tS,g3];exact a_.2 ⟨rfl,((q.trans e).trans x).cz (bf _) _⟩
   |false=>
    simp-implicitDefEqProofs(disch:=try exact aj)only[eR,reduceAdd,reduceLeDiff,reduceIte,av,g3];exact a_.2 ⟨rfl,((q.trans e).trans x).cz (bf _) _⟩
 |false=>
  simp-implicitDefEqProofs(disch:=try exact aj)only[eR,bd,br,l];refine lu (ud _) ?_;have w:dj c=false:=M;have g1:(H.push (.row U 4 [[I J 0,Y [],I J 0,I J 0]])).get H.next=D (.row U 4 [[I J 0,Y [],I J 0,I J 0]]):=ad.bx _ _
  cases L:lC (c.toNat:Int)with
  |true=>
   have E:du c=true:=L;simp-implicitDefEqProofs(disch:=try exact aj)only[eR,bd,br];refine lu (Dz az at_ af X) ?_;have V:=N X;have n:=q0 (s:=s) (a:=at_) (b:=at_+runN X (s.drop at_)) af af;rw[Nat.add_sub_cancel_left]at n;simp-implicitDefEqProofs(disch:=try exact aj)only[eR,bd,br,c7,kE,n];refine lu (NH (by simp only[List.length_take];omega) (λc S=>Dt _ c S)) ?_;have k:fL (s.drop at_)=(match gV 0 ((s.drop at_).take (runN X (s.drop at_)))with
    |none=>Z
    |some v=>bif (decide (1<runN X (s.drop at_))&&c.toNat==48)||(decide (runN X (s.drop at_)<(s.drop at_).length)&&dj (((s.drop at_)[runN X (s.drop at_)]?).getD 0))then Z else D (2,[],v,runN X (s.drop at_))):=by
    simp only[u,fL,w,E,aU,aO]<;>rfl
   rw[k];cases an:gV 0 ((s.drop at_).take (runN X (s.drop at_)))with
   |none=>
    simp-implicitDefEqProofs(disch:=try exact aj)only[eR,reduceAdd,reduceLeDiff,reduceIte,av,Bool.not_false,g1];exact a_.2 ⟨rfl,aM.push _ _⟩
   |some z=>
    generalize al:runN X (s.drop at_)=ae at*;have aZ:decide (1<ae)=decide ((1:Int)<(ae:Int)):=by rw[decide_eq_decide];omega
    have K:((c.toNat:Int)==48)=(c.toNat==48):=by rw[Bool.eq_iff_iff];simp;omega
    have ab:decide (ae<(s.drop at_).length)=decide (((at_+ae:Nat):Int)<(s.length:Int)):=by rw[decide_eq_decide,T];omega
    rw[aZ,ab];simp only
    cases m:decide ((1:Int)<(ae:Int))with
    |true=>
     cases B:c.toNat==48 with
     |true=>
      simp-implicitDefEqProofs(disch:=try exact aj)only[eR,reduceAdd,reduceLeDiff,reduceIte,av,Bool.not_true,m,l,K,B,g1];exact a_.2 ⟨rfl,aM.push _ _⟩
     |false=>
      cases i:decide (((at_+ae:Nat):Int)<(s.length:Int))with
      |false=>
       simp-implicitDefEqProofs(disch:=try exact aj)only[eR,reduceAdd,reduceLeDiff,reduceIte,av,Bool.not_true,m,l,K,B,kE,i,g1,rr];exact a_.2 ⟨rfl,aM.push _ _⟩
      |true=>
       obtain⟨y,o⟩:∃y,s[at_+ae]? =D y:=⟨s[at_+ae]'(by have:=of_decide_eq_true i;omega),by simp⟩;have F:=jH o;have G:(s.drop at_)[ae]? =D y:=by rw[List.getElem?_drop];exact o
       simp-implicitDefEqProofs(disch:=try exact aj)only[eR,reduceAdd,reduceLeDiff,reduceIte,av,Bool.not_true,m,l,K,B,kE,i,F];refine nZ (oy _) ?_;rw[G];cases p:j_ (y.toNat:Int)with
       |true=>
        have j:dj y=true:=p;simp-implicitDefEqProofs(disch:=try exact aj)only[eR,reduceAdd,reduceLeDiff,reduceIte,av,g1,Option.getD_some,j];exact a_.2 ⟨rfl,aM.push _ _⟩
       |false=>
        have j:dj y=false:=p;simp-implicitDefEqProofs(disch:=try exact aj)only[eR,reduceAdd,reduceLeDiff,reduceIte,av,g1,rr,Option.getD_some,j];exact a_.2 ⟨rfl,aM.push _ _⟩
    |false=>
     cases i:decide (((at_+ae:Nat):Int)<(s.length:Int))with
     |false=>
      simp-implicitDefEqProofs(disch:=try exact aj)only[eR,reduceAdd,reduceLeDiff,reduceIte,av,Bool.not_true,m,kE,i,g1,rr];exact a_.2 ⟨rfl,aM.push _ _⟩
     |true=>
      obtain⟨y,o⟩:∃y,s[at_+ae]? =D y:=⟨s[at_+ae]'(by have:=of_decide_eq_true i;omega),by simp⟩;have F:=jH o;have G:(s.drop at_)[ae]? =D y:=by rw[List.getElem?_drop];exact o
      simp-implicitDefEqProofs(disch:=try exact aj)only[eR,reduceAdd,reduceLeDiff,reduceIte,av,Bool.not_true,m,kE,i,F];refine nZ (oy _) ?_;rw[G];cases p:j_ (y.toNat:Int)with
      |true=>
       have j:dj y=true:=p;simp-implicitDefEqProofs(disch:=try exact aj)only[eR,reduceAdd,reduceLeDiff,reduceIte,av,g1,Option.getD_some,j];exact a_.2 ⟨rfl,aM.push _ _⟩
      |false=>
       have j:dj y=false:=p;simp-implicitDefEqProofs(disch:=try exact aj)only[eR,reduceAdd,reduceLeDiff,reduceIte,av,g1,rr,Option.getD_some,j];exact a_.2 ⟨rfl,aM.push _ _⟩
  |false=>
   have E:du c=false:=L;simp-implicitDefEqProofs(disch:=try exact aj)only[eR,bd,br];refine aL (MK az R) ?_;rintro _ A ⟨rfl,e⟩;refine⟨e.1,?_⟩;have g2:A.get H.next=D (.row U 4 [[I J 0,Y [],I J 0,I J 0]]):=e.get (ad.bx _ _)
   have aa:=ad.aR g2;have k:fL (s.drop at_)=(bif gD (s.drop at_)==[]then Z else D (4,gD (s.drop at_),0,(gD (s.drop at_)).length)):=by
    simp only[u,fL,w,E,aO]
   rw[k];cases O:gD (s.drop at_)==[]with
   |true=>
    simp-implicitDefEqProofs(disch:=try exact aj)only[eR,reduceAdd,reduceLeDiff,reduceIte,av,O,g2];exact a_.2 ⟨rfl,(q.trans e).cz (bf _) _⟩
   |false=>
    simp-implicitDefEqProofs(disch:=try exact aj)only[eR,reduceAdd,reduceLeDiff,reduceIte,av,O,g2,tS];exact a_.2 ⟨rfl,(q.trans e).cz (bf _) _⟩
def DQ(l:Nat)(t:Tok):bU P l 36 1 [(0,t.v)]=D (.ay l 0 1 4 (D 1),.row U 4 [t.cells]):=by
 obtain⟨k,x,n,p⟩:=t;kernel_rfl
def E4:P.underlying 36=D (.slice 61):=ah
def yg:hn P 61=D 40:=ah
def xH:eF P 61=D (.agg [I J 0,Y [],I J 0,I J 0]):=ah
def Gj{H:ad}{L:Nat}{cs:List aa}{cap:Option Nat}{ro:Bool}(a:H.get L=D (.row ro 4 [cs])):cR P H [36,36] .ar (.ay L 0 1 4 cap)=D (.ay H.next 0 1 4 Z,H.push (.row U 4 [cs])):=by
 simp[cR,hv,iZ,dy,E4,s_,yg,xH,hN,eu,a,aa.cells]
def Gk{H:ad}{L l n:Nat}{cs:List aa}{els:List (List aa)}{cap:Option Nat}{ro:Bool}(d:H.get L=D (.row ro 4 [cs]))(e:H.get l=D (.row U 4 els))(h:els.length=n)(i:n<=1000000000):cR P H [36,36] (.ay l 0 n 4 Z) (.ay L 0 1 4 cap)=D (.ay H.next 0 (n+1) 4 Z,(H.set l .dead).push (.row U 4 (els++[cs]))):=by
 have a:(n+1)*40<=140737488355328:=af;have c:n+1<=9223372036854775807:=af;simp[cR,hv,iZ,dy,E4,s_,yg,xH,hN,eu,d,e,aa.cells,h,a,c];rw[List.take_of_length_le af]
def ln(H0 H:ad)(v:aa)(T:List Tok):Prop:=(v= .ar/\T=[])\/∃l,v= .ay l 0 T.length 4 Z/\H0.next<=l/\H.get l=D (.row U 4 (T.map Tok.cells))
def ln.tok{H0 H:ad}{v:aa}{T:List Tok}(h:ln H0 H v T):eC H v T:=by
 rcases h with h|⟨l,rfl,_,a⟩
 ·exact .inl h
 ·refine .inr ⟨l,0,Z,rfl,.inr ⟨U,_,a,λk t c=> ?_⟩⟩;simp[c]
def ln.aK{H0 H H':ad}{v:aa}{T:List Tok}(h:ln H0 H v T)(p:aM H H'):ln H0 H' v T:=by
 rcases h with h|⟨l,e,a,c⟩
 ·exact .inl h
 ·exact .inr ⟨l,e,a,p.get c⟩
def xu{H0 H:ad}{v:aa}{T:List Tok}(h:ln H0 H v T)(p:aM H0 H)(aE:T.length<=1000000)(t:Tok):∃d H',cR P (H.push (.row U 4 [t.cells])) [36,36] v (.ay H.next 0 1 4 (D 1))=D (d,H')/\ln H0 H' d (T++[t])/\aM H0 H'/\(H.push (.row U 4 [t.cells])).next<=H'.next/\(∀l,l<H.next->(∀e,v≠ .ay l 0 T.length 4 e)->H'.get l=H.get l):=by
 have c:(H.push (.row U 4 [t.cells])).get H.next=D (.row U 4 [t.cells]):=ad.bx _ _
 rcases h with⟨rfl,rfl⟩|⟨l,rfl,i,a⟩
 ·refine⟨_,_,Gj c,.inr ⟨_,rfl,?_,?_⟩,(p.bs _).bs _,by simp,λl m _=> ?_⟩
  ·have:=p.1;simp only[ad.bQ];omega
  ·exact ad.bx (H.push (.row U 4 [t.cells])) _
  ·rw[ad.dp (by simp only[ad.bQ];omega),ad.dp af]
 ·have m:=ad.aR a;have k:(H.push (.row U 4 [t.cells])).get l=D (.row U 4 (T.map Tok.cells)):=by rw[ad.dp af];exact a
  refine⟨_,_,Gk c k (by simp) af,.inr ⟨(H.push (.row U 4 [t.cells])).next,by simp,?_,?_⟩,?_,by simp,λj o n=> ?_⟩
  ·have:=p.1;simp only[ad.bQ,ad.di];omega
  ·have e:((H.push (.row U 4 [t.cells])).set l .dead).next=(H.push (.row U 4 [t.cells])).next:=rfl
   simp only[List.map_append,List.map_cons,List.map_nil];rw[<-e];exact ad.bx _ _
  ·exact((p.bs _).cz i _).bs _
  ·rw[ad.dp (by simp only[ad.bQ,ad.di];omega),ad.get_set_other (by rintro rfl;exact n _ rfl),ad.dp af]
def Du(d:Bool)(c:UInt8)(r:aB)(h:(du c||(!d&&dj c))=X):1<=runN d (c::r):=by
 rw[runN,h];simp
def MJ(s:aB):(gD s).length<=s.length:=by
 unfold gD;cases decide (2<=s.length)&&e5 (s.take 2) h4 with
 |true=>simp only[aU,List.length_take];omega
 |false=>
  simp only[aO];cases s with
  |nil=>simp
  |cons c r=>simp only[List.length_cons];cases hd c gl<;>simp
def Cu{s:aB}{k:Int}{t:aB}{v:Int}{m:Nat}(h:fL s=D (k,t,v,m)):1<=m/\m<=s.length:=by
 cases s with
 |nil=>simp[fL]at h
 |cons c r=>
  have i:=λd=>vV d (c::r)
  rw[fL]at h;cases e:dj c with
  |true=>
   have aF:=Du U c r (by simp[e]);rw[e,aU]at h;cases hw:e1 ((c::r).take (runN U (c::r)))with
   |true=>rw[hw,aU]at h;cases h;exact⟨aF,i U⟩
   |false=>
    rw[hw,aO]at h;cases j:dQ ((c::r).take (runN U (c::r)))with
    |true=>rw[j,aU]at h;cases h;exact⟨aF,i U⟩
    |false=>rw[j,aO]at h;cases h
  |false=>
   rw[e,aO]at h;cases a:du c with
   |true=>
    have aF:=Du X c r (by simp[a]);rw[a,aU]at h;split at h
    ·cases h
    ·rename_i z n;rw[Bool.cond_eq_ite]at h;split at h
     ·cases h
     ·cases h;exact⟨aF,i X⟩
   |false=>
    rw[a,aO]at h;cases az:gD (c::r)==[]with
    |true=>rw[az,aU]at h;cases h
    |false=>
     rw[az,aO]at h;cases h;have l:¬gD (c::r)=[]:=by simpa using az
     have:=MJ (c::r);exact⟨List.length_pos_iff.2 l,this⟩
def n_:∀(s:aB) (b:Bool),cw b s<=s.length
 |[],b=>by cases b<;>simp[cw]
 |c::r,X=>by
  have a:=n_ r X;have d:=n_ r U;rw[cw];cases c.toNat==10<;>simp only[aU,aO,List.length_cons]<;>omega
 |c::r,U=>by
  have a:=n_ r X;have d:=n_ r U;rw[cw];cases hb c
  ·cases(c==47&&r.head?==D 47)<;>simp only[aU,aO,List.length_cons]<;>omega
  ·simp only[aU,List.length_cons];omega
def xd(H0:ad)(x:List Tok×Int×Int)(r:aa)(H':ad):Prop:=∃ak,r= .tuple [ak,.agg [I J x.2.1,I J x.2.2]]/\eC H' ak x.1/\aM H0 H'
def oz(T:List Tok):Nat ⊕ List Tok->List Tok×Int×Int
 | .inl e=>([],1,e)
 | .inr l=>(T++l,0,0)
def GL(k p:Int):ch P 29 [(0,I J k),(1,I J p)]=D (.agg [I J k,I J p]):=ah
def Ev{H0:ad}{s:aB}(az:s.length<=100000)(N:Nat):∀(n:Nat) (rest:aB) (at_ m:Nat) (T:List Tok) (v:aa) (H:ad),s.drop at_=rest->at_<=s.length->ln (H0.push (.row U 2 [[I J 0,I J 0]])) H v T->aM (H0.push (.row U 2 [[I J 0,I J 0]])) H->T.length<=at_->rest.length<n->rest.length<m->
  W (lU (aA P aw) N m (Y s) (.ptr H0.next 0 0) v (I J at_) H) (xd H0 (oz T (fr n rest at_)))
 |0,_,_,_,_,_,_,_,_,_,_,_,x,_=>af
 |_,_,_,0,_,_,_,_,_,_,_,_,_,hm=>af
 |n+1,[],at_,m+1,T,v,H,h,R,i,p,aE,x,hm=>by
  have hlen:=drop_nil h;have u:¬((at_:Int)<(s.length:Int)):=af;have S:s.length=at_:=af;have g:H.get H0.next=D (.row U 2 [[I J 0,I J 0]]):=p.get (ad.bx _ _)
  have kO:=ad.aR g;obtain⟨E,H',d,j,A,L,K⟩:=xu i p af ⟨0,[],0,s.length⟩;have a:=DQ H.next ⟨0,[],0,s.length⟩
  simp only[Tok.v]at a;simp-implicitDefEqProofs(disch:=try exact aj)only[lU,jf,kh,kZ,ki,kg,reduceAdd,reduceLeDiff,reduceIte,av,u,decide_false,GO,a,d,eK];have gM:H'.get H0.next=D (.row U 2 [[I J 0,I J 0]]):=by
   rw[K _ kO ?_];exact g;intro e he;rcases i with⟨rfl,_⟩|⟨l,rfl,ai,_⟩
   ·cases he
   ·cases he;simp only[ad.bQ]at ai;omega
  have aG:=ad.aR gM;have y:bg (D (.agg [I J 0,I J 0])) (.agg [I J 0,I J 0])=true:=by simp[bg,aa.beq,gf.beq]
  simp-implicitDefEqProofs(disch:=try exact aj)only[jf,kh,kZ,ki,kg,reduceAdd,reduceLeDiff,reduceIte,av,gM,y];have an:aM H0 H':=(aM.push _ _).trans A;have ao:aM H0 (H'.set H0.next (.row U 2 [[I J 0,I J 0]])):=an.cz (bf _) _;refine a_.2 ⟨E,rfl,?_,ao⟩;rw[fr];simp only[oz];rw[S]at j;exact j.tok.aY λl ro els e=>by
   rw[ad.get_set_other];exact e;rintro rfl;rw[gM]at e;cases e
 |n+1,c::r,at_,m+1,T,v,H,h,R,i,p,aE,x,hm=>by
  obtain⟨aC,aD,O,aF⟩:=drop_cons h;have u:((at_:Int)<(s.length:Int)):=af;have g:H.get H0.next=D (.row U 2 [[I J 0,I J 0]]):=p.get (ad.bx _ _)
  have kO:=ad.aR g;simp-implicitDefEqProofs(disch:=try exact aj)only[lU,jf,kh,kZ,ki,kg,reduceAdd,reduceLeDiff,reduceIte,av,u,decide_true];refine aL (Jg af O) ?_;rintro _ F ⟨rfl,o⟩;refine⟨o.1,?_⟩;have g2:=o.get g;have aH:=ad.aR g2;have ab:=i.aK o;replace p:=p.trans o;rw[h,fr];cases al:fL (c::r)with
  |none=>
   simp only[vp];simp-implicitDefEqProofs(disch:=try exact aj)only[jf,kh,kZ,ki,kg,reduceAdd,reduceLeDiff,reduceIte,av,GL,beq_self_eq_true,g2,ad.gy];have y:bg (D (.agg [I J 1,I J at_])) (.agg [I J 1,I J at_])=true:=by simp[bg,aa.beq,gf.beq]
   refine a_.2 ⟨.ar,rfl,.inl ⟨rfl,rfl⟩,?_⟩;exact(((aM.push _ _).trans p).cz (bf _) _).bs _
  |some q=>
   obtain⟨k,t,z,b⟩:=q;obtain⟨ax,M⟩:=Cu al;have V:((b:Int)==0)=false:=by simp;omega
   simp only[vp];simp only[List.length_cons]at M x hm;obtain⟨E,H',d,j,A,L,K⟩:=xu (ab.aK (aM.push F (.row U 4 [Tok.cells ⟨k,t,z,at_⟩]))) (p.bs _) af ⟨k,t,z,at_⟩;have a:=DQ (F.next+1) ⟨k,t,z,at_⟩;simp only[Tok.v]at a;simp only[Tok.cells,ad.bQ]at d L;simp only[Tok.cells]at a;have y:∀au:ad,bg (D (.agg [I J k,Y t,I J z,I J at_])) (.agg [I J k,Y t,I J z,I J at_])=true:=λ_=>by simp[bg,aa.beq,gf.beq]
   simp-implicitDefEqProofs(disch:=try exact aj)only[jf,kh,kZ,ki,kg,reduceAdd,reduceLeDiff,reduceIte,av,V,a,d,eK,kE];have G:s.drop (at_+b)=(c::r).drop b:=by rw[<-List.drop_drop,h]
   have ae:=n_ ((c::r).drop b) U;simp only[List.length_drop,List.length_cons]at ae;refine lu (yc af (at_:=at_+b) af) ?_;rw[G];simp only[kh];have ag:at_+b+cw U ((c::r).drop b)<=s.length:=af;have am:=Ev az N n (s.drop (at_+b+cw U ((c::r).drop b))) (at_+b+cw U ((c::r).drop b)) m (T++[⟨k,t,z,at_⟩]) E H' rfl ag j A (by simp;omega) (by simp;omega) (by simp;omega);refine am.mono ?_;rintro w aq ⟨ak,aZ,B,ap⟩;have ah:s.drop (at_+b+cw U ((c::r).drop b))=((c::r).drop b).drop (cw U ((c::r).drop b)):=by rw[<-List.drop_drop,G]
   rw[ah]at aZ B;have Q:oz (T++[⟨k,t,z,at_⟩]) (fr n (((c::r).drop b).drop (cw U ((c::r).drop b))) (at_+b+cw U ((c::r).drop b)))=oz T (match fr n (((c::r).drop b).drop (cw U ((c::r).drop b))) (at_+b+cw U ((c::r).drop b))with
     | .inl e=> .inl e
     | .inr l=> .inr (⟨k,t,z,at_⟩::l)):=by
    cases fr n (((c::r).drop b).drop (cw U ((c::r).drop b))) (at_+b+cw U ((c::r).drop b))with
    |inl e=>rfl
    |inr l=>simp[oz]
   rw[Q]at aZ B;exact⟨ak,aZ,B,ap⟩
def tA{H:ad}(s:aB):W (aA P aw 14 [Y s] H) (xd H (dq s)):=by
 refine cA (λ_=>J5 (s.length+1)) ?_;by_cases c:(6000:Int)<(s.length:Int)
 ·have a:6000<s.length:=af;simp-implicitDefEqProofs(disch:=try exact aj)only[jf,kh,kZ,ki,kg,reduceAdd,reduceLeDiff,reduceIte,av,c,decide_true];refine a_.2 ⟨.ar,by simp[dq,a],.inl ⟨rfl,by simp[dq,a]⟩,aM.push _ _⟩
 ·have a:¬6000<s.length:=af;simp-implicitDefEqProofs(disch:=try exact aj)only[jf,kh,ki,kg,reduceAdd,reduceLeDiff,reduceIte,av,c,decide_false];refine lu (yc (s:=s) af (at_:=0) af) ?_;simp only[List.drop_zero,Nat.zero_add,ki];have h:=n_ s U;refine(Ev (H0:=H) af (s.length+1) (s.length+1) (s.drop (cw U s)) (cw U s) (s.length+1) [] .ar _ rfl h (.inl ⟨rfl,rfl⟩) (.refl _) (by simp) (by simp;omega) (by simp;omega)).mono ?_;rintro v H' ⟨ak,aZ,d,i⟩;have e:oz [] (fr (s.length+1) (s.drop (cw U s)) (cw U s))=dq s:=by
   simp only[dq,if_neg a,oA];cases fr (s.length+1) (s.drop (cw U s)) (cw U s)<;>rfl
  rw[e]at aZ d;exact⟨ak,aZ,d,i⟩
section
set_option maxRecDepth 100000
noncomputable section
end
end
end Go.Proofs.YtghmbpmaafnodaaDoor
namespace Go.Proofs.YtghmbpmaafnodaaDoor.e2
open Go.b9
open Nat (reduceAdd reduceLeDiff)
structure hJ(H:ad):Prop where
 sZ:H.get 0=some (.row true 1 jn)
def hJ.aK{H H':ad}(h:hJ H)(p:aM H H'):hJ H':=⟨p.get h.sZ⟩
end Go.Proofs.YtghmbpmaafnodaaDoor.e2
namespace Go.Proofs.YtghmbpmaafnodaaDoor
open Go.b9
open Nat (reduceAdd reduceLeDiff)
def kw(x:aB):Int:=match x with
 |c::_=>if 97<=c.toNat/\c.toNat<=122 then 3 else 4
 |[]=>4
def aW(T:List Tok)(s:aq)(x:aB):Bool:=b8 T s (kw x) x
def bj(T:List Tok)(x:aB)(s:aq):aq:=bif aW T s x then aC s else cE T 2 s
def eU(s:aq):aq:={s with bO:=jq (s.bO+1)}
def cP(T:List Tok)(x:aB)(s:aq):aq:=bif aW T s x&&decide (50<=s.bO)then cE T 4 s else eU (bj T x s)
def dn(T:List Tok)(x:aB)(s:aq):aq:=er (bj T x s)
def bp(T:List Tok)(s:aq):aB×aq:=bif s.aD==0&&(ao T s.at_).kind==1 then((ao T s.at_).text,aC s)else([],cE T 2 s)
def takeN(T:List Tok)(x:aB):Nat->aq->aq
 |0,s=>s
 |n+1,s=>takeN T x n (bj T x s)
def ek(T:List Tok):Nat->Int->aq->(Int×aq) ⊕ aq
 |0,d,s=>bif aW T s [91]then .inr (cE T 4 s)else .inl (d,s)
 |n+1,d,s=>bif aW T s [91]then ek T n (d+1) (aC s)else .inl (d,s)
def eH(T:List Tok)(d:Int)(s:aq):(aB×Int)×aq:=bif aW T s [105,110,116]||aW T s [98,111,111,108]then(((ao T s.at_).text,d),takeN T [93] d.toNat (aC s)) else(((bp T s).1,d),takeN T [93] d.toNat (bp T s).2)
def b_(T:List Tok)(s:aq):(aB×Int)×aq:=match ek T 3 0 s with
 | .inr s'=>(([],0),s')
 | .inl (d,s')=>eH T d s'
def ka(x:aB):List (aB×Int)->Int
 |[]=>0
 |(y,k)::r=>bif y==x then k else ka x r
def ez(lev:Nat)(t:Tok):Int:=bif t.kind != 4 then 0 else ka t.text (jI[lev]?.getD [])
mutual
def ej(T:List Tok):Nat->Nat->aq->ae aJ
 |0,_,_=>Z
 |n+1,lev,s=>if lev=5 then jo T n s else(ej T n (lev+1) s).bind λp=>hP T n lev p.1 p.2
def hP(T:List Tok):Nat->Nat->aJ->aq->ae aJ
 |0,_,_,_=>Z
 |n+1,lev,e,s=>bif s.aD==0&&ez lev (ao T s.at_) != 0 then
  (ej T n (lev+1) (aC s)).bind λp=>hP T n lev (.mk {kind:=ez lev (ao T s.at_),pos:=(ao T s.at_).pos} [e,p.1]) p.2
  else D (e,s)
def jo(T:List Tok):Nat->aq->ae aJ
 |0,_=>Z
 |n+1,s=>bif aW T s [45]then kC T n 12 s else bif aW T s [33]then kC T n 13 s else(hQ T n s).bind λp=>fm T n p.1 p.2
def kC(T:List Tok):Nat->Int->aq->ae aJ
 |0,_,_=>Z
 |n+1,k,s=>(ej T n 5 (cP T (ao T s.at_).text s)).bind λp=>D (.mk {kind:=k,pos:=(ao T s.at_).pos} [p.1],er p.2)
def fm(T:List Tok):Nat->aJ->aq->ae aJ
 |0,_,_=>Z
 |n+1,e,s=>bif aW T s [46]then fm T n (.mk {kind:=5,name:=(bp T (aC s)).1,pos:=(ao T s.at_).pos} [e]) (bp T (aC s)).2
  else bif aW T s [91]then(ej T n 0 (cP T [91] s)).bind λp=>fm T n (.mk {kind:=6,pos:=(ao T s.at_).pos} [e,p.1]) (dn T [93] p.2)
  else D (e,s)
def ha(T:List Tok):Nat->aq->ae aJ
 |0,_=>Z
 |n+1,s=>(ej T n 0 (cP T [40] s)).bind λp=>D (p.1,dn T [41] p.2)
def hQ(T:List Tok):Nat->aq->ae aJ
 |0,_=>Z
 |n+1,s=>bif s.aD==0&&(ao T s.at_).kind==2 then D (.mk {kind:=1,n:=(ao T s.at_).n,pos:=(ao T s.at_).pos} [],aC s)
  else bif aW T s [116,114,117,101]||aW T s [102,97,108,115,101]then D (.mk {kind:=2,n:=bif (ao T s.at_).text==[116,114,117,101]then 1 else 0,pos:=(ao T s.at_).pos} [],aC s)
  else bif aW T s [110,117,108,108]then D (.mk {kind:=3,cf:=(b_ T (aC s)).1.1,c3:=(b_ T (aC s)).1.2,pos:=(ao T s.at_).pos} [],(b_ T (aC s)).2)
  else bif aW T s [110,101,119]then j6 T n (ao T s.at_).pos (aC s)
  else bif aW T s [108,101,110]then(ha T n (aC s)).bind λp=>D (.mk {kind:=10,pos:=(ao T s.at_).pos} [p.1],p.2)
  else bif aW T s [114,101,97,100]then D (.mk {kind:=11,pos:=(ao T s.at_).pos} [],dn T [41] (cP T [40] (aC s)))
  else bif aW T s [40]then ha T n s
  else bif aW T (bp T s).2 [40]then(ia T n (bp T s).2).bind λp=>D (.mk {kind:=7,name:=(bp T s).1,pos:=(ao T s.at_).pos} p.1,p.2)
  else D (.mk {kind:=4,name:=(bp T s).1,pos:=(ao T s.at_).pos} [],(bp T s).2)
def j6(T:List Tok):Nat->Int->aq->ae aJ
 |0,_,_=>Z
 |n+1,pos,s=>bif aW T s [91]then
  (ha T n (bj T [93] (b_ T (aC s)).2)).bind λp=>D (.mk {kind:=9,cf:=(b_ T (aC s)).1.1,c3:=(b_ T (aC s)).1.2,pos:=pos} [p.1],p.2)
  else D (.mk {kind:=8,cf:=(bp T s).1,pos:=pos} [],(bp T s).2)
def ia(T:List Tok):Nat->aq->ae (List aJ)
 |0,_=>Z
 |n+1,s=>bif aW T (cP T [40] s) [41]then D ([],dn T [41] (cP T [40] s))
  else(ej T n 0 (cP T [40] s)).bind λp=>g_ T n [p.1] p.2
def g_(T:List Tok):Nat->List aJ->aq->ae (List aJ)
 |0,_,_=>Z
 |n+1,l,s=>bif aW T s [44]then(ej T n 0 (aC s)).bind λp=>g_ T n (l++[p.1]) p.2 else D (l,dn T [41] s)
end
def left(T:List Tok)(s:aq):Nat:=if s.aD=0/\0<=s.at_/\s.at_<T.length then T.length-s.at_.toNat else 0
def ei{α:Type}(p q:α×aq):Prop:=(p.2.aD=0/\q=p)\/(p.2.aD≠0/\q.2.aD=p.2.aD/\q.2.cO=p.2.cO)
def jE{T:List Tok}{s:aq}(h:s.aD≠0)(k:Int)(x:aB):b8 T s k x=false:=by simp[b8,h]
def ew{T:List Tok}{s:aq}(h:s.aD≠0)(x:aB):aW T s x=false:=jE h _ _
def fp{T:List Tok}{s:aq}(h:s.aD≠0)(e:Int):cE T e s=s:=by simp[cE,h]
def Bd{T:List Tok}{s:aq}(h:s.aD≠0):∀l,lF T s l=0
 |[]=>rfl
 |(x,k)::r=>by simp[lF,jE h,Bd h r]
def Ip{T:List Tok}{s:aq}(h:s.aD≠0)(lev:Nat):lG T lev s=0:=Bd h _
def G4{T:List Tok}{s:aq}(h:s.aD≠0)(n:Nat)(c:2<=n):rv T n s=D (.zero,s):=by
 obtain⟨n,rfl⟩:∃m,n=m+2:=⟨n-2,af⟩;have a:(s.aD==0)=false:=by simpa using h
 simp[rv,kM,h,jA,a]
def Nt{T:List Tok}{s:aq}(h:s.aD≠0)(n:Nat)(a:3<=n):nP T n s=D (.zero,s):=by
 obtain⟨n,rfl⟩:∃m,n=m+1:=⟨n-1,af⟩;simp[nP,jE h,G4 h n af]
def Dm{T:List Tok}{s:aq}(h:s.aD≠0)(n:Nat)(a:1<=n)(lev:Nat)(e:aJ):nb T n lev e s=D (e,s):=by
 obtain⟨n,rfl⟩:∃m,n=m+1:=⟨n-1,af⟩;simp[nb,Ip h]
def Dk{T:List Tok}{s:aq}(h:s.aD≠0):∀(n lev:Nat),lev<=5->9<=n+lev->hC T n lev s=D (.zero,s)
 |0,lev,c,d=>af
 |n+1,lev,c,d=>by
  by_cases a:lev=5
  ·simp[hC,a,Nt h n af]
  ·simp[hC,a,Dk h n (lev+1) af af,Dm h n af]
def uQ{T:List Tok}{s:aq}{k:Int}{x:aB}(h:b8 T s k x=X):s.aD=0/\(ao T s.at_).kind=k/\(ao T s.at_).text=x:=by
 simpa [b8]using h
def mC(T:List Tok)(s:aq):aJ:= .mk {kind:=4,pos:=(ao T s.at_).pos} []
def Cb{T:List Tok}{s:aq}(h:s.aD≠0):bp T s=([],s):=by
 have a:(s.aD==0)=false:=by simpa using h
 simp[bp,a,fp h]
def Hs{T:List Tok}{s:aq}(h:s.aD≠0)(n:Nat)(c:1<=n):hQ T n s=D (mC T s,s):=by
 obtain⟨n,rfl⟩:∃m,n=m+1:=⟨n-1,af⟩;have a:(s.aD==0)=false:=by simpa using h
 simp[hQ,a,ew h,Cb h,mC]
def tT{T:List Tok}{s:aq}(h:s.aD≠0)(n:Nat)(a:1<=n)(e:aJ):fm T n e s=D (e,s):=by
 obtain⟨n,rfl⟩:∃m,n=m+1:=⟨n-1,af⟩;simp[fm,ew h]
def Nu{T:List Tok}{s:aq}(h:s.aD≠0)(n:Nat)(a:2<=n):jo T n s=D (mC T s,s):=by
 obtain⟨n,rfl⟩:∃m,n=m+1:=⟨n-1,af⟩;simp[jo,ew h,Hs h n af,tT h n af]
def yL{T:List Tok}{s:aq}(h:s.aD≠0)(n:Nat)(c:1<=n)(lev:Nat)(e:aJ):hP T n lev e s=D (e,s):=by
 obtain⟨n,rfl⟩:∃m,n=m+1:=⟨n-1,af⟩;have a:(s.aD==0)=false:=by simpa using h
 simp[hP,a]
def pZ{T:List Tok}{s:aq}(h:s.aD≠0):∀(n lev:Nat),lev<=5->9<=n+lev->ej T n lev s=D (mC T s,s)
 |0,lev,c,d=>af
 |n+1,lev,c,d=>by
  by_cases a:lev=5
  ·simp[ej,a,Nu h n af]
  ·simp[ej,a,pZ h n (lev+1) af af,yL h n af]
def BA{x:aB}:∀l:List (aB×Int),(∀p∈l,p.2≠0)->∀T s,s.aD=0->(ao T s.at_).kind=4->lF T s l=ka (ao T s.at_).text l
 |[],_,_,_,_,_=>rfl
 |(y,k)::r,h,T,s,a,c=>by
  have e:=BA (x:=x) r (λp aF=>h p (by simp[aF])) T s a c;have d:b8 T s 4 y=(y==(ao T s.at_).text):=by
   simp only[b8,a,c,beq_self_eq_true,Bool.true_and];exact BEq.comm
  simp[lF,ka,e,d]
def uU{T:List Tok}{s:aq}(a:(ao T s.at_).kind≠4):∀l,lF T s l=0
 |[]=>rfl
 |(y,k)::r=>by
  have c:b8 T s 4 y=false:=by simp[b8,a]
  simp[lF,c,uU a r]
def Iq{T:List Tok}{s:aq}(c:s.aD=0){lev:Nat}(d:lev<5):lG T lev s=ez lev (ao T s.at_):=by
 by_cases a:(ao T s.at_).kind=4
 ·have:((ao T s.at_).kind != 4)=false:=by simp[a]
  simp only[lG,ez,this,aO];refine BA (x:=[]) _ ?_ T s c a;have:lev=0\/lev=1\/lev=2\/lev=3\/lev=4:=af;rcases this with rfl|rfl|rfl|rfl|rfl<;>simp[jI]
 ·have:((ao T s.at_).kind != 4)=true:=by simp[a]
  simp[lG,ez,this,uU a]
def e4(s s':aq):Prop:=(s.aD=0/\s'=s)\/(s.aD≠0/\s'.aD=s.aD/\s'.cO=s.cO)
def e4.refl(s:aq):e4 s s:=by
 by_cases h:s.aD=0
 ·exact .inl ⟨h,rfl⟩
 ·exact .inr ⟨h,rfl,rfl⟩
def e4.out{s s':aq}(h:e4 s s'):e4 (er s) (er s'):=by
 rcases h with⟨h,rfl⟩|⟨h,a,c⟩
 ·exact .inl ⟨h,rfl⟩
 ·exact .inr ⟨h,a,c⟩
def iJ{T:List Tok}{s:aq}(h:s.aD=0)(e:Int):(cE T e s).aD=e/\(cE T e s).cO=(ao T s.at_).pos:=by simp[cE,h]
def wM{T:List Tok}{s s':aq}(h:e4 s s'){x:aB}(d:kw x=4):e4 (eo T x s).2 (bj T x s'):=by
 rcases h with⟨h,rfl⟩|⟨h,a,e⟩
 ·cases c:b8 T s' 4 x with
  |true=>simp only[eo,bj,aW,d,c,aU];exact .refl _
  |false=>simp only[eo,bj,aW,d,c,aO];exact .refl _
 ·have aX:s'.aD≠0:=by rw[a];exact h
  simp only[eo,bj,jE h,ew aX,aO,fp h,fp aX];exact .inr ⟨h,a,e⟩
def lA{T:List Tok}{s s':aq}(h:e4 s s'){x:aB}(o:kw x=4):e4 (ic T x s).2 (dn T x s'):=by
 have n:=wM (T:=T) h.out o;have k:e4 (bj T x (er s')) (dn T x s'):=by
  by_cases i:s'.aD=0
  ·have l:aW T (er s') x=aW T s' x:=rfl;cases m:aW T s' x with
   |true=>simp only[dn,bj,l,m,aU];exact .inl ⟨i,rfl⟩
   |false=>
    simp only[dn,bj,l,m,aO];have j:(er s').aD=0:=i;refine .inr ⟨by rw[(iJ j 2).1];decide,?_,?_⟩
    ·rw[(iJ j 2).1];exact(iJ i 2).1
    ·rw[(iJ j 2).2];exact(iJ i 2).2
  ·have j:(er s').aD≠0:=i;simp only[dn,bj,ew i,ew j,aO,fp i,fp j];exact .refl _
 rcases n with⟨a,b⟩|⟨a,b,c⟩
 ·rcases k with⟨d,e⟩|⟨d,e,f⟩
  ·exact .inl ⟨a,by rw[e,b];rfl⟩
  ·exact absurd (by rw[b];exact a) d
 ·rcases k with⟨d,e⟩|⟨d,e,f⟩
  ·exact absurd (b.symm.trans d) a
  ·exact .inr ⟨a,e.trans b,f.trans c⟩
def vt{T:List Tok}{s:aq}(h:s.aD=0){x:aB}(d:kw x=4):
  ((ds T x s).1=X/\b8 T s 4 x=X/\(ds T x s).2=eU (aC s)/\cP T x s=eU (aC s))\/
  ((ds T x s).1=U/\(ds T x s).2.aD≠0/\e4 (ds T x s).2 (cP T x s)):=by
 cases c:b8 T s 4 x with
 |true=>
  by_cases a:50<=s.bO
  ·refine .inr ?_;simp only[ds,cP,aW,d,c,aU,Bool.true_and,decide_eq_true a,if_pos a];exact⟨trivial,by rw[(iJ h 4).1];decide,.refl _⟩
  ·refine .inl ?_;simp only[ds,cP,bj,aW,d,c,aU,Bool.true_and,decide_eq_false a,if_neg a,aO];exact⟨trivial,trivial,rfl,trivial⟩
 |false=>
  refine .inr ?_;simp only[ds,cP,bj,aW,d,c,aO,Bool.false_and];exact⟨trivial,by rw[(iJ h 2).1];decide,.inr ⟨by rw[(iJ h 2).1];decide,rfl,rfl⟩⟩
def ei.of{α:Type}{a b:α}{s s':aq}(h:e4 s s')(e:s.aD=0->b=a):ei (a,s) (b,s'):=by
 rcases h with⟨h,rfl⟩|⟨h,c,d⟩
 ·exact .inl ⟨h,by rw[e h]⟩
 ·exact .inr ⟨h,c,d⟩
def ei.st{α:Type}{p q:α×aq}(h:ei p q):e4 p.2 q.2:=by
 rcases h with⟨h,rfl⟩|⟨h,a,c⟩
 ·exact .inl ⟨h,rfl⟩
 ·exact .inr ⟨h,a,c⟩
def tc{T:List Tok}{x:aB}(a:kw x=4):∀(n:Nat) {s s':aq},e4 s s'->e4 (jV T x n s) (takeN T x n s')
 |0,_,_,h=>h
 |n+1,_,_,h=>tc a n (wM h a)
def wy{T:List Tok}{x:aB}:∀(n:Nat) {s:aq},s.aD≠0->takeN T x n s=s
 |0,_,_=>rfl
 |n+1,s,h=>by simp[takeN,bj,ew h,fp h,wy n h]
def wL{T:List Tok}{x:aB}:∀(n:Nat) {s:aq},s.aD≠0->jV T x n s=s
 |0,_,_=>rfl
 |n+1,s,h=>by simp[jV,eo,jE h,fp h,wL n h]
def Co{T:List Tok}:∀(n:Nat) (d:Int) (s:aq),ek T n d s=hf T n d s
 |0,d,s=>rfl
 |n+1,d,s=>by
  have:aW T s [91]=b8 T s 4 [91]:=rfl;simp[ek,hf,this,Co n]
def I8{T:List Tok}(d:Int)(s:aq):ei (iN T d s) (eH T d s):=by
 have c:aW T s [105,110,116]=b8 T s 3 [105,110,116]:=rfl;have e:aW T s [98,111,111,108]=b8 T s 3 [98,111,111,108]:=rfl;by_cases a:s.aD=0
 ·cases i:b8 T s 3 [105,110,116]with
  |true=>
   simp only[iN,eH,c,e,i,Bool.not_true,Bool.false_and,Bool.and_false,aO,Bool.true_or,aU];exact ei.of (tc rfl _ (.refl _)) λ_=>rfl
  |false=>
   cases j:b8 T s 3 [98,111,111,108]with
   |true=>
    simp only[iN,eH,c,e,i,j,Bool.not_true,Bool.and_false,aO,Bool.false_or,aU];exact ei.of (tc rfl _ (.refl _)) λ_=>rfl
   |false=>
    by_cases l:(ao T s.at_).kind=1
    ·simp only[iN,eH,c,e,i,j,bp,a,l,Bool.not_false,Bool.and_self,Bool.and_true,bne_self_eq_false,aO,Bool.or_self,beq_self_eq_true,aU];exact ei.of (tc rfl _ (.refl _)) λ_=>rfl
    ·have k:((ao T s.at_).kind==1)=false:=by simpa using l
     have n:((ao T s.at_).kind != 1)=true:=by simpa using l
     have m:(cE T 2 s).aD≠0:=by rw[(iJ a 2).1];decide
     simp only[iN,eH,c,e,i,j,bp,a,k,n,Bool.not_false,Bool.and_self,Bool.and_false,aU,Bool.or_self,aO,wy _ m];exact ei.of (.refl _) λh=>absurd h m
 ·have k:(s.aD==0)=false:=by simpa using a
  have o:(aC s).aD≠0:=a;simp only[iN,eH,c,e,jE a,bp,k,Bool.false_and,Bool.or_self,aO,fp a,wy _ a,wL _ o,Bool.not_false,Bool.and_self,Bool.and_true];cases(ao T s.at_).kind != 1 with
  |true=>exact .inr ⟨a,rfl,rfl⟩
  |false=>exact .inr ⟨a,rfl,rfl⟩
def of_same(T:List Tok)(s:aq):ei (eO T s) (b_ T s):=by
 simp only[eO,b_,Co];cases hf T 3 0 s with
 |inr s'=>exact ei.of (.refl _) λ_=>rfl
 |inl p=>exact I8 p.1 p.2
def lH{T:List Tok}{s:aq}(h:s.aD≠0):left T s=0:=by simp[left,h]
def Bl{T:List Tok}(s:aq):left T (eU s)=left T s:=rfl
def IB{T:List Tok}(s:aq):left T (er s)=left T s:=rfl
def mL{T:List Tok}(s:aq)(e:Int):left T (cE T e s)<=left T s:=by
 by_cases h:s.aD=0
 ·unfold left;simp only[cE,h,if_true,true_and];split
  ·rename_i a;rw[if_pos a.2];omega
  ·omega
 ·rw[fp h];omega
def Nh{T:List Tok}{a:Int}(h:(ao T a).kind≠0):0<=a/\a<T.length:=by
 unfold ao at h;split at h
 ·exact absurd rfl h
 ·omega
def j9{T:List Tok}(aE:T.length<=40000000){s:aq}(d:s.aD=0)(e:(ao T s.at_).kind≠0):left T (aC s)+1<=left T s:=by
 obtain⟨a,c⟩:=Nh e;have hw:jq (s.at_+1)=s.at_+1:=wrap_i64 af af;have h:left T s=T.length-s.at_.toNat:=by
  unfold left;rw[if_pos ⟨d,a,c⟩]
 have i:left T (aC s)<=T.length-(s.at_+1).toNat:=by
  unfold left;simp only[aC,hw];split<;>omega
 omega
def lI{T:List Tok}(aE:T.length<=40000000){s:aq}{k:Int}{x:aB}(d:k≠0)(h:b8 T s k x=X):left T (aC s)+1<=left T s:=by
 obtain⟨a,c,_⟩:=uQ h;exact j9 aE a (by rw[c];exact d)
def u0{T:List Tok}(aE:T.length<=40000000)(s:aq)(x:aB):left T (eo T x s).2<=left T s:=by
 cases h:b8 T s 4 x with
 |true=>simp only[eo,h,aU];have:=lI aE b1 h;omega
 |false=>simp only[eo,h,aO];exact mL s 2
def ow{T:List Tok}(aE:T.length<=40000000)(s:aq)(x:aB):left T (ic T x s).2<=left T s:=u0 aE (er s) x
def Bq{T:List Tok}(aE:T.length<=40000000)(x:aB):∀(n:Nat) (s:aq),left T (jV T x n s)<=left T s
 |0,s=>bf _
 |n+1,s=>Nat.le_trans (Bq aE x n _) (u0 aE s x)
def Bp{T:List Tok}(aE:T.length<=40000000):∀(n:Nat) (d:Int) (s:aq),(∀a s',hf T n d s= .inl (a,s')->left T s'<=left T s)/\(∀s',hf T n d s= .inr s'->left T s'<=left T s)
 |0,d,s=>by
  cases h:b8 T s 4 [91]with
  |true=>simp only[hf,h,aU];exact⟨by simp,by rintro _ ⟨⟩;exact mL s 4⟩
  |false=>simp only[hf,h,aO];exact⟨by rintro _ _ ⟨⟩;exact bf _,by simp⟩
 |n+1,d,s=>by
  cases h:b8 T s 4 [91]with
  |true=>
   simp only[hf,h,aU];obtain⟨i1,i2⟩:=Bp aE n (d+1) (aC s);have c:=lI aE b1 h;exact⟨λa s' aX=>by have:=i1 a s' aX;omega,λs' aX=>by have:=i2 s' aX;omega⟩
  |false=>simp only[hf,h,aO];exact⟨by rintro _ _ ⟨⟩;exact bf _,by simp⟩
def Bo{T:List Tok}(aE:T.length<=40000000)(d:Int)(s:aq):left T (iN T d s).2<=left T s:=by
 by_cases e:s.aD=0
 ·cases c:((ao T s.at_).kind != 1&&(!b8 T s 3 [105,110,116]&& !b8 T s 3 [98,111,111,108]))with
  |true=>simp only[iN,c,aU];exact mL s 2
  |false=>
   simp only[iN,c,aO];have a:(ao T s.at_).kind≠0:=by
    intro a;have i:∀x,b8 T s 3 x=false:=λx=>by simp[b8,a]
    simp[a,i]at c
   have:=Bq aE [93] d.toNat (aC s);have:=j9 aE e a;omega
 ·have h:(aC s).aD≠0:=e;simp only[iN];cases((ao T s.at_).kind != 1&&(!b8 T s 3 [105,110,116]&& !b8 T s 3 [98,111,111,108]))with
  |true=>exact mL s 2
  |false=>simp only[aO,wL _ h,lH h];omega
def Bn{T:List Tok}(aE:T.length<=40000000)(s:aq):left T (eO T s).2<=left T s:=by
 obtain⟨i1,i2⟩:=Bp aE 3 0 s;simp only[eO];cases h:hf T 3 0 s with
 |inr s'=>exact i2 s' h
 |inl p=>
  have:=i1 p.1 p.2 h;have:=Bo aE p.1 p.2;exact Nat.le_trans (Bo aE p.1 p.2) (i1 p.1 p.2 h)
def dP{α:Type}(T:List Tok)(s:aq)(a b:Option (α×aq)):Prop:=∃p q,a=D p/\b=D q/\ei p q/\left T p.2<=left T s
def iB(T:List Tok)(k:Nat):Prop:=∀(s:aq),left T s<=k->∀(lev n a:Nat),lev<=5->30*k+20<=n+lev->30*k+20<=a+lev->dP T s (hC T n lev s) (ej T a lev s)
def JW{T:List Tok}{s:aq}(h:s.aD≠0)(lev n a:Nat)(c:lev<=5)(d:9<=n+lev)(e:9<=a+lev):dP T s (hC T n lev s) (ej T a lev s):=
 ⟨_,_,Dk h n lev c d,pZ h a lev c e,.inr ⟨h,rfl,rfl⟩,bf _⟩
def vP{T:List Tok}(aE:T.length<=40000000){k:Nat}(p:∀j,j<k->iB T j){s:aq}(m:s.aD=0)(az:left T s<=k){x:aB}(o:kw x=4)(lev n d:Nat)(i:lev<=5)(u:30*k+9<=n)(v:30*k+9<=d):
  ((ds T x s).1=X/\left T (ds T x s).2+1<=left T s/\dP T (ds T x s).2 (hC T n lev (ds T x s).2) (ej T d lev (cP T x s)))\/
  ((ds T x s).1=U/\(ds T x s).2.aD≠0/\(cP T x s).aD=(ds T x s).2.aD/\(cP T x s).cO=(ds T x s).2.cO/\ej T d lev (cP T x s)=D (mC T (cP T x s),cP T x s)):=by
 rcases vt (T:=T) m o with⟨h,a,c,e⟩|⟨h,a,c⟩
 ·refine .inl ⟨h,?_,?_⟩
  ·rw[c,Bl];exact lI aE b1 a
  ·have q:=lI aE b1 a;rw[c,e];exact p (k-1) af _ (by rw[Bl];omega) lev n d i af af
 ·rcases c with⟨c,_⟩|⟨_,e,l⟩
  ·exact absurd c a
  ·exact .inr ⟨h,a,e,l,pZ (by rw[e];exact a) d lev i af⟩
def wg{T:List Tok}(aE:T.length<=40000000){k:Nat}(A:∀j,j<k->iB T j){s:aq}(w:s.aD=0)(az:left T s<=k)(n l:Nat)(y:30*k+9<=n)(z:30*k+9<=l):dP T s (jU T (n+1) [40] [41] s) (ha T (l+1) s):=by
 rcases vP aE A w az (x:=[40]) rfl 0 n l af y z with⟨d,a,p,q,c,e,i,B⟩|⟨d,a,c,e,i⟩
 ·refine⟨(p.1,(ic T [41] p.2).2),(q.1,dn T [41] q.2),?_,?_,?_,?_⟩
  ·simp[jU,d,c]
  ·simp[ha,e]
  ·rcases i with⟨h,rfl⟩|⟨h,u,v⟩
   ·exact ei.of (lA (.inl ⟨h,rfl⟩) rfl) λ_=>rfl
   ·refine ei.of (lA (.inr ⟨h,u,v⟩) rfl) λo=>absurd o ?_
    have:(er p.2).aD≠0:=h;simp only[ic,eo,jE this,aO,fp this];exact h
  ·have:=ow aE p.2 [41];simp only
   omega
 ·refine⟨(.zero,(ds T [40] s).2),_,by simp[jU,d],by simp only[ha,i];rfl,?_,?_⟩
  ·have m:(cP T [40] s).aD≠0:=by rw[c];exact a
   have o:=lA (T:=T) (x:=[41]) (e4.refl (cP T [40] s)) rfl;refine .inr ⟨a,?_,?_⟩<;>simp[dn,bj,ew m,fp m,er,c,e]
  ·simp only[lH a];omega
def dP.le{α:Type}{T:List Tok}{s s0:aq}{a b:Option (α×aq)}(h:dP T s a b)(j:left T s<=left T s0):dP T s0 a b:=by
 obtain⟨p,q,c,d,e,i⟩:=h;exact⟨p,q,c,d,e,Nat.le_trans i j⟩
def yp{T:List Tok}{s:aq}(h:s.aD≠0)(x:aB):(ic T x s).2.aD≠0:=by
 have a:(er s).aD≠0:=h;simp only[ic,eo,jE a,aO,fp a];exact h
def BH{T:List Tok}(aE:T.length<=40000000){k:Nat}(y:∀j,j<k->iB T j):∀(c n d:Nat) (s s':aq) (l l':List aJ),left T s<=c->c<=k->30*c+10<=n->30*c+10<=d->e4 s s'->(s.aD=0->l'=l)->dP T s (oC T n l s) (g_ T d l' s')
 |c,0,d,s,s',l,l',u,v,w,x,e,m=>af
 |c,n+1,0,s,s',l,l',u,v,w,x,e,m=>af
 |c,n+1,d+1,s,s',l,l',u,v,w,x,e,m=>by
  by_cases a:s.aD=0
  ·obtain⟨_,rfl⟩:s.aD=0/\s'=s:=e.resolve_right (by rintro⟨h,_⟩;exact h a);cases m a;have o:aW T s' [44]=b8 T s' 4 [44]:=rfl;cases i:b8 T s' 4 [44]with
   |true=>
    have A:=lI aE b1 i;obtain⟨p,q,g1,g2,g3,g4⟩:=y (c-1) af (aC s') af 0 n d af af af;have:=BH aE y (c-1) n d p.2 q.2 (l++[p.1]) (l++[q.1]) af af af af g3.st (λaF=>by
     rcases g3 with⟨_,rfl⟩|⟨h,_⟩
     ·rfl
     ·exact absurd aF h)
    have:=this.le (s0:=s') af;simpa [oC,pg,i,g_,o,g1,g2]using this
   |false=>
    refine⟨(l,(ic T [41] s').2),(l,dn T [41] s'),by simp[oC,pg,i],by simp[g_,o,i],ei.of (lA (.refl _) rfl) λ_=>rfl,ow aE s' [41]⟩
  ·have z:s'.aD≠0:=by
    rcases e with⟨h,_⟩|⟨_,h,_⟩
    ·exact absurd h a
    ·rw[h];exact a
   refine⟨(l,(ic T [41] s).2),(l',dn T [41] s'),by simp[oC,pg,jE a],by simp[g_,ew z],ei.of (lA e rfl) λh=>absurd h (yp a _),ow aE s [41]⟩
def GA{T:List Tok}(aE:T.length<=40000000){k:Nat}(z:∀j,j<k->iB T j){s:aq}(y:s.aD=0)(az:left T s<=k)(n a:Nat)(H:30*k+10<=n)(K:30*k+10<=a):dP T s (qj T (n+1) s) (ia T (a+1) s):=by
 rcases vt (T:=T) y (x:=[40]) rfl with⟨e,c,i,w⟩|⟨e,c,i⟩
 ·have F:=lI aE b1 c;have G:left T (eU (aC s))=left T (aC s):=rfl;have E:(eU (aC s)).aD=0:=y;have v:aW T (eU (aC s)) [41]=b8 T (eU (aC s)) 4 [41]:=rfl;cases u:b8 T (eU (aC s)) 4 [41]with
  |true=>
   refine⟨([],(ic T [41] (eU (aC s))).2),([],dn T [41] (eU (aC s))),by simp[qj,e,i,u],by simp[ia,w,v,u],ei.of (lA (.refl _) rfl) λ_=>rfl,?_⟩;have:=ow aE (eU (aC s)) [41];simp only
   omega
  |false=>
   obtain⟨p,q,g1,g2,g3,g4⟩:=z (k-1) af (eU (aC s)) af 0 n a af af af;have:=BH aE z k n a p.2 q.2 [p.1] [q.1] af af af af g3.st (λaF=>by
    rcases g3 with⟨_,rfl⟩|⟨h,_⟩
    ·rfl
    ·exact absurd aF h)
   have:=this.le (s0:=s) af;simpa [qj,e,i,u,ia,w,v,g1,g2]using this
 ·have o:=i.resolve_left (by rintro⟨h,_⟩;exact c h);have d:(cP T [40] s).aD≠0:=by rw[o.2.1];exact c
  have B:=pZ (T:=T) d a 0 af af;have A:∀l,g_ T a l (cP T [40] s)=D (l,dn T [41] (cP T [40] s)):=λl=>by
   obtain⟨a,rfl⟩:∃m,a=m+1:=⟨a-1,af⟩;simp[g_,ew d]
  refine⟨([],(ds T [40] s).2),_,by simp[qj,e],by simp only[ia,ew d,aO,B,Option.bind_some,A];rfl,?_,?_⟩
  ·refine .inr ⟨c,?_,?_⟩<;>simp[dn,bj,ew d,fp d,er,o.2.1,o.2.2]
  ·simp only[lH c];omega
def Dl{T:List Tok}(aE:T.length<=40000000){k:Nat}(E:∀j,j<k->iB T j){lev:Nat}(B:lev<5):∀(c n i:Nat) (s s':aq) (e d:aJ),left T s<=c->c<=k->30*c+10<=n->30*c+10<=i->e4 s s'->(s.aD=0->d=e)->dP T s (nb T n lev e s) (hP T i lev d s')
 |c,0,i,s,s',e,d,w,x,y,z,l,o=>af
 |c,n+1,0,s,s',e,d,w,x,y,z,l,o=>af
 |c,n+1,i+1,s,s',e,d,w,x,y,z,l,o=>by
  by_cases a:s.aD=0
  ·obtain⟨_,rfl⟩:s.aD=0/\s'=s:=l.resolve_right (by rintro⟨h,_⟩;exact h a);cases o a;have u:=Iq (T:=T) a B;have A:(s'.aD==0)=true:=by simpa using a
   by_cases m:lG T lev s'=0
   ·have v:(ez lev (ao T s'.at_) != 0)=false:=by rw[<-u];simpa using m
    exact⟨(e,s'),(e,s'),by simp[nb,m],by simp[hP,A,v],.inl ⟨a,rfl⟩,bf _⟩
   ·have v:(ez lev (ao T s'.at_) != 0)=true:=by rw[<-u];simpa using m
    have H:(ao T s'.at_).kind≠0:=by
     intro F;exact m (uU (by rw[F];decide) _)
    have K:=j9 aE a H;obtain⟨p,q,g1,g2,g3,g4⟩:=E (c-1) af (aC s') af (lev+1) n i af af af;have:=Dl aE E B (c-1) n i p.2 q.2 (.mk {kind:=lG T lev s',pos:=(ao T s'.at_).pos} [e,p.1]) (.mk {kind:=ez lev (ao T s'.at_),pos:=(ao T s'.at_).pos} [e,q.1]) af af af af g3.st (λaF=>by
     rcases g3 with⟨_,rfl⟩|⟨h,_⟩
     ·rw[u]
     ·exact absurd aF h)
    have:=this.le (s0:=s') af;simpa [nb,m,hP,A,v,g1,g2]using this
  ·have G:s'.aD≠0:=by
    rcases l with⟨h,_⟩|⟨_,h,_⟩
    ·exact absurd h a
    ·rw[h];exact a
   exact⟨(e,s),(d,s'),Dm a (n+1) af lev e,yL G (i+1) af lev d,ei.of l λh=>absurd h a,bf _⟩
def Hq{T:List Tok}{s:aq}(h:s.aD=0)(e:aJ):ei (ja T e s) (aJ.mk {kind:=5,name:=(bp T (aC s)).1,pos:=(ao T s.at_).pos} [e],(bp T (aC s)).2):=by
 have i:(aC s).aD=0:=h;by_cases c:(ao T (aC s).at_).kind=1
 ·refine Or.inl ⟨?_,?_⟩
  ·have a:((ao T (aC s).at_).kind != 1)=false:=by simp[c]
   simp only[ja,a,aO];exact h
  ·simp[ja,bp,c,i]
 ·have a:((ao T (aC s).at_).kind==1)=false:=by simpa using c
  have d:((ao T (aC s).at_).kind != 1)=true:=by simpa using c
  have j:=iJ (T:=T) i 2;refine Or.inr ⟨?_,?_,?_⟩
  ·simp only[ja,d,aU];show(cE T 2 (aC s)).aD≠0;rw[j.1];decide
  ·simp only[ja,bp,a,d,aU,Bool.and_false,aO];rfl
  ·simp only[ja,bp,a,d,aU,Bool.and_false,aO];rfl
def Iz{T:List Tok}(aE:T.length<=40000000){s:aq}(d:s.aD=0)(j:(ao T s.at_).kind≠0)(e:aJ):left T (ja T e s).2+1<=left T s:=by
 have k:=j9 aE d j;have h:(aC s).aD=0:=d;by_cases c:(ao T (aC s).at_).kind=1
 ·have a:((ao T (aC s).at_).kind != 1)=false:=by simp[c]
  have:=j9 aE h (by rw[c];decide);simp only[ja,a,aO];omega
 ·have a:((ao T (aC s).at_).kind != 1)=true:=by simpa using c
  have i:(aC (cE T 2 (aC s))).aD≠0:=by show(cE T 2 (aC s)).aD≠0;rw[(iJ h 2).1];decide
  simp only[ja,a,aU,lH i];omega
def tZ{T:List Tok}(aE:T.length<=40000000){k:Nat}(G:∀j,j<k->iB T j):∀(c n l:Nat) (s s':aq) (e o:aJ),left T s<=c->c<=k->30*c+12<=n->30*c+12<=l->e4 s s'->(s.aD=0->o=e)->dP T s (jA T n e s) (fm T l o s')
 |c,0,l,s,s',e,o,B,H,K,L,w,E=>af
 |c,n+1,0,s,s',e,o,B,H,K,L,w,E=>af
 |c,n+1,l+1,s,s',e,o,B,H,K,L,w,E=>by
  by_cases a:s.aD=0
  ·obtain⟨_,rfl⟩:s.aD=0/\s'=s:=w.resolve_right (by rintro⟨h,_⟩;exact h a);cases E a;have d:(s'.aD==0)=true:=by simpa using a
   have v:aW T s' [46]=((ao T s'.at_).kind==4&&(ao T s'.at_).text==[46]):=by show b8 T s' 4 [46]=_;simp only[b8,d,Bool.true_and]
   have z:aW T s' [91]=((ao T s'.at_).kind==4&&(ao T s'.at_).text==[91]):=by show b8 T s' 4 [91]=_;simp only[b8,d,Bool.true_and]
   cases i:(ao T s'.at_).kind==4 with
   |false=>exact⟨(e,s'),(e,s'),by simp[jA,d,i],by simp[fm,v,z,i],.inl ⟨a,rfl⟩,bf _⟩
   |true=>
    have R:(ao T s'.at_).kind=4:=by simpa using i
    cases u:(ao T s'.at_).text==[46]with
    |true=>
     have W:=Iz aE a (by rw[R];decide) e;have az:=Hq (T:=T) a e;have:=(tZ aE G (c-1) n l _ _ (ja T e s').1 _ af af af af az.st (λaF=>by
      rcases az with⟨_,h⟩|⟨h,_⟩
      ·exact congrArg Prod.fst h
      ·exact absurd aF h)).le (s0:=s') af
     simpa [jA,d,i,u,fm,v]using this
    |false=>
     cases y:(ao T s'.at_).text==[91]with
     |false=>exact⟨(e,s'),(e,s'),by simp[jA,d,i,u,y],by simp[fm,v,z,i,u,y],.inl ⟨a,rfl⟩,bf _⟩
     |true=>
      obtain⟨n,rfl⟩:∃m,n=m+1:=⟨n-1,af⟩;have S:∀j,j<c->iB T j:=λj V=>G j af
      rcases vP aE S a B (x:=[91]) rfl 0 n l af af af with⟨bE,bX,p,q,ck,dr,A,ab⟩|⟨bE,bX,ck,dr,A⟩
      ·have P:=lA (T:=T) (x:=[93]) A.st rfl;have aa:=ow aE p.2 [93];have:=(tZ aE G (c-1) (n+1) l (ic T [93] p.2).2 (dn T [93] q.2) (.mk {kind:=6,pos:=(ao T s'.at_).pos} [e,p.1]) (.mk {kind:=6,pos:=(ao T s'.at_).pos} [e,q.1]) af af af af P (λaF=>by
        rcases A with⟨_,rfl⟩|⟨h,_⟩
        ·rfl
        ·exact absurd aF (yp h _))).le (s0:=s') af
       simpa [jA,d,i,u,y,jU,bE,ck,fm,v,z,dr]using this
      ·have F:(cP T [91] s').aD≠0:=by rw[ck];exact bX
       have M:((ds T [91] s').2.aD==0)=false:=by simpa using bX
       have N:(dn T [93] (cP T [91] s'))=er (cP T [91] s'):=by simp[dn,bj,ew F,fp F]
       have O:(er (cP T [91] s')).aD≠0:=F;refine⟨(.mk {kind:=6,pos:=(ao T s'.at_).pos} [e,.zero],(ds T [91] s').2),(.mk {kind:=6,pos:=(ao T s'.at_).pos} [e,mC T (cP T [91] s')],er (cP T [91] s')),?_,?_,.inr ⟨bX,ck,dr⟩,?_⟩
       ·simp[jA,d,i,u,y,jU,bE,M]
       ·simp[fm,v,z,i,u,y,A,N,tT O l af]
       ·simp only[lH bX];omega
  ·have Q:s'.aD≠0:=by
    rcases w with⟨h,_⟩|⟨_,h,_⟩
    ·exact absurd h a
    ·rw[h];exact a
   have d:(s.aD==0)=false:=by simpa using a
   exact⟨(e,s),(o,s'),by simp[jA,d],tT Q (l+1) af o,ei.of w λh=>absurd h a,bf _⟩
def dP.pure{α:Type}{T:List Tok}{s:aq}{p q:α×aq}(h:ei p q)(a:left T p.2<=left T s):dP T s (D p) (D q):=⟨p,q,rfl,rfl,h,a⟩
def dP.map{α β:Type}{T:List Tok}{s:aq}{a b:Option (α×aq)}(h:dP T s a b)(f:α->β):dP T s (a.bind λp=>D (f p.1,p.2)) (b.bind λp=>D (f p.1,p.2)):=by
 obtain⟨p,q,rfl,rfl,e,i⟩:=h;refine⟨(f p.1,p.2),(f q.1,q.2),rfl,rfl,?_,i⟩;rcases e with⟨h,rfl⟩|⟨h,c,d⟩
 ·exact .inl ⟨h,rfl⟩
 ·exact .inr ⟨h,c,d⟩
def I3{T:List Tok}(aE:T.length<=40000000){k:Nat}(i:∀j,j<k->iB T j){s:aq}(a:s.aD=0)(d:(ao T s.at_).kind=1)(az:left T s<=k)(n c:Nat)(u:30*k+9<=n)(v:30*k+9<=c):
  dP T s (vk T (n+1) s) (bif aW T (bp T s).2 [40]then(ia T (c+1) (bp T s).2).bind λp=>D (.mk {kind:=7,name:=(bp T s).1,pos:=(ao T s.at_).pos} p.1,p.2)else D (.mk {kind:=4,name:=(bp T s).1,pos:=(ao T s.at_).pos} [],(bp T s).2)):=by
 have h:bp T s=((ao T s.at_).text,aC s):=by simp[bp,a,d]
 have o:=j9 aE a (by rw[d];decide);have e:aW T (aC s) [40]=b8 T (aC s) 4 [40]:=rfl;rw[h];simp only[vk,e];cases b8 T (aC s) 4 [40]with
 |true=>
  obtain⟨n,rfl⟩:∃m,n=m+1:=⟨n-1,af⟩;have:=GA aE (k:=k-1) (λj q=>i j af) (s:=aC s) a af n c af af;exact(this.map λl=>aJ.mk {kind:=7,name:=(ao T s.at_).text,pos:=(ao T s.at_).pos} l).le af
 |false=>exact dP.pure (.inl ⟨a,rfl⟩) (by simp only;omega)
def HK{T:List Tok}(aE:T.length<=40000000){k:Nat}(O:∀j,j<k->iB T j){s:aq}(o:s.aD=0)(L:(ao T s.at_).kind=3)(az:left T s<=k)(n a:Nat)(W:30*k+9<=n)(aa:30*k+9<=a):
  dP T s (uC T (n+1) s) (j6 T (a+1) (ao T s.at_).pos (aC s)):=by
 have P:=j9 aE o (by rw[L];decide);have p:(aC s).aD=0:=o;have z:aW T (aC s) [91]=b8 T (aC s) 4 [91]:=rfl;simp only[uC,j6,z];cases c:b8 T (aC s) 4 [91]with
 |true=>
  have Q:=lI aE b1 c;have v:=of_same T (aC (aC s));have hw:=wM (T:=T) (x:=[93]) v.st rfl;have S:=Bn aE (aC (aC s));have V:=u0 aE (eO T (aC (aC s))).2 [93];simp only[aU];obtain⟨n,rfl⟩:∃m,n=m+1:=⟨n-1,af⟩;obtain⟨a,rfl⟩:∃m,a=m+1:=⟨a-1,af⟩;by_cases aF:(eo T [93] (eO T (aC (aC s))).2).2.aD=0
  ·have M:(eO T (aC (aC s))).2.aD=0:=by
    by_cases h:(eO T (aC (aC s))).2.aD=0
    ·exact h
    ·exact absurd aF (by simp only[eo,jE h,aO,fp h];exact h)
   have w:=(v.resolve_right (by rintro⟨h,_⟩;exact h M)).2;have y:=(hw.resolve_right (by rintro⟨h,_⟩;exact h aF)).2;rw[w]at y;rw[w,y];have:=wg aE (k:=k-1) (λj R=>O j af) (s:=(eo T [93] (eO T (aC (aC s))).2).2) aF af n a af af;exact(this.map λe=>aJ.mk {kind:=9,cf:=(eO T (aC (aC s))).1.1,c3:=(eO T (aC (aC s))).1.2,pos:=(ao T s.at_).pos} [e]).le af
  ·have q:=hw.resolve_left (by rintro⟨h,_⟩;exact aF h);have i:(bj T [93] (b_ T (aC (aC s))).2).aD≠0:=by rw[q.2.1];exact aF
   have F:(ds T [40] (eo T [93] (eO T (aC (aC s))).2).2)=(U,(eo T [93] (eO T (aC (aC s))).2).2):=by simp[ds,jE aF,fp aF]
   have G:cP T [40] (bj T [93] (b_ T (aC (aC s))).2)=eU (bj T [93] (b_ T (aC (aC s))).2):=by
    simp only[cP,ew i,Bool.false_and,aO];rw[bj,ew i,aO,fp i]
   have l:(eU (bj T [93] (b_ T (aC (aC s))).2)).aD≠0:=i;have H:dn T [41] (eU (bj T [93] (b_ T (aC (aC s))).2))=er (eU (bj T [93] (b_ T (aC (aC s))).2)):=by
    unfold dn;rw[bj,ew l,aO,fp l]
   have N:jU T (n+1) [40] [41] (eo T [93] (eO T (aC (aC s))).2).2=D (.zero,(eo T [93] (eO T (aC (aC s))).2).2):=by simp[jU,F]
   have K:ha T (a+1) (bj T [93] (b_ T (aC (aC s))).2)=D (mC T (eU (bj T [93] (b_ T (aC (aC s))).2)),er (eU (bj T [93] (b_ T (aC (aC s))).2))):=by
    simp only[ha,G,pZ l a 0 af af,Option.bind_some,H]
   simp only[N,K,Option.bind_some];exact dP.pure (.inr ⟨aF,q.2.1,q.2.2⟩) (by simp only[lH aF];omega)
 |false=>
  simp only[aO];by_cases d:(ao T (aC s).at_).kind=1
  ·have c:((ao T (aC s).at_).kind != 1)=false:=by simp[d]
   have:=j9 aE p (by rw[d];decide);have A:bp T (aC s)=((ao T (aC s).at_).text,aC (aC s)):=by simp[bp,p,d]
   simp only[c,aO,A];exact dP.pure (.inl ⟨o,rfl⟩) (by simp only;omega)
  ·have c:((ao T (aC s).at_).kind==1)=false:=by simpa using d
   have E:((ao T (aC s).at_).kind != 1)=true:=by simpa using d
   have B:=iJ (T:=T) p 2;have u:(aC (cE T 2 (aC s))).aD≠0:=by show(cE T 2 (aC s)).aD≠0;rw[B.1];decide
   simp only[E,aU,bp,c,Bool.and_false,aO];exact dP.pure (.inr ⟨u,rfl,rfl⟩) (by simp only[lH u];omega)
def qa{T:List Tok}{s:aq}(a:s.aD=0)(x:aB):aW T s x=((ao T s.at_).kind==kw x&&(ao T s.at_).text==x):=by simp[aW,b8,a]
def IA{T:List Tok}(aE:T.length<=40000000)(s:aq)(x:aB):left T (ds T x s).2<=left T s:=by
 cases h:b8 T s 4 x with
 |true=>
  simp only[ds,h,aU];split
  ·exact mL s 4
  ·have:=lI aE b1 h;have e:left T {s with at_:=jq (s.at_+1),bO:=jq (s.bO+1)}=left T (aC s):=rfl;simp only[e];omega
 |false=>simp only[ds,h,aO];exact mL s 2
def JH{T:List Tok}{s:aq}(k:s.aD=0):ei (qK T s) (aJ.mk {kind:=11,pos:=(ao T s.at_).pos} [],dn T [41] (cP T [40] (aC s))):=by
 have l:(aC s).aD=0:=k;simp only[qK];rcases vt (T:=T) l (x:=[40]) rfl with⟨c,a,d,j⟩|⟨c,a,d⟩
 ·simp only[c,d,j,aU];exact ei.of (lA (.refl _) rfl) λ_=>rfl
 ·simp only[c,aO];have e:=d.resolve_left (by rintro⟨h,_⟩;exact a h);have i:(cP T [40] (aC s)).aD≠0:=by rw[e.2.1];exact a
  refine .inr ⟨a,?_,?_⟩<;>simp[dn,bj,ew i,fp i,er,e.2.1,e.2.2]
def IC{T:List Tok}(aE:T.length<=40000000)(s:aq):left T (qK T s).2<=left T (aC s):=by
 have a:=IA aE (aC s) [40];simp only[qK];cases(ds T [40] (aC s)).1 with
 |true=>simp only[aU];have:=ow aE (ds T [40] (aC s)).2 [41];omega
 |false=>simp only[aO];omega
def Ht{T:List Tok}{s:aq}(d:s.aD=0)(a:(ao T s.at_).kind≠1):bp T s=([],cE T 2 s)/\(cE T 2 s).aD≠0:=by
 have c:((ao T s.at_).kind==1)=false:=by simpa using a
 exact⟨by simp[bp,c],by rw[(iJ d 2).1];decide⟩
def Hu{T:List Tok}(aE:T.length<=40000000){k:Nat}(A:∀j,j<k->iB T j){s:aq}(a:s.aD=0)(az:left T s<=k)(n c:Nat)(ak:30*k+10<=n)(al:30*k+10<=c):
  dP T s (kM T (n+1) s) (hQ T (c+1) s):=by
 obtain⟨n,rfl⟩:∃m,n=m+1:=⟨n-1,af⟩;obtain⟨c,rfl⟩:∃m,c=m+1:=⟨c-1,af⟩;have ah:(s.aD==0)=true:=by simpa using a
 have l:kw [116,114,117,101]=3:=rfl;have o:kw [102,97,108,115,101]=3:=rfl;have q:kw [110,117,108,108]=3:=rfl;have u:kw [110,101,119]=3:=rfl;have v:kw [108,101,110]=3:=rfl;have w:kw [114,101,97,100]=3:=rfl;have x:kw [40]=4:=rfl;have B:(ao T s.at_).kind≠1->dP T s (D (aJ.zero,cE T 2 s)) (bif aW T (bp T s).2 [40]then(ia T (c+1) (bp T s).2).bind λp=>D (.mk {kind:=7,name:=(bp T s).1,pos:=(ao T s.at_).pos} p.1,p.2)else D (.mk {kind:=4,name:=(bp T s).1,pos:=(ao T s.at_).pos} [],(bp T s).2)):=by
  intro d;obtain⟨P,E⟩:=Ht (T:=T) a d;rw[P];simp only[ew E,aO];exact dP.pure (.inr ⟨E,rfl,rfl⟩) (mL s 2)
 by_cases y:(ao T s.at_).kind=2
 ·have:=j9 aE a (by rw[y];decide);simp only[kM,hQ,a,y,ne_eq,not_true,if_false,if_true,beq_self_eq_true,Bool.and_self,aU];exact dP.pure (.inl ⟨a,rfl⟩) (by simp only;omega)
 have O:((ao T s.at_).kind==2)=false:=by simpa using y
 by_cases d:(ao T s.at_).kind=1
 ·have:=I3 aE A a d az n c af af;have V:((1:Int)==3)=false:=rfl;have ad:((1:Int)==4)=false:=rfl;have R:((1:Int)==2)=false:=rfl;have Q:¬((1:Int)=2):=b1;simpa only[kM,hQ,a,d,Q,ne_eq,not_true,if_false,if_true,beq_self_eq_true,Bool.and_false,Bool.true_and,V,ad,R,aO,qa a,l,o,q,u,v,w,x,Bool.false_and,Bool.or_self,or_true,true_or]using this
 by_cases z:(ao T s.at_).kind=4
 ·have G:((4:Int)==3)=false:=rfl;have F:((4:Int)==2)=false:=rfl;have H:¬((4:Int)=2):=b1;have K:¬((4:Int)=1):=b1;have L:((4:Int)=3\/(4:Int)=4):= .inr rfl;cases N:(ao T s.at_).text==[40]with
  |true=>
   have:=wg aE A a az n c af af;simpa only[kM,hQ,a,z,H,K,L,G,F,N,ne_eq,not_true,if_false,if_true,beq_self_eq_true,Bool.and_false,Bool.true_and,aO,aU,qa a,l,o,q,u,v,w,x,Bool.false_and,Bool.or_self,or_true,true_or]using this
  |false=>
   have:=B d;simpa only[kM,hQ,a,z,H,K,L,G,F,N,ne_eq,not_true,if_false,if_true,beq_self_eq_true,Bool.and_false,Bool.true_and,aO,aU,qa a,l,o,q,u,v,w,x,Bool.false_and,Bool.or_self,or_true,true_or]using this
 by_cases i:(ao T s.at_).kind=3
 ·have ai:=j9 aE a (by rw[i];decide);have ag:(aC s).aD=0:=a;have ae:((3:Int)==4)=false:=rfl;have S:((3:Int)==2)=false:=rfl;have W:¬((3:Int)=2):=b1;have aa:¬((3:Int)=1):=b1;have ab:((3:Int)=3\/(3:Int)=4):= .inl rfl;simp only[kM,hQ,a,i,W,aa,ab,ae,S,ne_eq,not_true,if_false,if_true,beq_self_eq_true,Bool.and_false,Bool.true_and,aO,aU,qa a,l,o,q,u,v,w,x,Bool.false_and];cases t1:(ao T s.at_).text==[116,114,117,101]||(ao T s.at_).text==[102,97,108,115,101]with
  |true=>simp only[aU];exact dP.pure (.inl ⟨a,rfl⟩) (by simp only[EB];omega)
  |false=>
   cases t2:(ao T s.at_).text==[110,117,108,108]with
   |true=>
    simp only[aU,aO];have M:=of_same T (aC s);refine dP.pure ?_ (by have:=Bn aE (aC s);simp only[Ci];omega);refine ei.of M.st λh=> ?_
    rw[(M.resolve_right (by rintro⟨aX,_⟩;exact aX h)).2]
   |false=>
    cases t3:(ao T s.at_).text==[110,101,119]with
    |true=>simp only[aU,aO];exact HK aE A a i az n c af af
    |false=>
     cases t4:(ao T s.at_).text==[108,101,110]with
     |true=>
      simp only[aU,aO];have:=wg aE (k:=k-1) (λj aj=>A j af) (s:=aC s) ag af n c af af;exact(this.map λe=>aJ.mk {kind:=10,pos:=(ao T s.at_).pos} [e]).le af
     |false=>
      cases t5:(ao T s.at_).text==[114,101,97,100]with
      |true=>
       simp only[aU,aO];exact dP.pure (JH a) (by have:=IC aE s;omega)
      |false=>simp only[aO];exact B d
 ·have b3:((ao T s.at_).kind==3)=false:=by simpa using i
  have cN:((ao T s.at_).kind==4)=false:=by simpa using z
  have:=B d;simpa only[kM,hQ,a,d,y,i,z,O,b3,cN,ne_eq,not_true,if_false,if_true,beq_self_eq_true,Bool.and_false,Bool.true_and,aO,aU,qa a,l,o,q,u,v,w,x,Bool.false_and,Bool.or_self,or_self]using this
def Nv{T:List Tok}(aE:T.length<=40000000){k:Nat}(o:∀j,j<k->iB T j){s:aq}(w:s.aD=0)(az:left T s<=k)(n a:Nat)(H:30*k+14<=n)(K:30*k+14<=a):
  dP T s (nP T n s) (jo T a s):=by
 obtain⟨n,rfl⟩:∃m,n=m+1:=⟨n-1,af⟩;obtain⟨a,rfl⟩:∃m,a=m+1:=⟨a-1,af⟩;have z:aW T s [45]=b8 T s 4 [45]:=rfl;have A:aW T s [33]=b8 T s 4 [33]:=rfl;have y:∀(x:aB) (u:Int),kw x=4->b8 T s 4 x=X->dP T s (sY T n x u s) (kC T a u s):=by
  intro x u G E;obtain⟨n,rfl⟩:∃m,n=m+1:=⟨n-1,af⟩;obtain⟨a,rfl⟩:∃m,a=m+1:=⟨a-1,af⟩;have F:(ao T s.at_).text=x:=(uQ E).2.2;simp only[sY,kC,F];rcases vP aE o w az G 5 (n+1) a af af af with⟨i,l,p,q,d,e,c,v⟩|⟨i,l,d,e,c⟩
  ·have B:nP T n (ds T x s).2=D p:=by rw[hC]at d;exact d
   simp only[i,B,e,Option.bind_some,aU];refine dP.pure ?_ (by rw[IB];omega);refine ei.of c.st.out λh=> ?_
   rw[(c.resolve_right (by rintro⟨aX,_⟩;exact aX h)).2]
  ·simp only[i,c,Option.bind_some,aO];exact dP.pure (.inr ⟨l,d,e⟩) (by simp only[lH l];omega)
 simp only[nP,jo,z,A];cases i1:b8 T s 4 [45]with
 |true=>simp only[aU];exact y [45] 12 rfl i1
 |false=>
  cases i2:b8 T s 4 [33]with
  |true=>simp only[aU,aO];exact y [33] 13 rfl i2
  |false=>
   simp only[aO];obtain⟨n,rfl⟩:∃m,n=m+2:=⟨n-2,af⟩;obtain⟨a,rfl⟩:∃m,a=m+1:=⟨a-1,af⟩;obtain⟨p,q,d,e,c,v⟩:=Hu aE o w az n a af af;have:=(tZ aE o k (n+1) (a+1) p.2 q.2 p.1 q.1 af af af af c.st (λh=>by
    rw[(c.resolve_right (by rintro⟨aX,_⟩;exact aX h)).2])).le v
   rw[rv];simpa only[d,e,Option.bind_some]using this
def Dn{T:List Tok}(aE:T.length<=40000000){k:Nat}(c:∀j,j<k->iB T j){s:aq}(d:s.aD=0)(az:left T s<=k):∀(j lev n a:Nat),lev+j=5->30*k+20<=n+lev->30*k+20<=a+lev->dP T s (hC T n lev s) (ej T a lev s)
 |0,lev,n,a,i,l,o=>by
  obtain rfl:lev=5:=af;obtain⟨n,rfl⟩:∃m,n=m+1:=⟨n-1,af⟩;obtain⟨a,rfl⟩:∃m,a=m+1:=⟨a-1,af⟩;simp only[hC,ej,if_true];exact Nv aE c d az n a af af
 |j+1,lev,n,a,i,l,o=>by
  have e:¬lev=5:=af;obtain⟨n,rfl⟩:∃m,n=m+1:=⟨n-1,af⟩;obtain⟨a,rfl⟩:∃m,a=m+1:=⟨a-1,af⟩;obtain⟨p,q,g1,g2,g3,g4⟩:=Dn aE c d az j (lev+1) n a af af af;have:=(Dl aE c (lev:=lev) af k n a p.2 q.2 p.1 q.1 af af af af g3.st (λh=>by
   rw[(g3.resolve_right (by rintro⟨aX,_⟩;exact aX h)).2])).le g4
  simpa only[hC,ej,e,if_false,g1,g2,Option.bind_some]using this
def Dp{T:List Tok}(aE:T.length<=40000000):∀k,iB T k:=by
 intro k
 induction k using Nat.strongRecOn with
 |_ k i=>
  intro s az lev n c d e h;by_cases a:s.aD=0
  ·exact Dn aE i a az (5-lev) lev n c af e h
  ·exact JW a lev n c d af af
def bM.cells(a:bM)(kv:aa):List aa:=[I J a.kind,I J a.n,Y a.name,Y a.cf,I J a.c3,kv,I J a.pos,I J a.s3,I J a.Ez,I J a.ph,I J a.ref]
mutual
def cy(H:ad)(ok:Nat->Prop):aJ->aa->Prop
 | .mk a ks,v=>∃kv,v= .agg (a.cells kv)/\((kv= .ar/\ks.length=0)\/(∃l i cap ro els,kv= .ay l i ks.length 11 cap/\ok l/\H.get l=D (.row ro 11 els)/\dc H ok ks (els.drop i))\/∃l i cap,kv= .ay l i 0 11 cap/\ks.length=0)
def dc(H:ad)(ok:Nat->Prop):List aJ->List (List aa)->Prop
 |[],_=>True
 |e::es,[]=>False
 |e::es,cs::css=>cy H ok e (.agg cs)/\dc H ok es css
end
def b7(H:ad)(ok:Nat->Prop)(ks:List aJ)(kv:aa):Prop:=(kv= .ar/\ks.length=0)\/(∃l i cap ro els,kv= .ay l i ks.length 11 cap/\ok l/\H.get l=D (.row ro 11 els)/\dc H ok ks (els.drop i))\/∃l i cap,kv= .ay l i 0 11 cap/\ks.length=0
def hp{H:ad}{ok:Nat->Prop}{a:bM}{ks:List aJ}{v:aa}:cy H ok (.mk a ks) v↔∃kv,v= .agg (a.cells kv)/\b7 H ok ks kv:=by
 rw[cy];rfl
def c8(H:ad)(ok:Nat->Prop)(H':ad)(ok':Nat->Prop):Prop:=∀l ro els,ok l->H.get l=D (.row ro 11 els)->ok' l/\H'.get l=D (.row ro 11 els)
mutual
def cy.aY{H H':ad}{ok ok':Nat->Prop}(p:c8 H ok H' ok'):∀(e:aJ) (v:aa),cy H ok e v->cy H' ok' e v
 | .mk a ks,v,h=>by
  rw[cy]at h ⊢;obtain⟨kv,n,c⟩:=h;refine⟨kv,n,?_⟩;rcases c with c|⟨l,i,cap,ro,els,d,j,k,m⟩|c
  ·exact .inl c
  ·obtain⟨aZ,o⟩:=p l ro els j k;exact .inr (.inl ⟨l,i,cap,ro,els,d,aZ,o,dc.aY p ks _ m⟩)
  ·exact .inr (.inr c)
def dc.aY{H H':ad}{ok ok':Nat->Prop}(p:c8 H ok H' ok'):∀(es:List aJ) (cs:List (List aa)),dc H ok es cs->dc H' ok' es cs
 |[],_,_=>by rw[dc];trivial
 |e::es,[],h=>by rw[dc]at h;exact h.elim
 |e::es,cs::css,h=>by
  rw[dc]at h ⊢;exact⟨cy.aY p e _ h.1,dc.aY p es css h.2⟩
end
def b7.aY{H H':ad}{ok ok':Nat->Prop}(p:c8 H ok H' ok'){ks:List aJ}{v:aa}(h:b7 H ok ks v):b7 H' ok' ks v:=by
 rcases h with a|⟨l,i,cap,ro,els,c,d,e,j⟩|a
 ·exact .inl a
 ·obtain⟨aZ,k⟩:=p l ro els d e;exact .inr (.inl ⟨l,i,cap,ro,els,c,aZ,k,dc.aY p ks _ j⟩)
 ·exact .inr (.inr a)
def c8.mut{r:Nat}{H H':ad}{ok ok':Nat->Prop}(m:b2 r H H')(c:¬ok r)(a:∀l,ok l->ok' l):c8 H ok H' ok':=λl ro els h e=>⟨a l h,m.get e (by rintro rfl;exact c h)⟩
def c8.aK{H H':ad}{ok ok':Nat->Prop}(m:aM H H')(a:∀l,ok l->ok' l):c8 H ok H' ok':=λl ro els h e=>⟨a l h,m.get e⟩
def bb(n:Nat):Nat->Prop:=λl=>n<=l
def cy.agg{H:ad}{ok:Nat->Prop}{e:aJ}{v:aa}(h:cy H ok e v):∃k n cc o d kv p t1 t2 t3 m,v= .agg [I J k,I J n,Y cc,Y o,I J d,kv,I J p,I J t1,I J t2,I J t3,I J m]/\kv.one=true:=by
 cases e with|mk a ks=>
 rw[hp]at h;obtain⟨kv,c,j⟩:=h;refine⟨_,_,_,_,_,kv,_,_,_,_,_,c,?_⟩;rcases j with⟨rfl,_⟩|⟨l,i,cap,ro,els,rfl,_⟩|⟨l,i,cap,rfl,_⟩<;>rfl
def cy.leaf(H:ad)(ok:Nat->Prop)(a:bM):cy H ok (.mk a []) (.agg (a.cells .ar)):=by
 rw[hp];exact⟨_,rfl,.inl ⟨rfl,rfl⟩⟩
def jm(l:Nat)(cs:List aa)(h:cs.length=11)(a:cs.all aa.one=X):bU P l 41 1 [(0,.agg cs)]=D (.ay l 0 1 11 (D 1),.row U 11 [cs]):=by
 have:bU P l 41 1 [(0,.agg cs)]=(iE 11 (List.replicate 1 [I J 0,I J 0,Y [],Y [],I J 0,.ar,I J 0,I J 0,I J 0,I J 0,I J 0]) [(0,.agg cs)]).bind λels=>D (.ay l 0 1 11 (D 1),.row U 11 els):=ah
 rw[this];simp[iE,aa.cells,h,a]
def wh(l:Nat)(cs a:List aa)(h:cs.length=11)(c:cs.all aa.one=X)(aX:a.length=11)(d:a.all aa.one=X):bU P l 41 2 [(0,.agg cs),(1,.agg a)]=D (.ay l 0 2 11 (D 2),.row U 11 [cs,a]):=by
 have:bU P l 41 2 [(0,.agg cs),(1,.agg a)]=(iE 11 (List.replicate 2 [I J 0,I J 0,Y [],Y [],I J 0,.ar,I J 0,I J 0,I J 0,I J 0,I J 0]) [(0,.agg cs),(1,.agg a)]).bind λels=>D (.ay l 0 2 11 (D 2),.row U 11 els):=ah
 rw[this];have e:List.replicate 2 [aa.int J 0,I J 0,Y [],Y [],I J 0,.ar,I J 0,I J 0,I J 0,I J 0,I J 0]=[[aa.int J 0,I J 0,Y [],Y [],I J 0,.ar,I J 0,I J 0,I J 0,I J 0,I J 0],[aa.int J 0,I J 0,Y [],Y [],I J 0,.ar,I J 0,I J 0,I J 0,I J 0,I J 0]]:=rfl;rw[e];simp[iE,aa.cells,h,c,aX,d]
def c8.push{H:ad}{ok ok':Nat->Prop}(b:bN)(a:∀l,ok l->ok' l):c8 H ok (H.push b) ok':=c8.aK (aM.push H b) a
def c8.set{H:ad}{ok ok':Nat->Prop}{l:Nat}(b:bN)(h:¬ok l)(c:∀l,ok l->ok' l):c8 H ok (H.set l b) ok':=λj ro els a e=>⟨c j a,by rw[ad.get_set_other (by rintro rfl;exact h a)];exact e⟩
def c8.kP{H:ad}{ok ok':Nat->Prop}(h:∀l,ok l->ok' l):c8 H ok H ok':=λl ro els a e=>⟨h l a,e⟩
def cy.cells{H:ad}{ok:Nat->Prop}{e:aJ}{v:aa}(h:cy H ok e v):∃cs,v= .agg cs/\cs.length=11/\cs.all aa.one=true:=by
 obtain⟨k,n,cc,o,d,kv,p,t1,t2,t3,c,rfl,a⟩:=h.agg;exact⟨_,rfl,rfl,by simp only[List.all_cons,List.all_nil,gO,hA,a,Bool.and_self]⟩
def cy.same{H:ad}{ok:Nat->Prop}{e:aJ}{v:aa}(h:cy H ok e v):bg (D v) v=true:=by
 cases e with|mk a ks=>
 rw[hp]at h;obtain⟨kv,rfl,c⟩:=h;have:aa.beq kv kv=true:=by rcases c with⟨rfl,_⟩|⟨l,i,cap,ro,els,rfl,_⟩|⟨l,i,cap,rfl,_⟩<;>simp[aa.beq]
 simp[bg,aa.beq,gf.beq,bM.cells,this]
def tt(ok:Nat->Prop)(H:ad)(r:Nat)(T:List Tok)(ak cr:aa)(e:aJ)(s':aq)(v:aa)(H':ad):Prop:=b2 r H H'/\jv H' r T ak cr s'/\cy H' ok e v
abbrev pF(H:ad):=tt (bb H.next) H
def pF.box{H c:ad}{r:Nat}{T:List Tok}{ak cr:aa}{s s':aq}{a:bM}{ks:List aJ}{kv:aa}{b:Nat}{lo:Nat}(h:jv H r T ak cr s)(m:b2 r H c)(e:iV c r ak cr s')(i:H.next<=b)(n:b<lo)(j:b7 c (bb lo) ks kv)(d:bN):
  pF H r T ak cr (.mk a ks) s' (.agg (a.cells kv)) (c.set b d):=by
 have k:=h.rd.lt;have m':=m.cz (.inr i) d;refine⟨m',h.mut m' ?_,?_⟩
 ·unfold iV at e ⊢;rw[ad.get_set_other af];exact e
 ·rw[hp];exact⟨kv,rfl,j.aY (c8.set _ (by unfold bb;omega) λl k=>by unfold bb at*;omega)⟩
def b7.nil(H:ad)(ok:Nat->Prop):b7 H ok [] .ar:= .inl ⟨rfl,rfl⟩
def tt.fin{ok:Nat->Prop}{H bI:ad}{r:Nat}{T:List Tok}{ak cr:aa}{s s':aq}{a:bM}{ks:List aJ}{kv:aa}(e:jv H r T ak cr s)(m:b2 r H bI)(c:iV bI r ak cr s')(d:b7 bI ok ks kv):tt ok H r T ak cr (.mk a ks) s' (.agg (a.cells kv)) bI:=
 ⟨m,e.mut m c,hp.2 ⟨kv,rfl,d⟩⟩
def b7.mT{H:ad}{ok:Nat->Prop}{L:Nat}{e:aJ}{cs:List aa}{cap:Option Nat}{ro:Bool}(a:H.get L=D (.row ro 11 [cs]))(c:ok L)(h:cy H ok e (.agg cs)):b7 H ok [e] (.ay L 0 1 11 cap):=by
 refine .inr (.inl ⟨L,0,cap,ro,[cs],rfl,c,a,?_⟩);simp only[List.drop_zero];rw[dc,dc];exact⟨h,trivial⟩
def b7.wI{H:ad}{ok:Nat->Prop}{L:Nat}{e f:aJ}{cs a:List aa}{cap:Option Nat}{ro:Bool}(c:H.get L=D (.row ro 11 [cs,a]))(d:ok L)(h:cy H ok e (.agg cs))(aX:cy H ok f (.agg a)):b7 H ok [e,f] (.ay L 0 2 11 cap):=by
 refine .inr (.inl ⟨L,0,cap,ro,[cs,a],rfl,d,c,?_⟩);simp only[List.drop_zero];rw[dc,dc,dc];exact⟨h,aX,trivial⟩
def cy.mut{H H':ad}{ok ok':Nat->Prop}{r:Nat}{e:aJ}{v:aa}(h:cy H ok e v)(m:b2 r H H')(c:¬ok r)(a:∀l,ok l->ok' l):cy H' ok' e v:=cy.aY (c8.mut m c a) e v h
def cy.new{H H':ad}{ok:Nat->Prop}{n:Nat}{e:aJ}{v:aa}(h:cy H (bb n) e v)(m:cX (· <n) H H')(c:∀l,n<=l->ok l):cy H' ok e v:=
 cy.aY (λl ro els a g=>⟨c l a,m.get g (Nat.not_lt.2 a)⟩) e v h
def fi(n:Nat):Prop:=∀{H:ad} {r:Nat} {T:List Tok} {ak cr:aa} {s:aq},jv H r T ak cr s->cr≠ .ar->∀(lev:Nat),lev<=5->∀(e:aJ) (s':aq),hC T n lev s=D (e,s')->W (aA P aw 165 [.ptr r 0 0,I J lev] H) (pF H r T ak cr e s')
def pF.ret{H a:ad}{r:Nat}{T:List Tok}{ak cr:aa}{s s':aq}{e:aJ}{v:aa}{b n:Nat}(i:jv H r T ak cr s)(m:b2 r H a)(d:iV a r ak cr s')(j:H.next<=b)(he:cy a (bb n) e v)(k:b<n)(c:bN):pF H r T ak cr e s' v (a.set b c):=by
 have o:=i.rd.lt;have m':=m.cz (.inr j) c;refine⟨m',i.mut m' ?_,he.new (cX.cz (S:=(· <n)) (cX.refl _ _) (.inl k) _) λl h=>by unfold bb;omega⟩;unfold iV at d ⊢;rw[ad.get_set_other af];exact d
def dc.append{H:ad}{ok:Nat->Prop}:∀(es:List aJ) (cs:List (List aa)) (e:aJ) (c:List aa),dc H ok es cs->cs.length=es.length->cy H ok e (.agg c)->dc H ok (es++[e]) (cs++[c])
 |[],[],e,c,_,_,h=>by
  simp only[List.nil_append];rw[dc,dc];exact⟨h,trivial⟩
 |[],_::_,e,c,_,a,_=>by simp at a
 |_::_,[],e,c,h,_,_=>by rw[dc]at h;exact h.elim
 |i::es,d::cs,e,c,h,a,he=>by
  rw[dc]at h;simp only[List.cons_append];rw[dc];exact⟨h.1,dc.append es cs e c h.2 (by simpa using a) he⟩
def E5:P.underlying 41=D (.slice 45):=ah
def yf:hn P 45=D 120:=ah
def xG:eF P 45=D (.agg [I J 0,I J 0,Y [],Y [],I J 0,.ar,I J 0,I J 0,I J 0,I J 0,I J 0]):=ah
def Gl{H:ad}{L:Nat}{cs:List aa}{cap:Option Nat}{ro:Bool}(a:H.get L=D (.row ro 11 [cs])):cR P H [41,41] .ar (.ay L 0 1 11 cap)=D (.ay H.next 0 1 11 Z,H.push (.row U 11 [cs])):=by
 simp[cR,hv,iZ,dy,E5,s9,yf,xG,hN,eu,a,aa.cells]
def Gm{H:ad}{L l n:Nat}{cs:List aa}{els:List (List aa)}{cap:Option Nat}{ro:Bool}(d:H.get L=D (.row ro 11 [cs]))(e:H.get l=D (.row U 11 els))(h:els.length=n)(i:n<=1000000000):cR P H [41,41] (.ay l 0 n 11 Z) (.ay L 0 1 11 cap)=D (.ay H.next 0 (n+1) 11 Z,(H.set l .dead).push (.row U 11 (els++[cs]))):=by
 have a:(n+1)*120<=140737488355328:=af;have c:n+1<=9223372036854775807:=af;simp[cR,hv,iZ,dy,E5,s9,yf,xG,hN,eu,d,e,aa.cells,h,a,c];rw[List.take_of_length_le af]
def fn(n:Nat):aa:= .func (.func n) [] []
