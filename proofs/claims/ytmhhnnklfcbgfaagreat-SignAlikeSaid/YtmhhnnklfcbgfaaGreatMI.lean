/-
  Texts of one proof, laid together: Nf Ng Nh.
-/
import Derived.Test.YtmhhnnklfcbgfaaGreatMH
set_option linter.unusedVariables false
set_option linter.unusedSimpArgs false
set_option linter.defProp false
open Option renaming some→D
open Bool renaming true→C,false→Z
open Go.bo.aa renaming int→J,bool→y
open Go.IntKind renaming i64→X
namespace Go.Proofs.YtmhhnnklfcbgfaaGreat
open Go.bo
section
open Go.bp
section
variable {H:ad}{ok:Nat->Prop}
def bg{H:ad}{i:In}{w:aa}{I:Nat}(h:H.get I=D (.row Z 6 [[J X i.op,J X i.a,J X i.b,J X i.c,J X i.n,w]])):
  aj P H 3 (.ptr I 0 1)=D (J X i.a)/\aj P H 3 (.ptr I 0 2)=D (J X i.b)/\aj P H 3 (.ptr I 0 3)=D (J X i.c)/\aj P H 3 (.ptr I 0 4)=D (J X i.n):=by
 simp-implicitDefEqProofs(disch:=try exact al)only[bM,h]
def ch{H:ad}{a b c d:aa}{m:Int}{zX:Nat}(h:H.get zX=D (.row Z 5 [[a,b,c,d,J X m]])):aj P H 27 (.ptr zX 0 0)=D (.agg [a,b,c,d,J X m]):=
 fY (n:=5) (i:=0) (c:=0) ag ag h rfl b_
def E0{H:ad}{i:In}{w:aa}{I:Nat}(h:H.get I=D (.row Z 6 [[J X i.op,J X i.a,J X i.b,J X i.c,J X i.n,w]])):aj P H 89 (.ptr I 0 0)=D (.agg [J X i.op,J X i.a,J X i.b,J X i.c,J X i.n,w]):=
 fY (n:=6) (i:=0) (c:=0) ag ag h rfl b_
def dX{H:ad}{c:b3}{v w:aa}{zC:Nat}(h:H.get zC=D (.row Z 7 [[J X c.params,v,y c.has,J X c.res.b,J X c.res.r,J X c.res.d,w]])):
  aj P H 4 (.ptr zC 0 2)=D (y c.has)/\aj P H 47 (.ptr zC 0 6)=D w/\aj P H 46 (.ptr zC 0 3)=D (cX c.res):=by
 refine⟨?_,?_,?_⟩
 ·simp-implicitDefEqProofs(disch:=try exact al)only[bM,h]
 ·simp-implicitDefEqProofs(disch:=try exact al)only[bM,h]
 ·exact fY (n:=3) (i:=0) (c:=3) ag ag h rfl b_
def wI{H:ad}{a b c d:aa}{m:Int}{zX:Nat}(h:H.get zX=D (.row Z 5 [[a,b,c,d,J X m]])):aj P H 23 (.ptr zX 0 1)=D b:=by
 simp-implicitDefEqProofs(disch:=try exact al)only[bM,h]
def b5{H:ad}{t:cz}{A:Nat}(h:H.get A=D (.row Z 3 [b7 t])):aj P H 3 (.ptr A 0 0)=D (J X t.b)/\aj P H 3 (.ptr A 0 2)=D (J X t.d):=by
 rw[b7]at h;simp-implicitDefEqProofs(disch:=try exact al)only[bM,h]
def aaa{x:bQ}{i:In}{v bi:aa}(aD:c2 H ok x v)(bp:vr H ok i bi)(f:Nat){c:b3}(aN:x.o[f]? =D c)(be:∀g∈x.o,g.vars.length<=1000000000)(hm:c.vars.all (dB x.b1.length)=C):W (aC P ax 51 [v,J X f,bi] H) λr H'=>r= y (dw x f c i)/\ay H H':=by
 obtain⟨_,rfl,a,b,cc,d,rfl,ae,ah,ak,au⟩:=aD;obtain⟨_,rfl,wi,rfl,i1⟩:=bp;have cx:=(List.getElem?_eq_some_iff.1 aN).1;have aP:c.vars.length<=1000000000:=be c (List.mem_of_getElem? aN);refine bZ (λ_=>UW 0) ?_;have bj:=dZ ae ah ak au x.main;have bl:=vG i1 i.op i.a i.b i.c i.n;have bf:=((ay.refl H).dK (.row Z 5 [[a,b,cc,d,J X x.main]])).dK (.row Z 6 [[J X i.op,J X i.a,J X i.b,J X i.c,J X i.n,wi]]);have f0:¬(f:Int)<0:=ai;have f1:¬(x.o.length:Int)<=(f:Int):=ai;simp-implicitDefEqProofs(disch:=try exact al)only[x0,bM,bj,bl,f0,f1,ak.len c0,decide_false];refine cE (Qq (i:=i) ⟨_,rfl,wi,rfl,i1.aI bf⟩) ?_
 rintro _ K ⟨rfl,ar⟩;refine⟨ar.1,?_⟩;have aU:=bf.trans ar;unfold dw;cases aS:named i with
 |false=>
  simp-implicitDefEqProofs(disch:=try exact al)only[bM];exact aK.2 ⟨by simp,aU⟩
 |true=>
  have az:K.get (H.next+1)=D (.row Z 6 [[J X i.op,J X i.a,J X i.b,J X i.c,J X i.n,wi]]):=ar.get (by simp[ad.ho]);have aY:K.get H.next=D (.row Z 5 [[a,b,cc,d,J X x.main]]):=ar.get (by simp[ad.ho])
  obtain⟨L,n,ro,els,co,bw,_,g,e,gv,gw,rfl,b8,cg⟩:=(ak.aI aU).at_ (K:=fr) c0 (j:=(f:Int)) (a:=c) ai (by simpa using aN);have cr:=ad.b6 g;have bn:K.get L=D (.row ro 7 els):=g;have cs:L≠K.next:=ai
  have bu:=b8.one;have bv:=cg.one;have cq:H.next+1<K.next:=by have:=ar.1;simp at this;omega
  have n5:H.next+1≠K.next:=ai
  have cG:H.next+1≠K.next+1:=ai
  have cC:H.next≠K.next:=ai
  have cD:H.next≠K.next+1:=ai
  simp-implicitDefEqProofs(disch:=try exact al)only[Nat.reduceAdd,bM,Bool.not_true,Bool.true_and,aY,az,bw,bn,e,bu,bv];have cH:=(aU.dK (.row Z 7 [[J X c.params,gv,y c.has,J X c.res.b,J X c.res.r,J X c.res.d,gw]])).dK (.row Z 3 [[J X 0,J X 0,J X 0]]);have a5:=((ay.refl K).dK (.row Z 7 [[J X c.params,gv,y c.has,J X c.res.b,J X c.res.r,J X c.res.d,gw]])).dK (.row Z 3 [[J X 0,J X 0,J X 0]]);refine bk (s5 ⟨_,rfl,gv,gw,rfl,b8.aI a5,cg.aI a5⟩ i.a aP) ?_;rintro _ bb ⟨rfl,l⟩;refine⟨l.1,?_⟩;have aR:=a5.trans l
  have aH:bb.get K.next=D (.row Z 7 [[J X c.params,gv,y c.has,J X c.res.b,J X c.res.r,J X c.res.d,gw]]):=l.get (by simp[ad.ho])
  have bc:bb.get (K.next+1)=D (.row Z 3 [[J X 0,J X 0,J X 0]]):=l.get (by simp[ad.ho]);have aA:=aR.get az;simp-implicitDefEqProofs(disch:=try exact al)only[bM,aH,aA];refine bk (s5 ⟨_,rfl,gv,gw,rfl,b8.aI aR,cg.aI aR⟩ i.b aP) ?_;rintro _ cn ⟨rfl,R⟩;refine⟨R.1,?_⟩;have a6:=aR.trans R;have aO:=R.get aH;have aE:=R.get aA;simp-implicitDefEqProofs(disch:=try exact al)only[bM,aO,aE];refine bk (s5 ⟨_,rfl,gv,gw,rfl,b8.aI a6,cg.aI a6⟩ i.c aP) ?_;rintro _ N ⟨rfl,ap⟩;refine⟨ap.1,?_⟩;have a7:=a6.trans ap;have a0:=ap.get aO;have aF:=ap.get aE;have a2:=ap.get (R.get bc);have bh:=w_ b8 cg
  rw[ct]at bh;have cz:H.next+1<N.next:=ad.b6 aF
  have cA:K.next<N.next:=ad.b6 a0
  have cB:K.next+1<N.next:=ad.b6 a2
  have aZ:=a7.get aY;have cy:H.next<N.next:=ad.b6 aZ
  have a4:∀v,(a1 c v).d<=1000:=λv=>by
   unfold a1;cases h:dE c.vars v with
   |none=>simp[bt]
   |some u=>
    have:=List.all_eq_true.1 hm u (List.mem_of_getElem? (Cz.1 h).2);simp only[dB,Bool.and_eq_true,decide_eq_true_eq]at this;simp;omega
  have bq:=a4 i.a;have bs:=a4 i.b;have cv:=a4 i.c;generalize a1 c i.a=ta at*;generalize a1 c i.b=tb at*;generalize a1 c i.c=S at*;simp-implicitDefEqProofs(disch:=try exact al)only[Nat.reduceAdd,bM,cX,b7,az,aA,aE,aF,aH,aO,bh]
  try rw[ad.ds H]
  try rw[ad.ds K]
  try rw[ad.ds (N.push _)]
  try rw[ad.ds N]
  have ab:ay N ((((((N.push (.row Z 3 [[J X 0,J X 0,J X 0]])).push (.row Z 3 [[J X 0,J X 0,J X 0]])).push (.row Z 3 [[J X 0,J X 0,J X 0]])).set N.next (.row Z 3 [[J X ta.b,J X ta.r,J X ta.d]])).set (N.next+1) (.row Z 3 [[J X tb.b,J X tb.r,J X tb.d]])).set (N.next+1+1) (.row Z 3 [[J X S.b,J X S.r,J X S.d]])):=
   (((((ay.refl N).dK _).dK _).dK _).lF (b4 _) _).lF ai _|>.lF ai _
  have bF:((((((N.push (.row Z 3 [[J X 0,J X 0,J X 0]])).push (.row Z 3 [[J X 0,J X 0,J X 0]])).push (.row Z 3 [[J X 0,J X 0,J X 0]])).set N.next (.row Z 3 [[J X ta.b,J X ta.r,J X ta.d]])).set (N.next+1) (.row Z 3 [[J X tb.b,J X tb.r,J X tb.d]])).set (N.next+1+1) (.row Z 3 [[J X S.b,J X S.r,J X S.d]])).get N.next=D (.row Z 3 [b7 ta]):=by
   simp-implicitDefEqProofs(disch:=try exact al)only[n4];rfl
  have m:((((((N.push (.row Z 3 [[J X 0,J X 0,J X 0]])).push (.row Z 3 [[J X 0,J X 0,J X 0]])).push (.row Z 3 [[J X 0,J X 0,J X 0]])).set N.next (.row Z 3 [[J X ta.b,J X ta.r,J X ta.d]])).set (N.next+1) (.row Z 3 [[J X tb.b,J X tb.r,J X tb.d]])).set (N.next+1+1) (.row Z 3 [[J X S.b,J X S.r,J X S.d]])).get (N.next+1)=D (.row Z 3 [b7 tb]):=by
   simp-implicitDefEqProofs(disch:=try exact al)only[n4];rfl
  have q:((((((N.push (.row Z 3 [[J X 0,J X 0,J X 0]])).push (.row Z 3 [[J X 0,J X 0,J X 0]])).push (.row Z 3 [[J X 0,J X 0,J X 0]])).set N.next (.row Z 3 [[J X ta.b,J X ta.r,J X ta.d]])).set (N.next+1) (.row Z 3 [[J X tb.b,J X tb.r,J X tb.d]])).set (N.next+1+1) (.row Z 3 [[J X S.b,J X S.r,J X S.d]])).get (N.next+1+1)=D (.row Z 3 [b7 S]):=by
   simp-implicitDefEqProofs(disch:=try exact al)only[n4];rfl
  generalize ((((((N.push (.row Z 3 [[J X 0,J X 0,J X 0]])).push (.row Z 3 [[J X 0,J X 0,J X 0]])).push (.row Z 3 [[J X 0,J X 0,J X 0]])).set N.next (.row Z 3 [[J X ta.b,J X ta.r,J X ta.d]])).set (N.next+1) (.row Z 3 [[J X tb.b,J X tb.r,J X tb.d]])).set (N.next+1+1) (.row Z 3 [[J X S.b,J X S.r,J X S.d]]))=Y at*;have aT:=ab.get aZ;have aQ:=ab.get aF;have bP:=ab.get a0;have G:Y.get (K.next+1)=D (.row Z 3 [b7 bt]):=ab.get a2;have s:ay H Y:=(aU.trans a7).trans ab
  generalize N.next=A at*
  generalize A+1=B at*;generalize B+1=zD at*;clear a2 aZ aF a0 aE aO aA aH bc az aY;have Q:aV (D (.agg [a,b,cc,d,J X x.main])) (.agg [a,b,cc,d,J X x.main])=true:=by simp[aV,aa.beq,eE.beq,ae.rd,ah.rd,ak.rd,au.rd]
  have an:c2 Y ok x (.agg [a,b,cc,d,J X x.main]):=⟨_,rfl,a,b,cc,d,rfl,ae.aI s,ah.aI s,ak.aI s,au.aI s⟩;have af:ay K Y:=a7.trans ab;have O:aV (D gw) gw=true:=eA cg;split
  case h_1 heq=>
   have t:∀j:Int,(i.op==j)=(1==j):=λj=>by rw[heq]
   simp-implicitDefEqProofs(disch:=try exact al)only[aq,t,Int.reduceBEq];refine bk ia ?_;rintro _ ae ⟨rfl,l⟩;refine⟨l.1,?_⟩;have cp:=l.get aQ;by_cases z:ta=cN
   ·simp-implicitDefEqProofs(disch:=try exact al)only[aq,a_ (l.get bF),di,z,decide_true,yI,yH];refine cI (cJ ag ?_) (aK.2 ⟨by simp,s.trans l⟩);subst z;refine cY ?_ ?_
    ·simp only[cw,bo.K.heap,List.forall_mem_cons]
     repeat' first|exact ay.refl _|exact l|(intro _ h;cases h;done)|refine aL ?_ ?_
    ·simp only[List.forall_mem_cons]
     repeat' first|(intro v k;cases k;done)|(intro v k;cases k;intro H' p;simp only[a_ (p.get bF),br];done)|(intro v k;cases k;intro H' p;simp only[a_ (p.get m),br];done)|(intro v k;cases k;intro H' p;simp only[a_ (p.get q),br];done)|(intro v k;cases k;intro H' p;simp only[a_ (p.get G),br];done)|(intro v k;cases k;intro H' p;simp only[Nat.zero_add,bg (p.get aQ),bK];done)|(intro v k;cases k;intro H' p;simp only[Nat.zero_add,b5 (p.get bF),bK];done)|(intro v k;cases k;intro H' p;simp only[Nat.zero_add,b5 (p.get m),bK];done)|(intro v k;cases k;intro H' p;simp only[Nat.zero_add,b5 (p.get q),bK];done)|(intro v k;cases k;intro H' p;simp only[ch (p.get aT),Q];done)|(intro v k;cases k;intro H' p;simp only[Nat.zero_add,dX (p.get bP),O];done)|(intro _ h;cases h;done)|refine aL ?_ ?_
   ·simp-implicitDefEqProofs(disch:=try exact al)only[aq,a_ (l.get bF),di,z,decide_false,hU];refine cE lE ?_;rintro _ ah ⟨rfl,R⟩;refine⟨R.1,?_⟩;have M:=l.trans R;have bd:=M.get aQ;by_cases U:ta=dI
    ·subst U;cases dq:(i.n==0)with
     |true=>
      simp-implicitDefEqProofs(disch:=try exact al)only[aq,aG,aM,Nat.zero_add,a_ (M.get bF),bg bd,di,decide_true,dq,c1,hU,yI];refine cI (cJ ag ?_) (aK.2 ⟨by simp[],s.trans M⟩);refine cY ?_ ?_
      ·simp only[cw,bo.K.heap,List.forall_mem_cons]
       repeat' first|exact ay.refl _|exact l|exact M|(intro _ h;cases h;done)|refine aL ?_ ?_
      ·simp only[List.forall_mem_cons]
       repeat' first|(intro v k;cases k;done)|(intro v k;cases k;intro H' p;simp only[a_ (p.get bF),br];done)|(intro v k;cases k;intro H' p;simp only[a_ (p.get m),br];done)|(intro v k;cases k;intro H' p;simp only[a_ (p.get q),br];done)|(intro v k;cases k;intro H' p;simp only[a_ (p.get G),br];done)|(intro v k;cases k;intro H' p;simp only[bg (p.get aQ),bK];done)|(intro v k;cases k;intro H' p;simp only[Nat.zero_add,b5 (p.get bF),bK];done)|(intro v k;cases k;intro H' p;simp only[Nat.zero_add,b5 (p.get m),bK];done)|(intro v k;cases k;intro H' p;simp only[Nat.zero_add,b5 (p.get q),bK];done)|(intro v k;cases k;intro H' p;simp only[ch (p.get aT),Q];done)|(intro v k;cases k;intro H' p;simp only[Nat.zero_add,dX (p.get bP),O];done)|(intro _ h;cases h;done)|refine aL ?_ ?_
     |false=>
      simp-implicitDefEqProofs(disch:=try exact al)only[aq,aG,aM,Nat.zero_add,a_ (M.get bF),bg bd,di,decide_true,dq,c1,hU];refine cI (cJ ag ?_) (aK.2 ⟨by simp[],s.trans M⟩);refine cY ?_ ?_
      ·simp only[cw,bo.K.heap,List.forall_mem_cons]
       repeat' first|exact ay.refl _|exact l|exact M|(intro _ h;cases h;done)|refine aL ?_ ?_
      ·simp only[List.forall_mem_cons]
       repeat' first|(intro v k;cases k;done)|(intro v k;cases k;intro H' p;simp only[a_ (p.get bF),br];done)|(intro v k;cases k;intro H' p;simp only[a_ (p.get m),br];done)|(intro v k;cases k;intro H' p;simp only[a_ (p.get q),br];done)|(intro v k;cases k;intro H' p;simp only[a_ (p.get G),br];done)|(intro v k;cases k;intro H' p;simp only[bg (p.get aQ),bK];done)|(intro v k;cases k;intro H' p;simp only[Nat.zero_add,b5 (p.get bF),bK];done)|(intro v k;cases k;intro H' p;simp only[Nat.zero_add,b5 (p.get m),bK];done)|(intro v k;cases k;intro H' p;simp only[Nat.zero_add,b5 (p.get q),bK];done)|(intro v k;cases k;intro H' p;simp only[ch (p.get aT),Q];done)|(intro v k;cases k;intro H' p;simp only[Nat.zero_add,dX (p.get bP),O];done)|(intro _ h;cases h;done)|refine aL ?_ ?_
    ·simp-implicitDefEqProofs(disch:=try exact al)only[aq,a_ (M.get bF),di,U,decide_false,hU,dQ,yH];refine cI (cJ ag ?_) (aK.2 ⟨by simp,s.trans M⟩);refine cY ?_ ?_
     ·simp only[cw,bo.K.heap,List.forall_mem_cons]
      repeat' first|exact ay.refl _|exact l|exact M|(intro _ h;cases h;done)|refine aL ?_ ?_
     ·simp only[List.forall_mem_cons]
      repeat' first|(intro v k;cases k;done)|(intro v k;cases k;intro H' p;simp only[a_ (p.get bF),br];done)|(intro v k;cases k;intro H' p;simp only[a_ (p.get m),br];done)|(intro v k;cases k;intro H' p;simp only[a_ (p.get q),br];done)|(intro v k;cases k;intro H' p;simp only[a_ (p.get G),br];done)|(intro v k;cases k;intro H' p;simp only[Nat.zero_add,bg (p.get aQ),bK];done)|(intro v k;cases k;intro H' p;simp only[Nat.zero_add,b5 (p.get bF),bK];done)|(intro v k;cases k;intro H' p;simp only[Nat.zero_add,b5 (p.get m),bK];done)|(intro v k;cases k;intro H' p;simp only[Nat.zero_add,b5 (p.get q),bK];done)|(intro v k;cases k;intro H' p;simp only[ch (p.get aT),Q];done)|(intro v k;cases k;intro H' p;simp only[Nat.zero_add,dX (p.get bP),O];done)|(intro _ h;cases h;done)|refine aL ?_ ?_
  case h_2 heq=>
   have t:∀j:Int,(i.op==j)=(2==j):=λj=>by rw[heq]
   simp-implicitDefEqProofs(disch:=try exact al)only[aq,aG,t,Int.reduceBEq,a_ bF,a_ G,gK];by_cases z:ta=bt
   ·have E:decide (ta≠bt)=false:=by simp[z]
    simp-implicitDefEqProofs(disch:=try exact al)only[aq,E];exact aK.2 ⟨by simp,s⟩
   ·have E:decide (ta≠bt)=true:=by simp[z]
    simp-implicitDefEqProofs(disch:=try exact al)only[aq,a_ bF,E];refine cE (AN ta) ?_;rintro _ ae ⟨rfl,l⟩;refine⟨l.1,?_⟩;simp-implicitDefEqProofs(disch:=try exact al)only[aq,E];exact aK.2 ⟨by simp,s.trans l⟩
  case h_3 heq=>
   have t:∀j:Int,(i.op==j)=(3==j):=λj=>by rw[heq]
   simp-implicitDefEqProofs(disch:=try exact al)only[aq,aG,t,Int.reduceBEq,a_ bF,a_ G,gK];by_cases z:ta=bt
   ·have E:decide (ta≠bt)=false:=by simp[z]
    simp-implicitDefEqProofs(disch:=try exact al)only[aq,E];exact aK.2 ⟨by simp[z],s⟩
   ·have E:decide (ta≠bt)=true:=by simp[z]
    simp-implicitDefEqProofs(disch:=try exact al)only[aq,a_ bF,a_ m,di,E];exact aK.2 ⟨by simp[z],s⟩
  case h_4 heq=>
   have t:∀j:Int,(i.op==j)=(4==j):=λj=>by rw[heq]
   simp-implicitDefEqProofs(disch:=try exact al)only[aq,aG,aM,Nat.zero_add,t,Int.reduceBEq,bg aQ,a_ bF,a_ m,a_ q];refine bk (K8 i.n ta tb S) ?_;rintro _ ae ⟨rfl,l⟩;exact⟨l.1,aK.2 ⟨rfl,s.trans l⟩⟩
  case h_5 heq=>
   have t:∀j:Int,(i.op==j)=(5==j):=λj=>by rw[heq]
   simp-implicitDefEqProofs(disch:=try exact al)only[aq,aG,aM,Nat.zero_add,t,Int.reduceBEq,bg aQ];cases dq:(i.n==12)with
   |true=>
    have cP:(i.n==13)=false:=by
     have:i.n=12:=by simpa using dq
     rw[this];rfl
    simp-implicitDefEqProofs(disch:=try exact al)only[aq,c1];refine cE ia ?_;rintro _ ae ⟨rfl,l⟩;refine⟨l.1,?_⟩;by_cases z:ta=cN
    ·subst z;simp-implicitDefEqProofs(disch:=try exact al)only[aq,c1,a_ (l.get bF),di,decide_true];refine cE ia ?_;rintro _ ah ⟨rfl,R⟩;refine⟨R.1,?_⟩;have M:=l.trans R;by_cases U:tb=cN
     ·subst U;simp-implicitDefEqProofs(disch:=try exact al)only[aq,c1,yI,yH,a_ (M.get m),di,decide_true];refine cI (cJ ag ?_) (aK.2 ⟨by simp,s.trans M⟩);refine cY ?_ ?_
      ·simp only[cw,bo.K.heap,List.forall_mem_cons]
       repeat' first|exact ay.refl _|exact l|exact M|(intro _ h;cases h;done)|refine aL ?_ ?_
      ·simp only[List.forall_mem_cons]
       repeat' first|(intro v k;cases k;done)|(intro v k;cases k;intro H' p;simp only[a_ (p.get bF),br];done)|(intro v k;cases k;intro H' p;simp only[a_ (p.get m),br];done)|(intro v k;cases k;intro H' p;simp only[a_ (p.get q),br];done)|(intro v k;cases k;intro H' p;simp only[a_ (p.get G),br];done)|(intro v k;cases k;intro H' p;simp only[bg (p.get aQ),bK];done)|(intro v k;cases k;intro H' p;simp only[Nat.zero_add,b5 (p.get bF),bK];done)|(intro v k;cases k;intro H' p;simp only[Nat.zero_add,b5 (p.get m),bK];done)|(intro v k;cases k;intro H' p;simp only[Nat.zero_add,b5 (p.get q),bK];done)|(intro v k;cases k;intro H' p;simp only[ch (p.get aT),Q];done)|(intro v k;cases k;intro H' p;simp only[Nat.zero_add,dX (p.get bP),O];done)|(intro _ h;cases h;done)|refine aL ?_ ?_
     ·simp-implicitDefEqProofs(disch:=try exact al)only[aq,aG,aM,Nat.zero_add,c1,hU,dQ,a_ (M.get m),bg (M.get aQ),cP,di,U,decide_false];refine cI (cJ ag ?_) (aK.2 ⟨by simp[],s.trans M⟩);refine cY ?_ ?_
      ·simp only[cw,bo.K.heap,List.forall_mem_cons]
       repeat' first|exact ay.refl _|exact l|exact M|(intro _ h;cases h;done)|refine aL ?_ ?_
      ·simp only[List.forall_mem_cons]
       repeat' first|(intro v k;cases k;done)|(intro v k;cases k;intro H' p;simp only[a_ (p.get bF),br];done)|(intro v k;cases k;intro H' p;simp only[a_ (p.get m),br];done)|(intro v k;cases k;intro H' p;simp only[a_ (p.get q),br];done)|(intro v k;cases k;intro H' p;simp only[a_ (p.get G),br];done)|(intro v k;cases k;intro H' p;simp only[bg (p.get aQ),bK];done)|(intro v k;cases k;intro H' p;simp only[Nat.zero_add,b5 (p.get bF),bK];done)|(intro v k;cases k;intro H' p;simp only[Nat.zero_add,b5 (p.get m),bK];done)|(intro v k;cases k;intro H' p;simp only[Nat.zero_add,b5 (p.get q),bK];done)|(intro v k;cases k;intro H' p;simp only[ch (p.get aT),Q];done)|(intro v k;cases k;intro H' p;simp only[Nat.zero_add,dX (p.get bP),O];done)|(intro _ h;cases h;done)|refine aL ?_ ?_
    ·simp-implicitDefEqProofs(disch:=try exact al)only[aq,aG,aM,Nat.zero_add,c1,hU,dQ,a_ (l.get bF),bg (l.get aQ),cP,di,z,decide_false];refine cI (cJ ag ?_) (aK.2 ⟨by simp[],s.trans l⟩);refine cY ?_ ?_
     ·simp only[cw,bo.K.heap,List.forall_mem_cons]
      repeat' first|exact ay.refl _|exact l|(intro _ h;cases h;done)|refine aL ?_ ?_
     ·simp only[List.forall_mem_cons]
      repeat' first|(intro v k;cases k;done)|(intro v k;cases k;intro H' p;simp only[a_ (p.get bF),br];done)|(intro v k;cases k;intro H' p;simp only[a_ (p.get m),br];done)|(intro v k;cases k;intro H' p;simp only[a_ (p.get q),br];done)|(intro v k;cases k;intro H' p;simp only[a_ (p.get G),br];done)|(intro v k;cases k;intro H' p;simp only[bg (p.get aQ),bK];done)|(intro v k;cases k;intro H' p;simp only[Nat.zero_add,b5 (p.get bF),bK];done)|(intro v k;cases k;intro H' p;simp only[Nat.zero_add,b5 (p.get m),bK];done)|(intro v k;cases k;intro H' p;simp only[Nat.zero_add,b5 (p.get q),bK];done)|(intro v k;cases k;intro H' p;simp only[ch (p.get aT),Q];done)|(intro v k;cases k;intro H' p;simp only[Nat.zero_add,dX (p.get bP),O];done)|(intro _ h;cases h;done)|refine aL ?_ ?_
   |false=>
    cases cP:(i.n==13)with
    |true=>
     simp-implicitDefEqProofs(disch:=try exact al)only[aq,aG,aM,Nat.zero_add,c1,hU,dQ,bg aQ,cP];refine cE lE ?_;rintro _ ae ⟨rfl,l⟩;refine⟨l.1,?_⟩;by_cases z:ta=dI
     ·subst z;simp-implicitDefEqProofs(disch:=try exact al)only[aq,c1,hU,a_ (l.get bF),di,decide_true];refine cE lE ?_;rintro _ ah ⟨rfl,R⟩;refine⟨R.1,?_⟩;have M:=l.trans R;simp-implicitDefEqProofs(disch:=try exact al)only[aq,c1,hU,a_ (M.get m),di];refine cI (cJ ag ?_) (aK.2 ⟨by simp,s.trans M⟩);refine cY ?_ ?_
      ·simp only[cw,bo.K.heap,List.forall_mem_cons]
       repeat' first|exact ay.refl _|exact l|exact M|(intro _ h;cases h;done)|refine aL ?_ ?_
      ·simp only[List.forall_mem_cons]
       repeat' first|(intro v k;cases k;done)|(intro v k;cases k;intro H' p;simp only[a_ (p.get bF),br];done)|(intro v k;cases k;intro H' p;simp only[a_ (p.get m),br];done)|(intro v k;cases k;intro H' p;simp only[a_ (p.get q),br];done)|(intro v k;cases k;intro H' p;simp only[a_ (p.get G),br];done)|(intro v k;cases k;intro H' p;simp only[bg (p.get aQ),bK];done)|(intro v k;cases k;intro H' p;simp only[Nat.zero_add,b5 (p.get bF),bK];done)|(intro v k;cases k;intro H' p;simp only[Nat.zero_add,b5 (p.get m),bK];done)|(intro v k;cases k;intro H' p;simp only[Nat.zero_add,b5 (p.get q),bK];done)|(intro v k;cases k;intro H' p;simp only[ch (p.get aT),Q];done)|(intro v k;cases k;intro H' p;simp only[Nat.zero_add,dX (p.get bP),O];done)|(intro _ h;cases h;done)|refine aL ?_ ?_
     ·simp-implicitDefEqProofs(disch:=try exact al)only[aq,c1,hU,dQ,a_ (l.get bF),di,z,decide_false];refine cI (cJ ag ?_) (aK.2 ⟨by simp,s.trans l⟩);refine cY ?_ ?_
      ·simp only[cw,bo.K.heap,List.forall_mem_cons]
       repeat' first|exact ay.refl _|exact l|(intro _ h;cases h;done)|refine aL ?_ ?_
      ·simp only[List.forall_mem_cons]
       repeat' first|(intro v k;cases k;done)|(intro v k;cases k;intro H' p;simp only[a_ (p.get bF),br];done)|(intro v k;cases k;intro H' p;simp only[a_ (p.get m),br];done)|(intro v k;cases k;intro H' p;simp only[a_ (p.get q),br];done)|(intro v k;cases k;intro H' p;simp only[a_ (p.get G),br];done)|(intro v k;cases k;intro H' p;simp only[bg (p.get aQ),bK];done)|(intro v k;cases k;intro H' p;simp only[Nat.zero_add,b5 (p.get bF),bK];done)|(intro v k;cases k;intro H' p;simp only[Nat.zero_add,b5 (p.get m),bK];done)|(intro v k;cases k;intro H' p;simp only[Nat.zero_add,b5 (p.get q),bK];done)|(intro v k;cases k;intro H' p;simp only[ch (p.get aT),Q];done)|(intro v k;cases k;intro H' p;simp only[Nat.zero_add,dX (p.get bP),O];done)|(intro _ h;cases h;done)|refine aL ?_ ?_
    |false=>
     simp-implicitDefEqProofs(disch:=try exact al)only[aq,aG,aM,Nat.zero_add,hU,dQ,bg aQ,cP];refine cI (cJ ag ?_) (aK.2 ⟨by simp,s⟩);refine cY ?_ ?_
     ·simp only[cw,bo.K.heap,List.forall_mem_cons]
      repeat' first|exact ay.refl _|(intro _ h;cases h;done)|refine aL ?_ ?_
     ·simp only[List.forall_mem_cons]
      repeat' first|(intro v k;cases k;done)|(intro v k;cases k;intro H' p;simp only[a_ (p.get bF),br];done)|(intro v k;cases k;intro H' p;simp only[a_ (p.get m),br];done)|(intro v k;cases k;intro H' p;simp only[a_ (p.get q),br];done)|(intro v k;cases k;intro H' p;simp only[a_ (p.get G),br];done)|(intro v k;cases k;intro H' p;simp only[bg (p.get aQ),bK];done)|(intro v k;cases k;intro H' p;simp only[Nat.zero_add,b5 (p.get bF),bK];done)|(intro v k;cases k;intro H' p;simp only[Nat.zero_add,b5 (p.get m),bK];done)|(intro v k;cases k;intro H' p;simp only[Nat.zero_add,b5 (p.get q),bK];done)|(intro v k;cases k;intro H' p;simp only[ch (p.get aT),Q];done)|(intro v k;cases k;intro H' p;simp only[Nat.zero_add,dX (p.get bP),O];done)|(intro _ h;cases h;done)|refine aL ?_ ?_
  case h_6 heq=>
   have t:∀j:Int,(i.op==j)=(6==j):=λj=>by rw[heq]
   simp-implicitDefEqProofs(disch:=try exact al)only[aq,aG,t,Int.reduceBEq,a_ bF,a_ G,gK];by_cases z:ta=bt
   ·have E:decide (ta≠bt)=false:=by simp[z]
    simp-implicitDefEqProofs(disch:=try exact al)only[aq,dQ,E];refine cI (cJ ag ?_) (aK.2 ⟨by simp[z],s⟩);refine cY ?_ ?_
    ·simp only[cw,bo.K.heap,List.forall_mem_cons]
     repeat' first|exact ay.refl _|(intro _ h;cases h;done)|refine aL ?_ ?_
    ·simp only[List.forall_mem_cons]
     repeat' first|(intro v k;cases k;done)|(intro v k;cases k;intro H' p;simp only[a_ (p.get bF),br];done)|(intro v k;cases k;intro H' p;simp only[a_ (p.get m),br];done)|(intro v k;cases k;intro H' p;simp only[a_ (p.get q),br];done)|(intro v k;cases k;intro H' p;simp only[a_ (p.get G),br];done)|(intro v k;cases k;intro H' p;simp only[Nat.zero_add,bg (p.get aQ),bK];done)|(intro v k;cases k;intro H' p;simp only[Nat.zero_add,b5 (p.get bF),bK];done)|(intro v k;cases k;intro H' p;simp only[Nat.zero_add,b5 (p.get m),bK];done)|(intro v k;cases k;intro H' p;simp only[Nat.zero_add,b5 (p.get q),bK];done)|(intro v k;cases k;intro H' p;simp only[ch (p.get aT),Q];done)|(intro v k;cases k;intro H' p;simp only[Nat.zero_add,dX (p.get bP),O];done)|(intro _ h;cases h;done)|refine aL ?_ ?_
   ·have E:decide (ta≠bt)=true:=by simp[z]
    simp-implicitDefEqProofs(disch:=try exact al)only[aq,aM,Nat.zero_add,c1,a_ m,ch aT,bg aQ,E];refine cE (DN an tb i.c) ?_;rintro _ ae ⟨rfl,l⟩;refine⟨l.1,?_⟩;simp-implicitDefEqProofs(disch:=try exact al)only[aq,c1,a_ (l.get bF),di,E];refine cI (cJ ag ?_) (aK.2 ⟨by simp[z],s.trans l⟩);refine cY ?_ ?_
    ·simp only[cw,bo.K.heap,List.forall_mem_cons]
     repeat' first|exact ay.refl _|exact l|(intro _ h;cases h;done)|refine aL ?_ ?_
    ·simp only[List.forall_mem_cons]
     repeat' first|(intro v k;cases k;done)|(intro v k;cases k;intro H' p;simp only[a_ (p.get bF),br];done)|(intro v k;cases k;intro H' p;simp only[a_ (p.get m),br];done)|(intro v k;cases k;intro H' p;simp only[a_ (p.get q),br];done)|(intro v k;cases k;intro H' p;simp only[a_ (p.get G),br];done)|(intro v k;cases k;intro H' p;simp only[bg (p.get aQ),bK];done)|(intro v k;cases k;intro H' p;simp only[Nat.zero_add,b5 (p.get bF),bK];done)|(intro v k;cases k;intro H' p;simp only[Nat.zero_add,b5 (p.get m),bK];done)|(intro v k;cases k;intro H' p;simp only[Nat.zero_add,b5 (p.get q),bK];done)|(intro v k;cases k;intro H' p;simp only[ch (p.get aT),Q];done)|(intro v k;cases k;intro H' p;simp only[Nat.zero_add,dX (p.get bP),O];done)|(intro _ h;cases h;done)|refine aL ?_ ?_
  case h_7 heq=>
   have t:∀j:Int,(i.op==j)=(7==j):=λj=>by rw[heq]
   simp-implicitDefEqProofs(disch:=try exact al)only[aq,aG,t,Int.reduceBEq,a_ m,a_ G,gK];by_cases z:tb=bt
   ·have E:decide (tb≠bt)=false:=by simp[z]
    simp-implicitDefEqProofs(disch:=try exact al)only[aq,dQ,E];refine cI (cJ ag ?_) (aK.2 ⟨by simp[z],s⟩);refine cY ?_ ?_
    ·simp only[cw,bo.K.heap,List.forall_mem_cons]
     repeat' first|exact ay.refl _|(intro _ h;cases h;done)|refine aL ?_ ?_
    ·simp only[List.forall_mem_cons]
     repeat' first|(intro v k;cases k;done)|(intro v k;cases k;intro H' p;simp only[a_ (p.get bF),br];done)|(intro v k;cases k;intro H' p;simp only[a_ (p.get m),br];done)|(intro v k;cases k;intro H' p;simp only[a_ (p.get q),br];done)|(intro v k;cases k;intro H' p;simp only[a_ (p.get G),br];done)|(intro v k;cases k;intro H' p;simp only[Nat.zero_add,bg (p.get aQ),bK];done)|(intro v k;cases k;intro H' p;simp only[Nat.zero_add,b5 (p.get bF),bK];done)|(intro v k;cases k;intro H' p;simp only[Nat.zero_add,b5 (p.get m),bK];done)|(intro v k;cases k;intro H' p;simp only[Nat.zero_add,b5 (p.get q),bK];done)|(intro v k;cases k;intro H' p;simp only[ch (p.get aT),Q];done)|(intro v k;cases k;intro H' p;simp only[Nat.zero_add,dX (p.get bP),O];done)|(intro _ h;cases h;done)|refine aL ?_ ?_
   ·have E:decide (tb≠bt)=true:=by simp[z]
    simp-implicitDefEqProofs(disch:=try exact al)only[aq,aM,Nat.zero_add,c1,a_ bF,ch aT,bg aQ,E];refine cE (DN an ta i.c) ?_;rintro _ ae ⟨rfl,l⟩;refine⟨l.1,?_⟩;simp-implicitDefEqProofs(disch:=try exact al)only[aq,c1,a_ (l.get m),di,E];refine cI (cJ ag ?_) (aK.2 ⟨by simp[z],s.trans l⟩);refine cY ?_ ?_
    ·simp only[cw,bo.K.heap,List.forall_mem_cons]
     repeat' first|exact ay.refl _|exact l|(intro _ h;cases h;done)|refine aL ?_ ?_
    ·simp only[List.forall_mem_cons]
     repeat' first|(intro v k;cases k;done)|(intro v k;cases k;intro H' p;simp only[a_ (p.get bF),br];done)|(intro v k;cases k;intro H' p;simp only[a_ (p.get m),br];done)|(intro v k;cases k;intro H' p;simp only[a_ (p.get q),br];done)|(intro v k;cases k;intro H' p;simp only[a_ (p.get G),br];done)|(intro v k;cases k;intro H' p;simp only[bg (p.get aQ),bK];done)|(intro v k;cases k;intro H' p;simp only[Nat.zero_add,b5 (p.get bF),bK];done)|(intro v k;cases k;intro H' p;simp only[Nat.zero_add,b5 (p.get m),bK];done)|(intro v k;cases k;intro H' p;simp only[Nat.zero_add,b5 (p.get q),bK];done)|(intro v k;cases k;intro H' p;simp only[ch (p.get aT),Q];done)|(intro v k;cases k;intro H' p;simp only[Nat.zero_add,dX (p.get bP),O];done)|(intro _ h;cases h;done)|refine aL ?_ ?_
  case h_8 heq=>
   have t:∀j:Int,(i.op==j)=(8==j):=λj=>by rw[heq]
   simp-implicitDefEqProofs(disch:=try exact al)only[aq,aG,t,Int.reduceBEq,a_ bF,a_ G,gK];by_cases z:ta=bt
   ·have E:decide (ta≠bt)=false:=by simp[z]
    simp-implicitDefEqProofs(disch:=try exact al)only[aq,dQ,E];refine cI (cJ ag ?_) (aK.2 ⟨by simp[z],s⟩);refine cY ?_ ?_
    ·simp only[cw,bo.K.heap,List.forall_mem_cons]
     repeat' first|exact ay.refl _|(intro _ h;cases h;done)|refine aL ?_ ?_
    ·simp only[List.forall_mem_cons]
     repeat' first|(intro v k;cases k;done)|(intro v k;cases k;intro H' p;simp only[a_ (p.get bF),br];done)|(intro v k;cases k;intro H' p;simp only[a_ (p.get m),br];done)|(intro v k;cases k;intro H' p;simp only[a_ (p.get q),br];done)|(intro v k;cases k;intro H' p;simp only[a_ (p.get G),br];done)|(intro v k;cases k;intro H' p;simp only[Nat.zero_add,bg (p.get aQ),bK];done)|(intro v k;cases k;intro H' p;simp only[Nat.zero_add,b5 (p.get bF),bK];done)|(intro v k;cases k;intro H' p;simp only[Nat.zero_add,b5 (p.get m),bK];done)|(intro v k;cases k;intro H' p;simp only[Nat.zero_add,b5 (p.get q),bK];done)|(intro v k;cases k;intro H' p;simp only[ch (p.get aT),Q];done)|(intro v k;cases k;intro H' p;simp only[Nat.zero_add,dX (p.get bP),O];done)|(intro _ h;cases h;done)|refine aL ?_ ?_
   ·have E:decide (ta≠bt)=true:=by simp[z]
    by_cases T:0<tb.d
    ·simp-implicitDefEqProofs(disch:=try exact al)only[aq,aG,aM,Nat.zero_add,c1,b5 m,E,T,decide_true];refine cE ia ?_;rintro _ ae ⟨rfl,l⟩;refine⟨l.1,?_⟩;by_cases V:S=cN
     ·simp-implicitDefEqProofs(disch:=try exact al)only[aq,c1,a_ (l.get q),a_ (l.get m),di,V,decide_true];refine cE (E5 tb T bs) ?_;rintro _ ah ⟨rfl,R⟩;refine⟨R.1,?_⟩;have M:=l.trans R;simp-implicitDefEqProofs(disch:=try exact al)only[aq,c1,a_ (M.get bF),di,E];refine cI (cJ ag ?_) (aK.2 ⟨by simp[z],s.trans M⟩);rw[V]at q;refine cY ?_ ?_
      ·simp only[cw,bo.K.heap,List.forall_mem_cons]
       repeat' first|exact ay.refl _|exact l|exact M|(intro _ h;cases h;done)|refine aL ?_ ?_
      ·simp only[List.forall_mem_cons]
       repeat' first|(intro v k;cases k;done)|(intro v k;cases k;intro H' p;simp only[a_ (p.get bF),br];done)|(intro v k;cases k;intro H' p;simp only[a_ (p.get m),br];done)|(intro v k;cases k;intro H' p;simp only[a_ (p.get q),br];done)|(intro v k;cases k;intro H' p;simp only[a_ (p.get G),br];done)|(intro v k;cases k;intro H' p;simp only[Nat.zero_add,bg (p.get aQ),bK];done)|(intro v k;cases k;intro H' p;simp only[Nat.zero_add,b5 (p.get bF),bK];done)|(intro v k;cases k;intro H' p;simp only[b5 (p.get m),bK];done)|(intro v k;cases k;intro H' p;simp only[Nat.zero_add,b5 (p.get q),bK];done)|(intro v k;cases k;intro H' p;simp only[ch (p.get aT),Q];done)|(intro v k;cases k;intro H' p;simp only[Nat.zero_add,dX (p.get bP),O];done)|(intro _ h;cases h;done)|refine aL ?_ ?_
     ·simp-implicitDefEqProofs(disch:=try exact al)only[aq,c1,dQ,a_ (l.get q),di,E,V,decide_false];refine cI (cJ ag ?_) (aK.2 ⟨by simp[],s.trans l⟩);refine cY ?_ ?_
      ·simp only[cw,bo.K.heap,List.forall_mem_cons]
       repeat' first|exact ay.refl _|exact l|(intro _ h;cases h;done)|refine aL ?_ ?_
      ·simp only[List.forall_mem_cons]
       repeat' first|(intro v k;cases k;done)|(intro v k;cases k;intro H' p;simp only[a_ (p.get bF),br];done)|(intro v k;cases k;intro H' p;simp only[a_ (p.get m),br];done)|(intro v k;cases k;intro H' p;simp only[a_ (p.get q),br];done)|(intro v k;cases k;intro H' p;simp only[a_ (p.get G),br];done)|(intro v k;cases k;intro H' p;simp only[Nat.zero_add,bg (p.get aQ),bK];done)|(intro v k;cases k;intro H' p;simp only[Nat.zero_add,b5 (p.get bF),bK];done)|(intro v k;cases k;intro H' p;simp only[b5 (p.get m),bK];done)|(intro v k;cases k;intro H' p;simp only[Nat.zero_add,b5 (p.get q),bK];done)|(intro v k;cases k;intro H' p;simp only[ch (p.get aT),Q];done)|(intro v k;cases k;intro H' p;simp only[Nat.zero_add,dX (p.get bP),O];done)|(intro _ h;cases h;done)|refine aL ?_ ?_
    ·simp-implicitDefEqProofs(disch:=try exact al)only[aq,aG,aM,Nat.zero_add,c1,dQ,b5 m,E,T,decide_false];refine cI (cJ ag ?_) (aK.2 ⟨by simp[],s⟩);refine cY ?_ ?_
     ·simp only[cw,bo.K.heap,List.forall_mem_cons]
      repeat' first|exact ay.refl _|(intro _ h;cases h;done)|refine aL ?_ ?_
     ·simp only[List.forall_mem_cons]
      repeat' first|(intro v k;cases k;done)|(intro v k;cases k;intro H' p;simp only[a_ (p.get bF),br];done)|(intro v k;cases k;intro H' p;simp only[a_ (p.get m),br];done)|(intro v k;cases k;intro H' p;simp only[a_ (p.get q),br];done)|(intro v k;cases k;intro H' p;simp only[a_ (p.get G),br];done)|(intro v k;cases k;intro H' p;simp only[Nat.zero_add,bg (p.get aQ),bK];done)|(intro v k;cases k;intro H' p;simp only[Nat.zero_add,b5 (p.get bF),bK];done)|(intro v k;cases k;intro H' p;simp only[b5 (p.get m),bK];done)|(intro v k;cases k;intro H' p;simp only[Nat.zero_add,b5 (p.get q),bK];done)|(intro v k;cases k;intro H' p;simp only[ch (p.get aT),Q];done)|(intro v k;cases k;intro H' p;simp only[Nat.zero_add,dX (p.get bP),O];done)|(intro _ h;cases h;done)|refine aL ?_ ?_
  case h_9 heq=>
   have t:∀j:Int,(i.op==j)=(9==j):=λj=>by rw[heq]
   simp-implicitDefEqProofs(disch:=try exact al)only[aq,aG,t,Int.reduceBEq,a_ q,a_ G,gK];by_cases z:S=bt
   ·have E:decide (S≠bt)=false:=by simp[z]
    simp-implicitDefEqProofs(disch:=try exact al)only[aq,dQ,E];refine cI (cJ ag ?_) (aK.2 ⟨by simp[z],s⟩);refine cY ?_ ?_
    ·simp only[cw,bo.K.heap,List.forall_mem_cons]
     repeat' first|exact ay.refl _|(intro _ h;cases h;done)|refine aL ?_ ?_
    ·simp only[List.forall_mem_cons]
     repeat' first|(intro v k;cases k;done)|(intro v k;cases k;intro H' p;simp only[a_ (p.get bF),br];done)|(intro v k;cases k;intro H' p;simp only[a_ (p.get m),br];done)|(intro v k;cases k;intro H' p;simp only[a_ (p.get q),br];done)|(intro v k;cases k;intro H' p;simp only[a_ (p.get G),br];done)|(intro v k;cases k;intro H' p;simp only[Nat.zero_add,bg (p.get aQ),bK];done)|(intro v k;cases k;intro H' p;simp only[Nat.zero_add,b5 (p.get bF),bK];done)|(intro v k;cases k;intro H' p;simp only[Nat.zero_add,b5 (p.get m),bK];done)|(intro v k;cases k;intro H' p;simp only[Nat.zero_add,b5 (p.get q),bK];done)|(intro v k;cases k;intro H' p;simp only[ch (p.get aT),Q];done)|(intro v k;cases k;intro H' p;simp only[Nat.zero_add,dX (p.get bP),O];done)|(intro _ h;cases h;done)|refine aL ?_ ?_
   ·have E:decide (S≠bt)=true:=by simp[z]
    by_cases T:0<ta.d
    ·simp-implicitDefEqProofs(disch:=try exact al)only[aq,aG,aM,Nat.zero_add,c1,b5 bF,E,T,decide_true];refine cE ia ?_;rintro _ ae ⟨rfl,l⟩;refine⟨l.1,?_⟩;by_cases V:tb=cN
     ·simp-implicitDefEqProofs(disch:=try exact al)only[aq,c1,a_ (l.get m),a_ (l.get bF),di,V,decide_true];refine cE (E5 ta T bq) ?_;rintro _ ah ⟨rfl,R⟩;refine⟨R.1,?_⟩;have M:=l.trans R;simp-implicitDefEqProofs(disch:=try exact al)only[aq,c1,a_ (M.get q),di,E];refine cI (cJ ag ?_) (aK.2 ⟨by simp[z],s.trans M⟩);rw[V]at m;refine cY ?_ ?_
      ·simp only[cw,bo.K.heap,List.forall_mem_cons]
       repeat' first|exact ay.refl _|exact l|exact M|(intro _ h;cases h;done)|refine aL ?_ ?_
      ·simp only[List.forall_mem_cons]
       repeat' first|(intro v k;cases k;done)|(intro v k;cases k;intro H' p;simp only[a_ (p.get bF),br];done)|(intro v k;cases k;intro H' p;simp only[a_ (p.get m),br];done)|(intro v k;cases k;intro H' p;simp only[a_ (p.get q),br];done)|(intro v k;cases k;intro H' p;simp only[a_ (p.get G),br];done)|(intro v k;cases k;intro H' p;simp only[Nat.zero_add,bg (p.get aQ),bK];done)|(intro v k;cases k;intro H' p;simp only[b5 (p.get bF),bK];done)|(intro v k;cases k;intro H' p;simp only[Nat.zero_add,b5 (p.get m),bK];done)|(intro v k;cases k;intro H' p;simp only[Nat.zero_add,b5 (p.get q),bK];done)|(intro v k;cases k;intro H' p;simp only[ch (p.get aT),Q];done)|(intro v k;cases k;intro H' p;simp only[Nat.zero_add,dX (p.get bP),O];done)|(intro _ h;cases h;done)|refine aL ?_ ?_
     ·simp-implicitDefEqProofs(disch:=try exact al)only[aq,c1,dQ,a_ (l.get m),di,E,V,decide_false];refine cI (cJ ag ?_) (aK.2 ⟨by simp[],s.trans l⟩);refine cY ?_ ?_
      ·simp only[cw,bo.K.heap,List.forall_mem_cons]
       repeat' first|exact ay.refl _|exact l|(intro _ h;cases h;done)|refine aL ?_ ?_
      ·simp only[List.forall_mem_cons]
       repeat' first|(intro v k;cases k;done)|(intro v k;cases k;intro H' p;simp only[a_ (p.get bF),br];done)|(intro v k;cases k;intro H' p;simp only[a_ (p.get m),br];done)|(intro v k;cases k;intro H' p;simp only[a_ (p.get q),br];done)|(intro v k;cases k;intro H' p;simp only[a_ (p.get G),br];done)|(intro v k;cases k;intro H' p;simp only[Nat.zero_add,bg (p.get aQ),bK];done)|(intro v k;cases k;intro H' p;simp only[b5 (p.get bF),bK];done)|(intro v k;cases k;intro H' p;simp only[Nat.zero_add,b5 (p.get m),bK];done)|(intro v k;cases k;intro H' p;simp only[Nat.zero_add,b5 (p.get q),bK];done)|(intro v k;cases k;intro H' p;simp only[ch (p.get aT),Q];done)|(intro v k;cases k;intro H' p;simp only[Nat.zero_add,dX (p.get bP),O];done)|(intro _ h;cases h;done)|refine aL ?_ ?_
    ·simp-implicitDefEqProofs(disch:=try exact al)only[aq,aG,aM,Nat.zero_add,c1,dQ,b5 bF,E,T,decide_false];refine cI (cJ ag ?_) (aK.2 ⟨by simp[],s⟩);refine cY ?_ ?_
     ·simp only[cw,bo.K.heap,List.forall_mem_cons]
      repeat' first|exact ay.refl _|(intro _ h;cases h;done)|refine aL ?_ ?_
     ·simp only[List.forall_mem_cons]
      repeat' first|(intro v k;cases k;done)|(intro v k;cases k;intro H' p;simp only[a_ (p.get bF),br];done)|(intro v k;cases k;intro H' p;simp only[a_ (p.get m),br];done)|(intro v k;cases k;intro H' p;simp only[a_ (p.get q),br];done)|(intro v k;cases k;intro H' p;simp only[a_ (p.get G),br];done)|(intro v k;cases k;intro H' p;simp only[Nat.zero_add,bg (p.get aQ),bK];done)|(intro v k;cases k;intro H' p;simp only[b5 (p.get bF),bK];done)|(intro v k;cases k;intro H' p;simp only[Nat.zero_add,b5 (p.get m),bK];done)|(intro v k;cases k;intro H' p;simp only[Nat.zero_add,b5 (p.get q),bK];done)|(intro v k;cases k;intro H' p;simp only[ch (p.get aT),Q];done)|(intro v k;cases k;intro H' p;simp only[Nat.zero_add,dX (p.get bP),O];done)|(intro _ h;cases h;done)|refine aL ?_ ?_
  case h_10 heq=>
   have t:∀j:Int,(i.op==j)=(10==j):=λj=>by rw[heq]
   simp-implicitDefEqProofs(disch:=try exact al)only[aq,aG,t,Int.reduceBEq];refine bk ia ?_;rintro _ ae ⟨rfl,l⟩;refine⟨l.1,?_⟩;by_cases z:ta=cN
   ·simp-implicitDefEqProofs(disch:=try exact al)only[aq,aG,aM,Nat.zero_add,c1,a_ (l.get bF),b5 (l.get m),di,z,decide_true];refine cI (cJ ag ?_) (aK.2 ⟨by simp,s.trans l⟩);rw[z]at bF;refine cY ?_ ?_
    ·simp only[cw,bo.K.heap,List.forall_mem_cons]
     repeat' first|exact ay.refl _|exact l|(intro _ h;cases h;done)|refine aL ?_ ?_
    ·simp only[List.forall_mem_cons]
     repeat' first|(intro v k;cases k;done)|(intro v k;cases k;intro H' p;simp only[a_ (p.get bF),br];done)|(intro v k;cases k;intro H' p;simp only[a_ (p.get m),br];done)|(intro v k;cases k;intro H' p;simp only[a_ (p.get q),br];done)|(intro v k;cases k;intro H' p;simp only[a_ (p.get G),br];done)|(intro v k;cases k;intro H' p;simp only[Nat.zero_add,bg (p.get aQ),bK];done)|(intro v k;cases k;intro H' p;simp only[Nat.zero_add,b5 (p.get bF),bK];done)|(intro v k;cases k;intro H' p;simp only[b5 (p.get m),bK];done)|(intro v k;cases k;intro H' p;simp only[Nat.zero_add,b5 (p.get q),bK];done)|(intro v k;cases k;intro H' p;simp only[ch (p.get aT),Q];done)|(intro v k;cases k;intro H' p;simp only[Nat.zero_add,dX (p.get bP),O];done)|(intro _ h;cases h;done)|refine aL ?_ ?_
   ·simp-implicitDefEqProofs(disch:=try exact al)only[aq,dQ,a_ (l.get bF),di,z,decide_false];refine cI (cJ ag ?_) (aK.2 ⟨by simp[],s.trans l⟩);refine cY ?_ ?_
    ·simp only[cw,bo.K.heap,List.forall_mem_cons]
     repeat' first|exact ay.refl _|exact l|(intro _ h;cases h;done)|refine aL ?_ ?_
    ·simp only[List.forall_mem_cons]
     repeat' first|(intro v k;cases k;done)|(intro v k;cases k;intro H' p;simp only[a_ (p.get bF),br];done)|(intro v k;cases k;intro H' p;simp only[a_ (p.get m),br];done)|(intro v k;cases k;intro H' p;simp only[a_ (p.get q),br];done)|(intro v k;cases k;intro H' p;simp only[a_ (p.get G),br];done)|(intro v k;cases k;intro H' p;simp only[Nat.zero_add,bg (p.get aQ),bK];done)|(intro v k;cases k;intro H' p;simp only[Nat.zero_add,b5 (p.get bF),bK];done)|(intro v k;cases k;intro H' p;simp only[Nat.zero_add,b5 (p.get m),bK];done)|(intro v k;cases k;intro H' p;simp only[Nat.zero_add,b5 (p.get q),bK];done)|(intro v k;cases k;intro H' p;simp only[ch (p.get aT),Q];done)|(intro v k;cases k;intro H' p;simp only[Nat.zero_add,dX (p.get bP),O];done)|(intro _ h;cases h;done)|refine aL ?_ ?_
  case h_11 heq=>
   have t:∀j:Int,(i.op==j)=(11==j):=λj=>by rw[heq]
   simp-implicitDefEqProofs(disch:=try exact al)only[aq,aG,t,Int.reduceBEq,a_ bF,a_ G,gK];by_cases z:ta=bt
   ·have E:decide (ta≠bt)=false:=by simp[z]
    simp-implicitDefEqProofs(disch:=try exact al)only[aq,E];exact aK.2 ⟨by simp[z],s⟩
   ·have E:decide (ta≠bt)=true:=by simp[z]
    cases am:(ta.b==3)with
    |false=>
     have aW:¬ta.b=3:=by simpa using am
     simp-implicitDefEqProofs(disch:=try exact al)only[aq,aG,aM,Nat.zero_add,b5 bF,E,am];exact aK.2 ⟨by simp[aW],s⟩
    |true=>
     have aW:ta.b=3:=by simpa using am
     cases aw:(ta.d==0)with
     |false=>
      have aX:¬ta.d=0:=by simpa using aw
      simp-implicitDefEqProofs(disch:=try exact al)only[aq,aG,aM,Nat.zero_add,b5 bF,E,am,aw];exact aK.2 ⟨by simp[aX],s⟩
     |true=>
      have aX:ta.d=0:=by simpa using aw
      simp-implicitDefEqProofs(disch:=try exact al)only[aq,aG,aM,Nat.zero_add,b5 bF,a_ bF,ch aT,bg aQ,E,am,aw];refine cE (Cb an f i.n ta) ?_;rintro _ ae ⟨rfl,l⟩;refine⟨l.1,?_⟩;simp-implicitDefEqProofs(disch:=try exact al)only[aq];exact aK.2 ⟨by simp[z,aW,aX],s.trans l⟩
  case h_12 heq=>
   have t:∀j:Int,(i.op==j)=(12==j):=λj=>by rw[heq]
   simp-implicitDefEqProofs(disch:=try exact al)only[aq,aG,aM,Nat.zero_add,t,Int.reduceBEq,b5 bF];by_cases T:0<ta.d
   ·simp-implicitDefEqProofs(disch:=try exact al)only[aq,c1,T,decide_true];refine cE ia ?_;rintro _ ae ⟨rfl,l⟩;refine⟨l.1,?_⟩;by_cases U:tb=cN
    ·simp-implicitDefEqProofs(disch:=try exact al)only[aq,aM,Nat.zero_add,c1,a_ (l.get m),a_ (l.get bF),ch (l.get aT),bg (l.get aQ),di,T,U,decide_true];refine cE (Cb (an.aI l) f i.n ta) ?_;rintro _ ah ⟨rfl,R⟩;refine⟨R.1,?_⟩;have M:=l.trans R;simp-implicitDefEqProofs(disch:=try exact al)only[aq,T,decide_true];refine cI (cJ ag ?_) (aK.2 ⟨by simp[],s.trans M⟩);rw[U]at m;refine cY ?_ ?_
     ·simp only[cw,bo.K.heap,List.forall_mem_cons]
      repeat' first|exact ay.refl _|exact l|exact M|(intro _ h;cases h;done)|refine aL ?_ ?_
     ·simp only[List.forall_mem_cons]
      repeat' first|(intro v k;cases k;done)|(intro v k;cases k;intro H' p;simp only[a_ (p.get bF),br];done)|(intro v k;cases k;intro H' p;simp only[a_ (p.get m),br];done)|(intro v k;cases k;intro H' p;simp only[a_ (p.get q),br];done)|(intro v k;cases k;intro H' p;simp only[a_ (p.get G),br];done)|(intro v k;cases k;intro H' p;simp only[bg (p.get aQ),bK];done)|(intro v k;cases k;intro H' p;simp only[b5 (p.get bF),bK];done)|(intro v k;cases k;intro H' p;simp only[Nat.zero_add,b5 (p.get m),bK];done)|(intro v k;cases k;intro H' p;simp only[Nat.zero_add,b5 (p.get q),bK];done)|(intro v k;cases k;intro H' p;simp only[ch (p.get aT),Q];done)|(intro v k;cases k;intro H' p;simp only[Nat.zero_add,dX (p.get bP),O];done)|(intro _ h;cases h;done)|refine aL ?_ ?_
    ·simp-implicitDefEqProofs(disch:=try exact al)only[aq,c1,dQ,a_ (l.get m),di,T,U,decide_true,decide_false];refine cI (cJ ag ?_) (aK.2 ⟨by simp[],s.trans l⟩);refine cY ?_ ?_
     ·simp only[cw,bo.K.heap,List.forall_mem_cons]
      repeat' first|exact ay.refl _|exact l|(intro _ h;cases h;done)|refine aL ?_ ?_
     ·simp only[List.forall_mem_cons]
      repeat' first|(intro v k;cases k;done)|(intro v k;cases k;intro H' p;simp only[a_ (p.get bF),br];done)|(intro v k;cases k;intro H' p;simp only[a_ (p.get m),br];done)|(intro v k;cases k;intro H' p;simp only[a_ (p.get q),br];done)|(intro v k;cases k;intro H' p;simp only[a_ (p.get G),br];done)|(intro v k;cases k;intro H' p;simp only[Nat.zero_add,bg (p.get aQ),bK];done)|(intro v k;cases k;intro H' p;simp only[b5 (p.get bF),bK];done)|(intro v k;cases k;intro H' p;simp only[Nat.zero_add,b5 (p.get m),bK];done)|(intro v k;cases k;intro H' p;simp only[Nat.zero_add,b5 (p.get q),bK];done)|(intro v k;cases k;intro H' p;simp only[ch (p.get aT),Q];done)|(intro v k;cases k;intro H' p;simp only[Nat.zero_add,dX (p.get bP),O];done)|(intro _ h;cases h;done)|refine aL ?_ ?_
   ·simp-implicitDefEqProofs(disch:=try exact al)only[aq,dQ,T,decide_false];refine cI (cJ ag ?_) (aK.2 ⟨by simp[],s⟩);refine cY ?_ ?_
    ·simp only[cw,bo.K.heap,List.forall_mem_cons]
     repeat' first|exact ay.refl _|(intro _ h;cases h;done)|refine aL ?_ ?_
    ·simp only[List.forall_mem_cons]
     repeat' first|(intro v k;cases k;done)|(intro v k;cases k;intro H' p;simp only[a_ (p.get bF),br];done)|(intro v k;cases k;intro H' p;simp only[a_ (p.get m),br];done)|(intro v k;cases k;intro H' p;simp only[a_ (p.get q),br];done)|(intro v k;cases k;intro H' p;simp only[a_ (p.get G),br];done)|(intro v k;cases k;intro H' p;simp only[Nat.zero_add,bg (p.get aQ),bK];done)|(intro v k;cases k;intro H' p;simp only[b5 (p.get bF),bK];done)|(intro v k;cases k;intro H' p;simp only[Nat.zero_add,b5 (p.get m),bK];done)|(intro v k;cases k;intro H' p;simp only[Nat.zero_add,b5 (p.get q),bK];done)|(intro v k;cases k;intro H' p;simp only[ch (p.get aT),Q];done)|(intro v k;cases k;intro H' p;simp only[Nat.zero_add,dX (p.get bP),O];done)|(intro _ h;cases h;done)|refine aL ?_ ?_
  case h_13 heq=>
   have t:∀j:Int,(i.op==j)=(13==j):=λj=>by rw[heq]
   simp-implicitDefEqProofs(disch:=try exact al)only[aq,aG,t,Int.reduceBEq,ch aT,iy (c:=c) (v:=gv) (w:=gw) bP,E0 aQ];refine bk (Lk an ⟨_,rfl,gv,gw,rfl,b8.aI af,cg.aI af⟩ ⟨_,rfl,wi,rfl,i1.aI s⟩ aP be) ?_;rintro _ ae ⟨rfl,l⟩;exact⟨l.1,aK.2 ⟨rfl,s.trans l⟩⟩
  case h_14 heq=>
   have t:∀j:Int,(i.op==j)=(14==j):=λj=>by rw[heq]
   simp-implicitDefEqProofs(disch:=try exact al)only[aq,aG,t,Int.reduceBEq,iI];refine bk ia ?_;rintro _ ae ⟨rfl,l⟩;refine⟨l.1,?_⟩;simp-implicitDefEqProofs(disch:=try exact al)only[aq,Bool.and_self,a_ (l.get bF),a_ bF,br,di];exact aK.2 ⟨rfl,s.trans l⟩
  case h_15 heq=>
   have t:∀j:Int,(i.op==j)=(15==j):=λj=>by rw[heq]
   simp-implicitDefEqProofs(disch:=try exact al)only[aq,aG,t,Int.reduceBEq,iI];refine bk ia ?_;rintro _ ae ⟨rfl,l⟩;refine⟨l.1,?_⟩;simp-implicitDefEqProofs(disch:=try exact al)only[aq,Bool.and_self,a_ (l.get bF),a_ bF,br,di];exact aK.2 ⟨rfl,s.trans l⟩
  case h_16 heq=>
   have t:∀j:Int,(i.op==j)=(16==j):=λj=>by rw[heq]
   simp-implicitDefEqProofs(disch:=try exact al)only[aq,aG,aM,Nat.zero_add,t,Int.reduceBEq,iI,bg aQ];by_cases dq:0<=i.n
   ·simp-implicitDefEqProofs(disch:=try exact al)only[aq,aG,aM,Nat.zero_add,bg aQ,dX bP,(cg.aI af).len eb,dq,decide_true];exact aK.2 ⟨by simp[within,dq],s⟩
   ·simp-implicitDefEqProofs(disch:=try exact al)only[aq,dq,decide_false];exact aK.2 ⟨by simp[within,dq],s⟩
  case h_17 heq=>
   have t:∀j:Int,(i.op==j)=(17==j):=λj=>by rw[heq]
   simp-implicitDefEqProofs(disch:=try exact al)only[aq,aG,t,Int.reduceBEq,iI];refine bk lE ?_;rintro _ ae ⟨rfl,l⟩;refine⟨l.1,?_⟩;by_cases z:ta=dI
   ·by_cases dq:0<=i.n
    ·by_cases cP:i.n<(c.ins.length:Int)
     ·by_cases av:0<=i.c
      ·simp-implicitDefEqProofs(disch:=try exact al)only[aq,aG,aM,Nat.zero_add,c1,a_ (l.get bF),bg (l.get aQ),dX (l.get bP),(cg.aI af).len eb,di,z,decide_true,dq,cP,av];refine cI (cJ ag ?_) (aK.2 ⟨by simp[within,dq,cP,av],s.trans l⟩);rw[z]at bF;refine cY ?_ ?_
       ·simp only[cw,bo.K.heap,List.forall_mem_cons]
        repeat' first|exact ay.refl _|exact l|(intro _ h;cases h;done)|refine aL ?_ ?_
       ·simp only[List.forall_mem_cons]
        repeat' first|(intro v k;cases k;done)|(intro v k;cases k;intro H' p;simp only[a_ (p.get bF),br];done)|(intro v k;cases k;intro H' p;simp only[a_ (p.get m),br];done)|(intro v k;cases k;intro H' p;simp only[a_ (p.get q),br];done)|(intro v k;cases k;intro H' p;simp only[a_ (p.get G),br];done)|(intro v k;cases k;intro H' p;simp only[bg (p.get aQ),bK];done)|(intro v k;cases k;intro H' p;simp only[Nat.zero_add,b5 (p.get bF),bK];done)|(intro v k;cases k;intro H' p;simp only[Nat.zero_add,b5 (p.get m),bK];done)|(intro v k;cases k;intro H' p;simp only[Nat.zero_add,b5 (p.get q),bK];done)|(intro v k;cases k;intro H' p;simp only[ch (p.get aT),Q];done)|(intro v k;cases k;intro H' p;simp only[dX (p.get bP),O];done)|(intro _ h;cases h;done)|refine aL ?_ ?_
      ·simp-implicitDefEqProofs(disch:=try exact al)only[aq,aG,aM,Nat.zero_add,c1,dQ,a_ (l.get bF),bg (l.get aQ),dX (l.get bP),(cg.aI af).len eb,di,z,decide_true,dq,cP,av,decide_false];refine cI (cJ ag ?_) (aK.2 ⟨by simp[within,dq,cP,av],s.trans l⟩);rw[z]at bF;refine cY ?_ ?_
       ·simp only[cw,bo.K.heap,List.forall_mem_cons]
        repeat' first|exact ay.refl _|exact l|(intro _ h;cases h;done)|refine aL ?_ ?_
       ·simp only[List.forall_mem_cons]
        repeat' first|(intro v k;cases k;done)|(intro v k;cases k;intro H' p;simp only[a_ (p.get bF),br];done)|(intro v k;cases k;intro H' p;simp only[a_ (p.get m),br];done)|(intro v k;cases k;intro H' p;simp only[a_ (p.get q),br];done)|(intro v k;cases k;intro H' p;simp only[a_ (p.get G),br];done)|(intro v k;cases k;intro H' p;simp only[bg (p.get aQ),bK];done)|(intro v k;cases k;intro H' p;simp only[Nat.zero_add,b5 (p.get bF),bK];done)|(intro v k;cases k;intro H' p;simp only[Nat.zero_add,b5 (p.get m),bK];done)|(intro v k;cases k;intro H' p;simp only[Nat.zero_add,b5 (p.get q),bK];done)|(intro v k;cases k;intro H' p;simp only[ch (p.get aT),Q];done)|(intro v k;cases k;intro H' p;simp only[dX (p.get bP),O];done)|(intro _ h;cases h;done)|refine aL ?_ ?_
     ·simp-implicitDefEqProofs(disch:=try exact al)only[aq,aG,aM,Nat.zero_add,c1,dQ,a_ (l.get bF),bg (l.get aQ),dX (l.get bP),(cg.aI af).len eb,di,z,decide_true,dq,cP,decide_false];refine cI (cJ ag ?_) (aK.2 ⟨by simp[within,dq,cP],s.trans l⟩);rw[z]at bF;refine cY ?_ ?_
      ·simp only[cw,bo.K.heap,List.forall_mem_cons]
       repeat' first|exact ay.refl _|exact l|(intro _ h;cases h;done)|refine aL ?_ ?_
      ·simp only[List.forall_mem_cons]
       repeat' first|(intro v k;cases k;done)|(intro v k;cases k;intro H' p;simp only[a_ (p.get bF),br];done)|(intro v k;cases k;intro H' p;simp only[a_ (p.get m),br];done)|(intro v k;cases k;intro H' p;simp only[a_ (p.get q),br];done)|(intro v k;cases k;intro H' p;simp only[a_ (p.get G),br];done)|(intro v k;cases k;intro H' p;simp only[bg (p.get aQ),bK];done)|(intro v k;cases k;intro H' p;simp only[Nat.zero_add,b5 (p.get bF),bK];done)|(intro v k;cases k;intro H' p;simp only[Nat.zero_add,b5 (p.get m),bK];done)|(intro v k;cases k;intro H' p;simp only[Nat.zero_add,b5 (p.get q),bK];done)|(intro v k;cases k;intro H' p;simp only[ch (p.get aT),Q];done)|(intro v k;cases k;intro H' p;simp only[dX (p.get bP),O];done)|(intro _ h;cases h;done)|refine aL ?_ ?_
    ·simp-implicitDefEqProofs(disch:=try exact al)only[aq,aG,aM,Nat.zero_add,c1,dQ,a_ (l.get bF),bg (l.get aQ),di,z,decide_true,dq,decide_false];refine cI (cJ ag ?_) (aK.2 ⟨by simp[within,dq],s.trans l⟩);rw[z]at bF;refine cY ?_ ?_
     ·simp only[cw,bo.K.heap,List.forall_mem_cons]
      repeat' first|exact ay.refl _|exact l|(intro _ h;cases h;done)|refine aL ?_ ?_
     ·simp only[List.forall_mem_cons]
      repeat' first|(intro v k;cases k;done)|(intro v k;cases k;intro H' p;simp only[a_ (p.get bF),br];done)|(intro v k;cases k;intro H' p;simp only[a_ (p.get m),br];done)|(intro v k;cases k;intro H' p;simp only[a_ (p.get q),br];done)|(intro v k;cases k;intro H' p;simp only[a_ (p.get G),br];done)|(intro v k;cases k;intro H' p;simp only[bg (p.get aQ),bK];done)|(intro v k;cases k;intro H' p;simp only[Nat.zero_add,b5 (p.get bF),bK];done)|(intro v k;cases k;intro H' p;simp only[Nat.zero_add,b5 (p.get m),bK];done)|(intro v k;cases k;intro H' p;simp only[Nat.zero_add,b5 (p.get q),bK];done)|(intro v k;cases k;intro H' p;simp only[ch (p.get aT),Q];done)|(intro v k;cases k;intro H' p;simp only[Nat.zero_add,dX (p.get bP),O];done)|(intro _ h;cases h;done)|refine aL ?_ ?_
   ·simp-implicitDefEqProofs(disch:=try exact al)only[aq,dQ,a_ (l.get bF),di,z,decide_false];refine cI (cJ ag ?_) (aK.2 ⟨by simp[],s.trans l⟩);refine cY ?_ ?_
    ·simp only[cw,bo.K.heap,List.forall_mem_cons]
     repeat' first|exact ay.refl _|exact l|(intro _ h;cases h;done)|refine aL ?_ ?_
    ·simp only[List.forall_mem_cons]
     repeat' first|(intro v k;cases k;done)|(intro v k;cases k;intro H' p;simp only[a_ (p.get bF),br];done)|(intro v k;cases k;intro H' p;simp only[a_ (p.get m),br];done)|(intro v k;cases k;intro H' p;simp only[a_ (p.get q),br];done)|(intro v k;cases k;intro H' p;simp only[a_ (p.get G),br];done)|(intro v k;cases k;intro H' p;simp only[Nat.zero_add,bg (p.get aQ),bK];done)|(intro v k;cases k;intro H' p;simp only[Nat.zero_add,b5 (p.get bF),bK];done)|(intro v k;cases k;intro H' p;simp only[Nat.zero_add,b5 (p.get m),bK];done)|(intro v k;cases k;intro H' p;simp only[Nat.zero_add,b5 (p.get q),bK];done)|(intro v k;cases k;intro H' p;simp only[ch (p.get aT),Q];done)|(intro v k;cases k;intro H' p;simp only[Nat.zero_add,dX (p.get bP),O];done)|(intro _ h;cases h;done)|refine aL ?_ ?_
  case h_18 heq=>
   have t:∀j:Int,(i.op==j)=(18==j):=λj=>by rw[heq]
   simp-implicitDefEqProofs(disch:=try exact al)only[aq,aG,aM,Nat.zero_add,t,Int.reduceBEq,iI,dX bP];cases cu:c.has with
   |false=>
    simp-implicitDefEqProofs(disch:=try exact al)only[aq,aG,aM,Nat.zero_add,Bool.not_false,bg aQ];exact aK.2 ⟨by simp,s⟩
   |true=>
    simp-implicitDefEqProofs(disch:=try exact al)only[aq,Bool.not_true,a_ bF,a_ G,gK];by_cases z:ta=bt
    ·have E:decide (ta≠bt)=false:=by simp[z]
     simp-implicitDefEqProofs(disch:=try exact al)only[aq,E];exact aK.2 ⟨by simp[z],s⟩
    ·have E:decide (ta≠bt)=true:=by simp[z]
     simp-implicitDefEqProofs(disch:=try exact al)only[aq,aM,Nat.zero_add,a_ bF,dX bP,di,E];exact aK.2 ⟨by simp[z],s⟩
  case h_19 heq=>
   have t:∀j:Int,(i.op==j)=(19==j):=λj=>by rw[heq]
   simp-implicitDefEqProofs(disch:=try exact al)only[aq,aG,t,Int.reduceBEq,iI,nj,a_ bF,a_ G,gK];by_cases z:ta=bt
   ·have E:decide (ta≠bt)=false:=by simp[z]
    simp-implicitDefEqProofs(disch:=try exact al)only[aq,E];exact aK.2 ⟨by simp,s⟩
   ·have E:decide (ta≠bt)=true:=by simp[z]
    by_cases dq:0<=i.n
    ·by_cases cP:i.n<(x.globals.length:Int)
     ·have ao:i.n.toNat<x.globals.length:=ai;have a3:dE x.globals i.n=D x.globals[i.n.toNat]:=by rw[hj dq];simp[ao]
      obtain⟨pp,bm,a8,a9,rfl⟩:=(ah.aI s).agg (K:=ei) dh r_ (j:=i.n) (a:=x.globals[i.n.toNat]) dq (by simp[ao]);have ba:aj P Y 46 pp=D (cX x.globals[i.n.toNat]):=a9;simp-implicitDefEqProofs(disch:=try exact al)only[aq,aG,aM,Nat.zero_add,a_ bF,bg aQ,wI aT,(ah.aI s).len dh,di,E,dq,cP,a8,ba,decide_true];exact aK.2 ⟨by rw[a3];simp[eq_comm],s⟩
     ·simp-implicitDefEqProofs(disch:=try exact al)only[aq,aG,aM,Nat.zero_add,bg aQ,wI aT,(ah.aI s).len dh,E,dq,cP,decide_true,decide_false];exact aK.2 ⟨by rw[eL.2 (.inr ai)];simp,s⟩
    ·simp-implicitDefEqProofs(disch:=try exact al)only[aq,aG,aM,Nat.zero_add,bg aQ,E,dq,decide_false];exact aK.2 ⟨by rw[eL.2 (.inl ai)];simp,s⟩
  case h_20 heq=>
   have t:∀j:Int,(i.op==j)=(20==j):=λj=>by rw[heq]
   simp-implicitDefEqProofs(disch:=try exact al)only[aq,aG,t,Int.reduceBEq,iI,nj,a_ bF,a_ G,gK];by_cases z:ta=bt
   ·have E:decide (ta≠bt)=false:=by simp[z]
    simp-implicitDefEqProofs(disch:=try exact al)only[aq,E];exact aK.2 ⟨by simp,s⟩
   ·have E:decide (ta≠bt)=true:=by simp[z]
    by_cases dq:0<=i.n
    ·by_cases cP:i.n<(x.globals.length:Int)
     ·have ao:i.n.toNat<x.globals.length:=ai;have a3:dE x.globals i.n=D x.globals[i.n.toNat]:=by rw[hj dq];simp[ao]
      obtain⟨pp,bm,a8,a9,rfl⟩:=(ah.aI s).agg (K:=ei) dh r_ (j:=i.n) (a:=x.globals[i.n.toNat]) dq (by simp[ao]);have ba:aj P Y 46 pp=D (cX x.globals[i.n.toNat]):=a9;simp-implicitDefEqProofs(disch:=try exact al)only[aq,aG,aM,Nat.zero_add,a_ bF,bg aQ,wI aT,(ah.aI s).len dh,di,E,dq,cP,a8,ba,decide_true];exact aK.2 ⟨by rw[a3];simp[eq_comm],s⟩
     ·simp-implicitDefEqProofs(disch:=try exact al)only[aq,aG,aM,Nat.zero_add,bg aQ,wI aT,(ah.aI s).len dh,E,dq,cP,decide_true,decide_false];exact aK.2 ⟨by rw[eL.2 (.inr ai)];simp,s⟩
    ·simp-implicitDefEqProofs(disch:=try exact al)only[aq,aG,aM,Nat.zero_add,bg aQ,E,dq,decide_false];exact aK.2 ⟨by rw[eL.2 (.inl ai)];simp,s⟩
  case h_21 bX ci z3 z4 z5 ck cl cm z9 bY b0 b2 b9 b_ ca cb cd ce cf cj=>
   have bx:(i.op==1)=false:=beq_eq_false_iff_ne.2 bX;have bL:(i.op==2)=false:=beq_eq_false_iff_ne.2 ci;have bO:(i.op==3)=false:=beq_eq_false_iff_ne.2 z3;have bR:(i.op==4)=false:=beq_eq_false_iff_ne.2 z4;have bS:(i.op==5)=false:=beq_eq_false_iff_ne.2 z5;have bT:(i.op==6)=false:=beq_eq_false_iff_ne.2 ck;have bU:(i.op==7)=false:=beq_eq_false_iff_ne.2 cl;have bV:(i.op==8)=false:=beq_eq_false_iff_ne.2 cm;have bW:(i.op==9)=false:=beq_eq_false_iff_ne.2 z9;have bz:(i.op==10)=false:=beq_eq_false_iff_ne.2 bY;have bA:(i.op==11)=false:=beq_eq_false_iff_ne.2 b0;have bB:(i.op==12)=false:=beq_eq_false_iff_ne.2 b2
   have bC:(i.op==13)=false:=beq_eq_false_iff_ne.2 b9;have bD:(i.op==14)=false:=beq_eq_false_iff_ne.2 b_;have bE:(i.op==15)=false:=beq_eq_false_iff_ne.2 ca;have bG:(i.op==16)=false:=beq_eq_false_iff_ne.2 cb;have bH:(i.op==17)=false:=beq_eq_false_iff_ne.2 cd;have bI:(i.op==18)=false:=beq_eq_false_iff_ne.2 ce;have bJ:(i.op==19)=false:=beq_eq_false_iff_ne.2 cf;have bN:(i.op==20)=false:=beq_eq_false_iff_ne.2 cj;simp-implicitDefEqProofs(disch:=try exact al)only[aq,aG,iI,nj,lB,bx,bL,bO,bR,bS,bT,bU,bV,bW,bz,bA,bB,bC,bD,bE,bG,bH,bI,bJ,bN];exact aK.2 ⟨rfl,s⟩
end
end
section
open Go.bp
section
variable {H:ad}{ok:Nat->Prop}
def k7{H:ad}{a b c d:aa}{m:Int}{zX:Nat}(h:H.get zX=D (.row Z 5 [[a,b,c,d,J X m]])):
  aj P H 22 (.ptr zX 0 0)=D a/\aj P H 23 (.ptr zX 0 1)=D b/\aj P H 24 (.ptr zX 0 2)=D c/\aj P H 25 (.ptr zX 0 3)=D d/\aj P H 3 (.ptr zX 0 4)=D (J X m):=by
 simp-implicitDefEqProofs(disch:=try exact al)only[bM,h]
def To{x:bQ}{a b c d:aa}{zX:Nat}(aT:H.get zX=D (.row Z 5 [[a,b,c,d,J X x.main]]))(ak:aZ fr H ok x.o c){N:Nat}:
  W (iH (aC P ax) N (.ptr zX 0 0) H) λr H'=>r= y (gS x)/\H'=H:=by
 by_cases f:0<=x.main
 ·by_cases h:x.main<(x.o.length:Int)
  ·have l:x.main.toNat<x.o.length:=ai;have p:dE x.o x.main=D x.o[x.main.toNat]:=by rw[hj f];simp[l]
   obtain⟨L,n,ro,els,q,m,_,g,e,gv,gw,rfl,b8,cg⟩:=ak.at_ (K:=fr) c0 (j:=x.main) (a:=x.o[x.main.toNat]) f (by simp[l]);have k:H.get L=D (.row ro 7 els):=g;rw[gS,p];generalize x.o[x.main.toNat]=zC at*;cases i:(zC.params==0)with
   |false=>
    simp-implicitDefEqProofs(disch:=try exact al)only[iH,Nat.reduceAdd,bM,aT,ak.len c0,f,h,m,k,e,i,decide_true];exact aK.2 ⟨by simp,rfl⟩
   |true=>
    simp-implicitDefEqProofs(disch:=try exact al)only[iH,Nat.reduceAdd,bM,aT,ak.len c0,f,h,m,k,e,i,decide_true];exact aK.2 ⟨by simp,rfl⟩
  ·simp-implicitDefEqProofs(disch:=try exact al)only[iH,Nat.reduceAdd,bM,aT,ak.len c0,f,h,decide_true,decide_false];exact aK.2 ⟨by rw[gS,eL.2 (.inr ai)],rfl⟩
 ·simp-implicitDefEqProofs(disch:=try exact al)only[iH,bM,aT,f,decide_false];exact aK.2 ⟨by rw[gS,eL.2 (.inl ai)],rfl⟩
def GD{x:bQ}{v:aa}{f:Nat}{c:b3}(aN:x.o[f]? =D c)(s:∀g∈x.o,g.vars.length<=1000000000)(hm:c.vars.all (dB x.b1.length)=C)(hlen:c.ins.length<=1000000000){a b cc d:aa}{zX:Nat}{L4:aa->aa->ad->O}{Q:aa->ad->Prop}{N:Nat}:
  ∀(j k m:Nat) (H:ad),k+j=c.ins.length->j<m->H.get zX=D (.row Z 5 [[a,b,cc,d,J X x.main]])->c2 H ok x (.agg [a,b,cc,d,J X x.main])->aZ e7 H ok c.ins v->
  ((c.ins.drop k).all (dw x f c)=Z->∀H',ay H H'->Q (y Z) H')->((c.ins.drop k).all (dw x f c)=C->∀H',ay H H'->W (j3 (aC P ax) N L4 (.ptr zX 0 0) (J X f) v H') Q)->
  W (m9 (aC P ax) N L4 m (.ptr zX 0 0) (J X f) v (J X k) H) Q
 |_,_,0,_,_,u,_,_,_,_,_=>ai
 |0,k,m+1,H,t,_,aT,aD,h,l,dp=>by
  have q:¬(k:Int)<(c.ins.length:Int):=ai;have:=dp (by rw[List.drop_of_length_le ai];rfl) H (ay.refl _);simp-implicitDefEqProofs(disch:=try exact al)only[uK,m9,aq,aG,bf,h.len eb,q,decide_false];exact this
 |j+1,k,m+1,H,t,u,aT,aD,h,l,dp=>by
  have q:(k:Int)<(c.ins.length:Int):=ai;have i:k<c.ins.length:=ai;obtain⟨p,B,w,z,A⟩:=h.agg (K:=e7) eb IN (j:=(k:Int)) (a:=c.ins[k]) ai (by simp[i]);simp-implicitDefEqProofs(disch:=try exact al)only[uK,m9,aq,aG,bf,h.len eb,q,decide_true,w,z,ch aT];refine bk (aaa aD ⟨_,rfl,A⟩ f aN s hm) ?_;rintro _ H1 ⟨rfl,e⟩;refine⟨e.1,?_⟩;cases r:dw x f c c.ins[k]with
  |false=>
   simp-implicitDefEqProofs(disch:=try exact al)only[aq,Bool.not_false];exact aK.2 (l (by rw[List.drop_eq_getElem_cons i,List.all_cons,r];rfl) H1 e)
  |true=>
   simp-implicitDefEqProofs(disch:=try exact al)only[aq,aG,Bool.not_true,c3 (show k<=1000000000 by omega)];refine GD aN s hm hlen j (k+1) m H1 ai ai (e.get aT) (aD.aI e) (h.aI e) (λn H' p=>l (by rw[List.drop_eq_getElem_cons i,List.all_cons,r,n];rfl) H' (e.trans p)) λn H' p=>dp ?_ H' (e.trans p)
   rw[List.drop_eq_getElem_cons i,List.all_cons,r,n];rfl
def Po{l:List In}(h:1<=l.length):l[(l.length-1)]? =l.getLast?:=by rw[List.getLast?_eq_getElem?]
def Tn{c:b3}{v:aa}{zX f:Nat}{L4:aa->aa->ad->O}{Q:aa->ad->Prop}{N:Nat}(b:aZ e7 H ok c.ins v)(ae:1<=c.ins.length)(hlen:c.ins.length<=1000000000)(s:hK (h5 c.ins)=Z->Q (y Z) H)(aN:f<=1000000)(dp:hK (h5 c.ins)=C->W (L4 (.ptr zX 0 0) (J X ((f+1:Nat):Int)) H) Q):
  W (j3 (aC P ax) N L4 (.ptr zX 0 0) (J X f) v H) Q:=by
 have l:IntKind.i64.wrap ((c.ins.length:Int)-1)=((c.ins.length-1:Nat):Int):=by rw[wrap_i64 ai ai];omega
 have i:c.ins.length-1<c.ins.length:=ai;have t:h5 c.ins=(c.ins[c.ins.length-1]'i).op:=by
  unfold h5;rw[<-Po ae,List.getElem?_eq_getElem i]
 obtain⟨L,n,ro,els,u,k,_,g,e,w,rfl,_⟩:=b.at_ (K:=e7) eb (j:=((c.ins.length-1:Nat):Int)) (a:=c.ins[c.ins.length-1]'i) ai (by simp);have h:H.get L=D (.row ro 6 els):=g;rw[t]at s dp;generalize (c.ins[c.ins.length-1]'i)=z at*;have t1:∀j:Int,(z.op != j)= !(z.op==j):=λ_=>rfl
 cases m:(z.op==16)with
 |true=>
  have d:(z.op != 16)=false:=by rw[t1,m];rfl
  simp-implicitDefEqProofs(disch:=try exact al)only[j3,kF,bM,b.len eb,l,k,h,e,d,c3 (show f<=1000000000 by omega)];exact dp (by simp[hK,m])
 |false=>
  have d:(z.op != 16)=true:=by rw[t1,m];rfl
  cases o:(z.op==17)with
  |true=>
   have p:(z.op != 17)=false:=by rw[t1,o];rfl
   simp-implicitDefEqProofs(disch:=try exact al)only[j3,kF,bM,b.len eb,l,k,h,e,d,p,c3 (show f<=1000000000 by omega)];exact dp (by simp[hK,o])
  |false=>
   have p:(z.op != 17)=true:=by rw[t1,o];rfl
   cases q:(z.op==18)with
   |true=>
    have r:(z.op != 18)=false:=by rw[t1,q];rfl
    simp-implicitDefEqProofs(disch:=try exact al)only[j3,kF,bM,b.len eb,l,k,h,e,d,p,r,c3 (show f<=1000000000 by omega)];exact dp (by simp[hK,q])
   |false=>
    have r:(z.op != 18)=true:=by rw[t1,q];rfl
    simp-implicitDefEqProofs(disch:=try exact al)only[j3,bM,b.len eb,l,k,h,e,d,p,r];exact aK.2 (s (by simp[hK,m,o,q]))
def jm(x:bQ):List b3->Nat->Bool
 |[],_=>C
 |c::cs,f=>(c.ins.all (dw x f c)&&hK (h5 c.ins))&&jm x cs (f+1)
def GC{x:bQ}{a b cc d:aa}{zX:Nat}(w:∀g∈x.o,g.vars.length<=1000000000)(hm:∀c∈x.o,c.vars.all (dB x.b1.length)=C)(hlen:∀c∈x.o,1<=c.ins.length/\c.ins.length<=1000000000)(E:x.o.length<=1000000){N:Nat}(v:∀c∈x.o,c.ins.length<N):
  ∀(j k m:Nat) (H:ad),k+j=x.o.length->j<m->H.get zX=D (.row Z 5 [[a,b,cc,d,J X x.main]])->c2 H ok x (.agg [a,b,cc,d,J X x.main])->
  W (m8 (aC P ax) N m (.ptr zX 0 0) (J X k) H) λr H'=>r= y (jm x (x.o.drop k) k&&gS x)/\ay H H'
 |_,_,0,_,_,M,_,_=>ai
 |0,k,m+1,H,G,_,aT,aD=>by
  have u:=aD;obtain⟨_,q,ck,b',z,A,s,ae,ah,ak,au⟩:=aD;cases q;cases s;have t:¬(k:Int)<(x.o.length:Int):=ai;rw[List.drop_of_length_le ai,jm,Bool.true_and];simp-implicitDefEqProofs(disch:=try exact al)only[m8,uJ,aq,aG,aM,Nat.zero_add,bf,k7 aT,ak.len c0,t,decide_false];refine(To aT ak).mono ?_;rintro r H' ⟨rfl,rfl⟩;exact⟨rfl,ay.refl _⟩
 |j+1,k,m+1,H,G,M,aT,aD=>by
  have u:=aD;obtain⟨_,q,ck,b',z,A,s,ae,ah,ak,au⟩:=aD;cases q;cases s;have t:(k:Int)<(x.o.length:Int):=ai;have l:k<x.o.length:=ai;have i:=List.getElem_mem l;obtain⟨L,n,ro,els,S,Q,_,g,e,gv,gw,rfl,b8,cg⟩:=ak.at_ (K:=fr) c0 (j:=(k:Int)) (a:=x.o[k]) ai (by simp[l]);have li:aj P H 47 (.ptr L n 6)=D gw:=by
   have B:H.get L=D (.row ro 7 els):=g;simp-implicitDefEqProofs(disch:=try exact al)only[bM,B,e]
  simp-implicitDefEqProofs(disch:=try exact al)only[m8,uJ,aq,aG,aM,Nat.zero_add,bf,k7 aT,ak.len c0,t,decide_true,Q,li];rw[List.drop_eq_getElem_cons l,jm];refine GD (c:=x.o[k]) (f:=k) (by simp[l]) w (hm _ i) (hlen _ i).2 x.o[k].ins.length 0 N H ai (v _ i) aT u cg (λh H' p=> ?_) λh H' p=> ?_
  ·rw[List.drop_zero]at h;exact⟨by rw[h];simp,p⟩
  ·refine Tn (cg.aI p) (hlen _ i).1 (hlen _ i).2 (λaz=> ?_) ai λaz=> ?_
   ·exact⟨by rw[az];simp,p⟩
   ·refine(GC w hm hlen E v j (k+1) m H' ai ai (p.get aT) (u.aI p)).mono ?_;rintro r R ⟨rfl,O⟩;rw[List.drop_zero]at h;exact⟨by rw[h,az];simp,p.trans O⟩
end
end
section
open Go.bp
section
variable {H:ad}{ok:Nat->Prop}
def head(x:bQ)(c:b3):Bool:=decide (0<=c.params/\c.params<=6/\c.params<=c.vars.length/\c.vars.length<=4000/\1<=c.ins.length)&&(c.vars.all (dB x.b1.length)&&(bif c.has then dB x.b1.length c.res else decide (c.res=bt)))
def jL(x:bQ):List b3->Nat->Bool
 |[],_=>C
 |c::cs,s=>(decide (s+c.ins.length<=2500)&&head x c)&&jL x cs (s+c.ins.length)
def Tm{x:bQ}{a b cc d:aa}{zX k s:Nat}{c:b3}{ab:aa->aa->aa->ad->O}{Q:aa->ad->Prop}{N:Nat}(aj:x.o[k]? =D c)(aP:k<=1000000)(aR:s<=2500)(aw:c.vars.length<=1000000000)(az:c.ins.length<=1000000000)
  (aT:H.get zX=D (.row Z 5 [[a,b,cc,d,J X x.main]])) (aD:c2 H ok x (.agg [a,b,cc,d,J X x.main]))
  (R:(decide (s+c.ins.length<=2500)&&head x c)=Z->∀H',ay H H'->Q (y Z) H') (dp:(decide (s+c.ins.length<=2500)&&head x c)=C->∀H',ay H H'->W (ab (.ptr zX 0 0) (J X ((s+c.ins.length:Nat):Int)) (J X ((k+1:Nat):Int)) H') Q):
  W (kE (aC P ax) N ab (.ptr zX 0 0) (J X s) (J X k) H) Q:=by
 have U:=aD;obtain⟨_,aq,ck,b',aG,aL,m,ae,ah,ak,au⟩:=aD;cases aq;cases m;have aQ:=(List.getElem?_eq_some_iff.1 aj).1;have u:(k:Int)<(x.o.length:Int):=ai;obtain⟨L,n,ro,els,aH,A,_,g,e,gv,gw,rfl,b8,cg⟩:=ak.at_ (K:=fr) c0 (j:=(k:Int)) (a:=c) ai (by simpa using aj);have aN:=ad.b6 g;have aO:=ad.b6 aT;have t:H.get L=D (.row ro 7 els):=g;have v:=b8.one;have w:=cg.one;have aV:zX≠H.next:=ai
 have aU:L≠H.next:=ai
 have f:=ay.push H (.row Z 7 [[J X c.params,gv,y c.has,J X c.res.b,J X c.res.r,J X c.res.d,gw]]);have B:IntKind.i64.wrap ((s:Int)+(c.ins.length:Int))=((s+c.ins.length:Nat):Int):=by rw[wrap_i64 ai ai];omega
 have bad:∀{H'},ay H H'->(decide (s+c.ins.length<=2500)&&head x c)=Z->W (D (aa.bool Z,H')) Q:=λp h=>aK.2 (R h _ p)
 by_cases i:(4000:Int)<(c.vars.length:Int)
 ·simp-implicitDefEqProofs(disch:=try exact al)only[kE,Nat.reduceAdd,bM,aT,ak.len c0,u,A,t,e,v,w,b8.len dh,cg.len eb,B,i,decide_true];exact bad f (by simp[head];omega)
 by_cases E:c.params<0
 ·simp-implicitDefEqProofs(disch:=try exact al)only[kE,Nat.reduceAdd,bM,aT,ak.len c0,u,A,t,e,v,w,b8.len dh,cg.len eb,B,i,E,decide_true,decide_false];exact bad f (by simp[head];omega)
 by_cases T:(6:Int)<c.params
 ·simp-implicitDefEqProofs(disch:=try exact al)only[kE,Nat.reduceAdd,bM,aT,ak.len c0,u,A,t,e,v,w,b8.len dh,cg.len eb,B,i,E,T,decide_true,decide_false];exact bad f (by simp[head];omega)
 by_cases af:(c.vars.length:Int)<c.params
 ·simp-implicitDefEqProofs(disch:=try exact al)only[kE,Nat.reduceAdd,bM,aT,ak.len c0,u,A,t,e,v,w,b8.len dh,cg.len eb,B,i,E,T,af,decide_true,decide_false];exact bad f (by simp[head];omega)
 simp-implicitDefEqProofs(disch:=try exact al)only[kE,Nat.reduceAdd,bM,aT,ak.len c0,u,A,t,e,v,w,b8.len dh,cg.len eb,B,i,E,T,af,decide_true,decide_false];refine cE (I3 (U.aI f) (b8.aI f) aw) ?_;rintro _ H1 ⟨rfl,V⟩;refine⟨V.1,?_⟩;have q:=f.trans V;have bP:H1.get H.next=D (.row Z 7 [[J X c.params,gv,y c.has,J X c.res.b,J X c.res.r,J X c.res.d,gw]]):=V.get (ad.bq _ _)
 have ag:=q.get aT;have aF:=U.aI q;clear aT U;cases an:c.vars.all (dB x.b1.length)with
 |false=>
  simp-implicitDefEqProofs(disch:=try exact al)only[bM,Bool.not_false];exact bad q (by simp only[head,an];simp)
 |true=>
  by_cases l:(c.ins.length:Int)<1
  ·simp-implicitDefEqProofs(disch:=try exact al)only[bM,Bool.not_true,bP,cg.len eb,l,decide_true];exact bad q (by simp[head];omega)
  by_cases G:(2500:Int)<((s+c.ins.length:Nat):Int)
  ·simp-implicitDefEqProofs(disch:=try exact al)only[bM,Bool.not_true,bP,cg.len eb,l,G,decide_true,decide_false];exact bad q (by simp;omega)
  have aA:decide (s+c.ins.length<=2500)=true:=by simp;omega
  have aE:decide (0<=c.params/\c.params<=6/\c.params<=c.vars.length/\c.vars.length<=4000/\1<=c.ins.length)=true:=by simp;omega
  rw[aA,Bool.true_and,head,aE,Bool.true_and,an,Bool.true_and]at R dp bad;have aY:=c3 (show k<=1000000000 by omega);have aM:=ch ag;cases S:c.has with
  |false=>
   rw[S,jF]at R dp bad;rw[S]at bP;have aS:∀z,ar P .neq 46 z (.agg [J X c.res.b,J X c.res.r,J X c.res.d]) (.agg [J X 0,J X 0,J X 0])=D (y (decide (c.res≠bt))):=λz=>gK _ bt z
   by_cases M:c.res=bt
   ·have m:decide (c.res≠bt)=false:=by simp[M]
    simp-implicitDefEqProofs(disch:=try exact al)only[Nat.reduceAdd,Nat.reduceLeDiff,bM,Bool.not_true,Bool.not_false,bP,cg.len eb,l,G,aS,m,aY,decide_false];exact dp (by simp[M]) H1 q
   ·have m:decide (c.res≠bt)=true:=by simp[M]
    simp-implicitDefEqProofs(disch:=try exact al)only[Nat.reduceAdd,Nat.reduceLeDiff,bM,Bool.not_true,Bool.not_false,bP,cg.len eb,l,G,aS,m,decide_false];exact bad q (by simp[M])
  |true=>
   rw[S,gG]at R dp bad;rw[S]at bP;simp-implicitDefEqProofs(disch:=try exact al)only[Nat.reduceAdd,Nat.reduceLeDiff,bM,Bool.not_true,bP,ag,cg.len eb,l,G,decide_false];refine cE (wQ aF c.res) ?_;rintro _ ap ⟨rfl,Y⟩;refine⟨Y.1,?_⟩;have ao:=q.trans Y;have av:=Y.get bP;cases am:dB x.b1.length c.res with
   |false=>
    simp-implicitDefEqProofs(disch:=try exact al)only[bM,Bool.not_false];exact bad ao am
   |true=>
    simp-implicitDefEqProofs(disch:=try exact al)only[bM,Bool.not_true,av,aY];exact dp am ap ao
def Eg{x:bQ}{c:b3}(h:head x c=C):c.vars.all (dB x.b1.length)=C/\1<=c.ins.length:=by
 simp only[head,Bool.and_eq_true,decide_eq_true_eq]at h;exact⟨h.2.1,h.1.2.2.2.2⟩
def Eh{x:bQ}{a b cc d:aa}{zX:Nat}(h:∀g∈x.o,g.vars.length<=1000000000)(hlen:∀c∈x.o,c.ins.length<=1000000000)(q:x.o.length<=1000000){N:Nat}(l:∀c∈x.o,c.ins.length<N)(n:x.o.length<N):
  ∀(j k m s:Nat) (H:ad),k+j=x.o.length->j<m->s<=2500->(∀c∈x.o.take k,head x c=C)->H.get zX=D (.row Z 5 [[a,b,cc,d,J X x.main]])->c2 H ok x (.agg [a,b,cc,d,J X x.main])->
  W (m_ (aC P ax) N m (.ptr zX 0 0) (J X s) (J X k) H) λr H'=>r= y (jL x (x.o.drop k) s&&(jm x x.o 0&&gS x))/\ay H H'
 |_,_,0,_,_,_,E,_,_,_,_=>ai
 |0,k,m+1,s,H,A,_,u,e,aT,aD=>by
  have G:=aD;obtain⟨_,w,ck,b',M,O,z,ae,ah,ak,au⟩:=aD;cases w;cases z;have B:¬(k:Int)<(x.o.length:Int):=ai;rw[List.take_of_length_le ai]at e;rw[List.drop_of_length_le ai,jL,Bool.true_and];simp-implicitDefEqProofs(disch:=try exact al)only[m_,kE,rk,aq,aG,aM,Nat.zero_add,bf,k7 aT,ak.len c0,B,decide_false];exact GC h (λc aA=>(Eg (e c aA)).1) (λc aA=>⟨(Eg (e c aA)).2,hlen c aA⟩) q l x.o.length 0 N H ai n aT G
 |j+1,k,m+1,s,H,A,E,u,e,aT,aD=>by
  have f:k<x.o.length:=ai;have t:=List.getElem_mem f;rw[m_];rw[List.drop_eq_getElem_cons f,jL];refine Tm (c:=x.o[k]) (by simp[f]) ai u (h _ t) (hlen _ t) aT aD (λaN H' p=> ?_) λv H' p=> ?_
  ·exact⟨by rw[aN];simp,p⟩
  ·have i:=v;simp only[Bool.and_eq_true,decide_eq_true_eq]at i;refine(Eh h hlen q l n j (k+1) m (s+x.o[k].ins.length) H' ai ai i.1 ?_ (p.get aT) (aD.aI p)).mono ?_
   ·intro c aA;rw[List.take_succ_eq_append_getElem f,List.mem_append]at aA;rcases aA with aA|aA
    ·exact e c aA
    ·rw[List.mem_singleton.1 aA];exact i.2
   ·rintro r L ⟨rfl,K⟩;exact⟨by rw[v,Bool.true_and],p.trans K⟩
def Is{x:bQ}{a b cc d:aa}{zX:Nat}(M:∀g∈x.o,g.vars.length<=1000000000)(hlen:∀c∈x.o,c.ins.length<=1000000000)(O:x.o.length<=1000000)(af:x.sites.length<=1000000){N:Nat}(G:∀c∈x.o,c.ins.length<N)(w:x.o.length<N):
  ∀(j k m:Nat) (H:ad),k+j=x.sites.length->j<m->H.get zX=D (.row Z 5 [[a,b,cc,d,J X x.main]])->c2 H ok x (.agg [a,b,cc,d,J X x.main])->
  W (kG (aC P ax) N m (.ptr zX 0 0) (J X k) H) λr H'=>r= y ((x.sites.drop k).all (gV x)&&(jL x x.o 0&&(jm x x.o 0&&gS x)))/\ay H H'
 |_,_,0,_,_,ab,_,_=>ai
 |0,k,m+1,H,Y,_,aT,aD=>by
  have i:=aD;obtain⟨_,t,ck,b',T,U,u,ae,ah,ak,au⟩:=aD;cases t;cases u;have h:¬(k:Int)<(x.sites.length:Int):=ai;rw[List.drop_of_length_le ai,List.all_nil,Bool.true_and];simp-implicitDefEqProofs(disch:=try exact al)only[kG,o2,rj,aq,aG,aM,Nat.zero_add,bf,k7 aT,au.len e4,h,decide_false];exact Eh M hlen O G w x.o.length 0 N 0 H ai w ai (by simp) aT i
 |j+1,k,m+1,H,Y,ab,aT,aD=>by
  have i:=aD;obtain⟨_,t,ck,b',T,U,u,ae,ah,ak,au⟩:=aD;cases t;cases u;have h:(k:Int)<(x.sites.length:Int):=ai;have Q:k<x.sites.length:=ai;obtain⟨L,n,ro,els,am,B,_,g,e,rfl⟩:=au.at_ (K:=kc) e4 (j:=(k:Int)) (a:=x.sites[k]) ai (by simp[Q]);have an:=ad.b6 g;have ao:=ad.b6 aT;have v:H.get L=D (.row ro 4 els):=g;have av:zX≠H.next:=ai
  rw[b7]at e;rw[List.drop_eq_getElem_cons Q,List.all_cons];have on:=Is (x:=x) (a:=a) (b:=b) (cc:=cc) (d:=d) (zX:=zX) M hlen O af G w j (k+1) m;generalize x.sites[k]=z at*;have l:=ay.push H (.row Z 4 [[J X z.f,J X z.ty.b,J X z.ty.r,J X z.ty.d]]);have aY:=c3 (show k<=1000000000 by omega);by_cases s:z.f<0
  ·simp-implicitDefEqProofs(disch:=try exact al)only[kG,o2,Nat.reduceAdd,bM,aT,au.len e4,h,B,v,e,s,decide_true];exact aK.2 ⟨by simp[gV,show¬0<=z.f by omega],l⟩
  by_cases E:(x.o.length:Int)<=z.f
  ·simp-implicitDefEqProofs(disch:=try exact al)only[kG,o2,Nat.reduceAdd,bM,aT,au.len e4,ak.len c0,h,B,v,e,s,E,decide_true,decide_false];exact aK.2 ⟨by simp[gV,show¬z.f<(x.o.length:Int) by omega],l⟩
  simp-implicitDefEqProofs(disch:=try exact al)only[kG,o2,Nat.reduceAdd,bM,aT,au.len e4,ak.len c0,h,B,v,e,s,E,decide_true,decide_false];refine cE (wQ (i.aI l) z.ty) ?_;rintro _ H1 ⟨rfl,A⟩;refine⟨A.1,?_⟩;have q:=l.trans A;have V:H1.get H.next=D (.row Z 4 [[J X z.f,J X z.ty.b,J X z.ty.r,J X z.ty.d]]):=A.get (ad.bq _ _)
  have aN:decide (0<=z.f/\z.f<(x.o.length:Int))=true:=by simp;omega
  rw[gV,aN,Bool.true_and];cases ap:dB x.b1.length z.ty with
  |false=>
   simp-implicitDefEqProofs(disch:=try exact al)only[bM,Bool.not_false];exact aK.2 ⟨by simp,q⟩
  |true=>
   simp-implicitDefEqProofs(disch:=try exact al)only[Nat.reduceAdd,bM,Bool.not_true,V];refine cE (AN z.ty) ?_;rintro _ S ⟨rfl,R⟩;refine⟨R.1,?_⟩;have p:=q.trans R;cases ar:h8 z.ty with
   |false=>
    simp-implicitDefEqProofs(disch:=try exact al)only[bM,Bool.not_false];exact aK.2 ⟨by simp,p⟩
   |true=>
    simp-implicitDefEqProofs(disch:=try exact al)only[bM,Bool.not_true,aY];refine(on S ai ai (p.get aT) (i.aI p)).mono ?_;rintro r aj ⟨rfl,ag⟩;exact⟨by simp,p.trans ag⟩
