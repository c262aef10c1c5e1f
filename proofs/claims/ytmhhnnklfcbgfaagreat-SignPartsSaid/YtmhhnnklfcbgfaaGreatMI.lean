/-
  Texts of one proof, laid together: Nd Ne Nf Ng.
-/
import Derived.Test.YtmhhnnklfcbgfaaGreatMH
set_option linter.unusedVariables false
set_option linter.unusedSimpArgs false
set_option linter.defProp false
open Option renaming some→D
open Bool renaming true→C,false→Z
open Go.bz.ae renaming int→J,bool→A
open Go.IntKind renaming i64→X
namespace Go.Proofs.YtmhhnnklfcbgfaaGreat
open Go.bz
section
open Go.a2
set_option maxRecDepth 2000
section
variable {H:ad}{ok:Nat->Prop}
def EX{x:bj}{v:ae}(aA:cM H ok x v)(f:Nat)(s:Int)(t:cv):W (aQ P aK 109 [v,J X f,J X s,cU t] H) λr H'=>r= A (hP x f s t)/\av H H':=by
 obtain⟨_,rfl,a,b,c,d,rfl,af,ah,an,aM⟩:=aA;refine Xp 0 ?_;have k:=dV af ah an aM x.main;have h:=jf t;rw[bZ]at h;have l:=(((av.refl H).dQ (.row Z 5 [[a,b,c,d,J X x.main]])).dQ (.row Z 3 [[J X t.b,J X t.r,J X t.d]]));by_cases i:0<=s
 ·by_cases m:s<(x.sites.length:Int)
  ·have p:s.toNat<x.sites.length:=aa;have q:dI x.sites s=D x.sites[s.toNat]:=by rw[iF i];simp[p]
   obtain⟨L,n,ro,els,w,u,_,g,e,rfl⟩:=aM.at_ (K:=lU) fO (j:=s) (a:=x.sites[s.toNat]) aa (by simp[p]);have y:=ad.bE g;have o:H.get L=D (.row ro 4 els):=g;have B:L≠H.next:=aa
   have E:L≠H.next+1:=aa
   rw[bZ]at e;have he:∀z,bm P .eql 46 z (.agg [J X x.sites[s.toNat].ty.b,J X x.sites[s.toNat].ty.r,J X x.sites[s.toNat].ty.d]) (.agg [J X t.b,J X t.r,J X t.d])=D (A (decide (x.sites[s.toNat].ty=t))):=df _ t;cases az:(x.sites[s.toNat].f==(f:Int))with
   |true=>
    simp-implicitDefEqProofs(disch:=try exact ai)only[sH,Nat.reduceAdd,R,k,h,i,m,aM.len fO,u,o,e,az,he,decide_true];exact aG.2 ⟨by rw[hP,q];simp[az],l⟩
   |false=>
    simp-implicitDefEqProofs(disch:=try exact ai)only[sH,R,k,h,i,m,aM.len fO,u,o,e,az,decide_true];exact aG.2 ⟨by rw[hP,q];simp[az],l⟩
  ·simp-implicitDefEqProofs(disch:=try exact ai)only[sH,R,k,h,i,m,aM.len fO,decide_true,decide_false];exact aG.2 ⟨by rw[hP,fc.2 (.inr aa)],l⟩
 ·simp-implicitDefEqProofs(disch:=try exact ai)only[sH,R,k,h,i,decide_false];exact aG.2 ⟨by rw[hP,fc.2 (.inl aa)],l⟩
def u2{i:In}{v:ae}(h:aO aT H ok i.args v)(a b c d e:Int)(l:Nat):fe l (.agg [J X a,J X b,J X c,J X d,J X e,v])=D (.ptr l 0 0,.row Z 6 [[J X a,J X b,J X c,J X d,J X e,v]]):=
 oA l _ (by have f:=h.one;simp[f];exact⟨rfl,rfl,rfl,rfl,rfl⟩)
def M0(i:In)(b c n g:Bool):Bool:=(b||i.b==0)&&((c||i.c==0)&&((n||i.n==0)&&(g||i.args.length==0)))
def yW(a b:Bool):a=C\/(a=Z/\b=C)\/(a=Z/\b=Z):=by cases a<;>cases b<;>simp
def Vu{i:In}{v:ae}{L:Nat}(d:aO aT H ok i.args v)(g:H.get L=D (.row Z 6 [[J X i.op,J X i.a,J X i.b,J X i.c,J X i.n,v]]))(b c n a:Bool):
  lH (aQ P aK) (.ptr L 0 0) (A b) (A c) (A n) (A a) H=D (A (M0 i b c n a),H):=by
 have al:(i.args.length==0)=((i.args.length:Int)==0):=by
  cases h:(i.args.length==0)<;>simp_all
 have e:=λH0=>d.len b6 (H0:=H0)
 unfold M0;rw[al];clear al d;rcases yW b (i.b==0)with rfl|⟨rfl,af⟩|⟨rfl,af⟩<;>rcases yW c (i.c==0)with rfl|⟨rfl,ah⟩|⟨rfl,ah⟩<;>rcases yW n (i.n==0)with rfl|⟨rfl,an⟩|⟨rfl,an⟩<;>rcases yW a ((i.args.length:Int)==0)with rfl|⟨rfl,aM⟩|⟨rfl,aM⟩<;>
  simp-implicitDefEqProofs(disch:=try exact ai)only[lH,R, *]<;>rfl
def Vv{i:In}{v:ae}(k:uE H ok i v):W (aQ P aK 102 [v] H) λr H'=>r= A (named i)/\av H H':=by
 obtain⟨_,rfl,w,rfl,e⟩:=k;refine Xi 0 ?_;have d:=u2 e;have g:=av.push H (.row Z 6 [[J X i.op,J X i.a,J X i.b,J X i.c,J X i.n,w]]);have f:=λb c n a=>Vu (e.aE g) (ad.a_ H (.row Z 6 [[J X i.op,J X i.a,J X i.b,J X i.c,J X i.n,w]])) b c n a
 have l:=λH0=>e.len b6 (H0:=H0)
 have fin:∀{a b:Bool},a=b->W (D (ae.bool a,H.push (.row Z 6 [[J X i.op,J X i.a,J X i.b,J X i.c,J X i.n,w]]))) λr H'=>r= A b/\av H H':=λh=>aG.2 ⟨by rw[h],g⟩
 unfold named;simp only[];split
 case h_16 heq=>
  have t:∀j:Int,(i.op==j)=((16:Int)==j):=λj=>by rw[heq]
  have al:(i.args.length==0)=((i.args.length:Int)==0):=by
   cases h:(i.args.length==0)<;>simp_all
  rw[al];rcases Bool.eq_false_or_eq_true (i.a==0)with af|af<;>rcases Bool.eq_false_or_eq_true (i.b==0)with ah|ah<;>rcases Bool.eq_false_or_eq_true (i.c==0)with an|an<;>rcases Bool.eq_false_or_eq_true ((i.args.length:Int)==0)with aM|aM<;>
   simp-implicitDefEqProofs(disch:=try exact ai)only[wL,wK,wJ,wI,wH,R,d,l,t,Int.reduceBEq,af,ah,an,aM]<;>exact fin rfl
 case h_17 x1 x2 p x4 x5 x6 x7 x8 q x10 x11 x12 m o x15 x16=>
  have s:(i.op==1)=false:=beq_eq_false_iff_ne.2 x1;have K:(i.op==11)=false:=beq_eq_false_iff_ne.2 x2;have L:(i.op==19)=false:=beq_eq_false_iff_ne.2 p;have M:(i.op==20)=false:=beq_eq_false_iff_ne.2 x4;have N:(i.op==3)=false:=beq_eq_false_iff_ne.2 x5;have O:(i.op==10)=false:=beq_eq_false_iff_ne.2 x6;have Q:(i.op==4)=false:=beq_eq_false_iff_ne.2 x7;have S:(i.op==5)=false:=beq_eq_false_iff_ne.2 x8;have T:(i.op==12)=false:=beq_eq_false_iff_ne.2 q;have u:(i.op==6)=false:=beq_eq_false_iff_ne.2 x10;have x:(i.op==7)=false:=beq_eq_false_iff_ne.2 x11;have y:(i.op==8)=false:=beq_eq_false_iff_ne.2 x12;have z:(i.op==9)=false:=beq_eq_false_iff_ne.2 m
  have B:(i.op==13)=false:=beq_eq_false_iff_ne.2 o;have E:(i.op==17)=false:=beq_eq_false_iff_ne.2 x15;have G:(i.op==16)=false:=beq_eq_false_iff_ne.2 x16;simp-implicitDefEqProofs(disch:=try exact ai)only[wL,wK,wJ,wI,wH,R,d,f,s,K,L,M,N,O,Q,S,T,u,x,y,z,B,E,G];exact fin rfl
 all_goals
  rename_i heq;have t:∀j:Int,(i.op==j)=(_==j):=λj=>by rw[heq]
  simp-implicitDefEqProofs(disch:=try exact ai)only[wL,wK,wJ,wI,wH,R,d,f,t,Int.reduceBEq];exact fin rfl
def bG{H:ad}{t:cv}{L:Nat}(h:H.get L=D (.row Z 3 [bZ t])):aI P H 46 (.ptr L 0 0)=D (cU t):=
 gY (n:=3) (i:=0) (c:=0) aF aF h rfl bU
def cF(t:cv):bF (D (cU t)) (cU t)=true:=by simp[bF,cU,bZ,ae.beq,er.beq]
def cZ{cE:List Nat}{T:List eP}{H:ad}:∀{S:List eP},(∀H'∈ct T H,av H H')->(∀t∈S,∀v,t.k= .read v->∀H',av H H'->bF (t.rd H') v=C)->re cE T H S
 |[],_,_=>trivial
 |t::ts,af,ah=>⟨λv a=> .inr λH' hm=>ah t (by simp) v a H' (af H' hm),cZ af λb a1=>ah b (by simp[a1])⟩
def rG{A B zD:Nat}{a b d:cv}(g:H.get A=D (.row Z 3 [bZ a]))(i:H.get B=D (.row Z 3 [bZ b]))(m:H.get zD=D (.row Z 3 [bZ d]))(op:Int):
  W (mg (aQ P aK) (.ptr A 0 0) (.ptr B 0 0) (.ptr zD 0 0) (J X op) (.bool C) H) λr H'=>r= .bool (decide (a=cL/\b=cL/\d=cL))/\av H H':=by
 simp-implicitDefEqProofs(disch:=try exact ai)only[mg,aj];refine aZ jO ?_;rintro _ af ⟨rfl,e⟩;refine⟨e.1,?_⟩;by_cases k:a=cL
 ·subst k;simp-implicitDefEqProofs(disch:=try exact ai)only[aj,bG (e.get g),df,decide_true,c2];refine cx jO ?_;rintro _ ah ⟨rfl,n⟩;refine⟨n.1,?_⟩;have f:=e.trans n;by_cases l:b=cL
  ·subst l;simp-implicitDefEqProofs(disch:=try exact ai)only[aj,bG (f.get i),df,decide_true,c2];refine cx jO ?_;rintro _ an ⟨rfl,o⟩;refine⟨o.1,?_⟩;have j:=f.trans o;simp-implicitDefEqProofs(disch:=try exact ai)only[aj,bG (j.get m),df,c2];refine cO (cP aF ?_) (aG.2 ⟨by simp,j⟩);refine cZ ?_ ?_
   ·simp only[ct,K.heap,List.forall_mem_cons]
    repeat' first|exact av.refl _|exact e|exact f|exact j|(intro _ h;cases h;done)|refine ar ?_ ?_
   ·simp only[List.forall_mem_cons]
    repeat' first|(intro v c;cases c;done)|(intro v c;cases c;intro H' p;simp only[bG (p.get g),cF];done)|(intro v c;cases c;intro H' p;simp only[bG (p.get i),cF];done)|(intro v c;cases c;intro H' p;simp only[bG (p.get m),cF];done)|(intro _ h;cases h;done)|refine ar ?_ ?_
  ·simp-implicitDefEqProofs(disch:=try exact ai)only[aj,bG (f.get i),df,l,decide_false,c2,ec];refine cO (cP aF ?_) (aG.2 ⟨by simp[],f⟩);refine cZ ?_ ?_
   ·simp only[ct,K.heap,List.forall_mem_cons]
    repeat' first|exact av.refl _|exact e|exact f|(intro _ h;cases h;done)|refine ar ?_ ?_
   ·simp only[List.forall_mem_cons]
    repeat' first|(intro v c;cases c;done)|(intro v c;cases c;intro H' p;simp only[bG (p.get g),cF];done)|(intro v c;cases c;intro H' p;simp only[bG (p.get i),cF];done)|(intro _ h;cases h;done)|refine ar ?_ ?_
 ·simp-implicitDefEqProofs(disch:=try exact ai)only[aj,bG (e.get g),df,k,decide_false,ec];refine cO (cP aF ?_) (aG.2 ⟨by simp[],e⟩);refine cZ ?_ ?_
  ·simp only[ct,K.heap,List.forall_mem_cons]
   repeat' first|exact av.refl _|exact e|(intro _ h;cases h;done)|refine ar ?_ ?_
  ·simp only[List.forall_mem_cons]
   repeat' first|(intro v c;cases c;done)|(intro v c;cases c;intro H' p;simp only[bG (p.get g),cF];done)|(intro _ h;cases h;done)|refine ar ?_ ?_
def Fy{A B zD:Nat}{a b d:cv}(g:H.get A=D (.row Z 3 [bZ a]))(i:H.get B=D (.row Z 3 [bZ b]))(m:H.get zD=D (.row Z 3 [bZ d]))(op:Int):
  W (nW (aQ P aK) (.ptr A 0 0) (.ptr B 0 0) (.ptr zD 0 0) (J X op) (.bool C) H) λr H'=>r= .bool (decide (a=dL/\b=cL/\d=cL))/\av H H':=by
 simp-implicitDefEqProofs(disch:=try exact ai)only[nW,aj];refine aZ m6 ?_;rintro _ af ⟨rfl,e⟩;refine⟨e.1,?_⟩;by_cases k:a=dL
 ·subst k;simp-implicitDefEqProofs(disch:=try exact ai)only[aj,bG (e.get g),df,decide_true,c2];refine cx jO ?_;rintro _ ah ⟨rfl,n⟩;refine⟨n.1,?_⟩;have f:=e.trans n;by_cases l:b=cL
  ·subst l;simp-implicitDefEqProofs(disch:=try exact ai)only[aj,bG (f.get i),df,decide_true,c2];refine cx jO ?_;rintro _ an ⟨rfl,o⟩;refine⟨o.1,?_⟩;have j:=f.trans o;simp-implicitDefEqProofs(disch:=try exact ai)only[aj,bG (j.get m),df,c2];refine cO (cP aF ?_) (aG.2 ⟨by simp,j⟩);refine cZ ?_ ?_
   ·simp only[ct,K.heap,List.forall_mem_cons]
    repeat' first|exact av.refl _|exact e|exact f|exact j|(intro _ h;cases h;done)|refine ar ?_ ?_
   ·simp only[List.forall_mem_cons]
    repeat' first|(intro v c;cases c;done)|(intro v c;cases c;intro H' p;simp only[bG (p.get g),cF];done)|(intro v c;cases c;intro H' p;simp only[bG (p.get i),cF];done)|(intro v c;cases c;intro H' p;simp only[bG (p.get m),cF];done)|(intro _ h;cases h;done)|refine ar ?_ ?_
  ·simp-implicitDefEqProofs(disch:=try exact ai)only[aj,bG (f.get i),df,l,decide_false,c2,ec];refine cO (cP aF ?_) (aG.2 ⟨by simp[],f⟩);refine cZ ?_ ?_
   ·simp only[ct,K.heap,List.forall_mem_cons]
    repeat' first|exact av.refl _|exact e|exact f|(intro _ h;cases h;done)|refine ar ?_ ?_
   ·simp only[List.forall_mem_cons]
    repeat' first|(intro v c;cases c;done)|(intro v c;cases c;intro H' p;simp only[bG (p.get g),cF];done)|(intro v c;cases c;intro H' p;simp only[bG (p.get i),cF];done)|(intro _ h;cases h;done)|refine ar ?_ ?_
 ·simp-implicitDefEqProofs(disch:=try exact ai)only[aj,bG (e.get g),df,k,decide_false,ec];refine cO (cP aF ?_) (aG.2 ⟨by simp[],e⟩);refine cZ ?_ ?_
  ·simp only[ct,K.heap,List.forall_mem_cons]
   repeat' first|exact av.refl _|exact e|(intro _ h;cases h;done)|refine ar ?_ ?_
  ·simp only[List.forall_mem_cons]
   repeat' first|(intro v c;cases c;done)|(intro v c;cases c;intro H' p;simp only[bG (p.get g),cF];done)|(intro _ h;cases h;done)|refine ar ?_ ?_
def FA{A B zD:Nat}{a b d:cv}(g:H.get A=D (.row Z 3 [bZ a]))(i:H.get B=D (.row Z 3 [bZ b]))(m:H.get zD=D (.row Z 3 [bZ d])):
  W (wN (aQ P aK) (.ptr A 0 0) (.ptr B 0 0) (.ptr zD 0 0) (.bool C) H) λr H'=>r= .bool (decide (a=dL/\b=dL/\d=dL))/\av H H':=by
 simp-implicitDefEqProofs(disch:=try exact ai)only[wN,aj];refine aZ m6 ?_;rintro _ af ⟨rfl,e⟩;refine⟨e.1,?_⟩;by_cases k:a=dL
 ·subst k;simp-implicitDefEqProofs(disch:=try exact ai)only[aj,bG (e.get g),df,decide_true,c2];refine cx m6 ?_;rintro _ ah ⟨rfl,n⟩;refine⟨n.1,?_⟩;have f:=e.trans n;by_cases l:b=dL
  ·subst l;simp-implicitDefEqProofs(disch:=try exact ai)only[aj,bG (f.get i),df,decide_true,c2];refine cx m6 ?_;rintro _ an ⟨rfl,o⟩;refine⟨o.1,?_⟩;have j:=f.trans o;simp-implicitDefEqProofs(disch:=try exact ai)only[aj,bG (j.get m),df,c2];refine cO (cP aF ?_) (aG.2 ⟨by simp,j⟩);refine cZ ?_ ?_
   ·simp only[ct,K.heap,List.forall_mem_cons]
    repeat' first|exact av.refl _|exact e|exact f|exact j|(intro _ h;cases h;done)|refine ar ?_ ?_
   ·simp only[List.forall_mem_cons]
    repeat' first|(intro v c;cases c;done)|(intro v c;cases c;intro H' p;simp only[bG (p.get g),cF];done)|(intro v c;cases c;intro H' p;simp only[bG (p.get i),cF];done)|(intro v c;cases c;intro H' p;simp only[bG (p.get m),cF];done)|(intro _ h;cases h;done)|refine ar ?_ ?_
  ·simp-implicitDefEqProofs(disch:=try exact ai)only[aj,bG (f.get i),df,l,decide_false,c2,ec];refine cO (cP aF ?_) (aG.2 ⟨by simp[],f⟩);refine cZ ?_ ?_
   ·simp only[ct,K.heap,List.forall_mem_cons]
    repeat' first|exact av.refl _|exact e|exact f|(intro _ h;cases h;done)|refine ar ?_ ?_
   ·simp only[List.forall_mem_cons]
    repeat' first|(intro v c;cases c;done)|(intro v c;cases c;intro H' p;simp only[bG (p.get g),cF];done)|(intro v c;cases c;intro H' p;simp only[bG (p.get i),cF];done)|(intro _ h;cases h;done)|refine ar ?_ ?_
 ·simp-implicitDefEqProofs(disch:=try exact ai)only[aj,bG (e.get g),df,k,decide_false,ec];refine cO (cP aF ?_) (aG.2 ⟨by simp[],e⟩);refine cZ ?_ ?_
  ·simp only[ct,K.heap,List.forall_mem_cons]
   repeat' first|exact av.refl _|exact e|(intro _ h;cases h;done)|refine ar ?_ ?_
  ·simp only[List.forall_mem_cons]
   repeat' first|(intro v c;cases c;done)|(intro v c;cases c;intro H' p;simp only[bG (p.get g),cF];done)|(intro _ h;cases h;done)|refine ar ?_ ?_
def Fz{A B zD:Nat}{a b d:cv}(f:H.get A=D (.row Z 3 [bZ a]))(g:H.get B=D (.row Z 3 [bZ b]))(i:H.get zD=D (.row Z 3 [bZ d]))(op:Int):
  W (qB (aQ P aK) (.ptr A 0 0) (.ptr B 0 0) (.ptr zD 0 0) (J X op) (.bool C) H) λr H'=>r= .bool (decide (a=dL/\b≠bl/\b=d))/\av H H':=by
 simp-implicitDefEqProofs(disch:=try exact ai)only[qB,aj];refine aZ m6 ?_;rintro _ af ⟨rfl,e⟩;refine⟨e.1,?_⟩;have aH:(.agg [J X 0,J X 0,J X 0]:ae)=cU bl:=rfl;by_cases j:a=dL
 ·subst j;by_cases k:b=bl
  ·subst k;simp-implicitDefEqProofs(disch:=try exact ai)only[aj,zH,aH,bG (e.get f),bG (e.get g),df,hK,decide_true,decide_false,ne_eq,not_true_eq_false,c2,ec];refine cO (cP aF ?_) (aG.2 ⟨by simp,e⟩);refine cZ ?_ ?_
   ·simp only[ct,K.heap,List.forall_mem_cons]
    repeat' first|exact av.refl _|exact e|(intro _ h;cases h;done)|refine ar ?_ ?_
   ·simp only[List.forall_mem_cons]
    repeat' first|(intro v c;cases c;done)|(intro v c;cases c;intro H' p;simp only[bG (p.get f),cF];done)|(intro v c;cases c;intro H' p;simp only[bG (p.get g),cF];done)|(intro v c;cases c;intro H' p;simp only[bG (p.get i),cF];done)|(intro _ h;cases h;done)|refine ar ?_ ?_
  ·simp-implicitDefEqProofs(disch:=try exact ai)only[aj,zH,aH,bG (e.get f),bG (e.get g),bG (e.get i),df,hK,k,decide_true,ne_eq,not_false_eq_true,c2];refine cO (cP aF ?_) (aG.2 ⟨by simp[],e⟩);refine cZ ?_ ?_
   ·simp only[ct,K.heap,List.forall_mem_cons]
    repeat' first|exact av.refl _|exact e|(intro _ h;cases h;done)|refine ar ?_ ?_
   ·simp only[List.forall_mem_cons]
    repeat' first|(intro v c;cases c;done)|(intro v c;cases c;intro H' p;simp only[bG (p.get f),cF];done)|(intro v c;cases c;intro H' p;simp only[bG (p.get g),cF];done)|(intro v c;cases c;intro H' p;simp only[bG (p.get i),cF];done)|(intro _ h;cases h;done)|refine ar ?_ ?_
 ·simp-implicitDefEqProofs(disch:=try exact ai)only[aj,bG (e.get f),df,j,decide_false,ec];refine cO (cP aF ?_) (aG.2 ⟨by simp[],e⟩);refine cZ ?_ ?_
  ·simp only[ct,K.heap,List.forall_mem_cons]
   repeat' first|exact av.refl _|exact e|(intro _ h;cases h;done)|refine ar ?_ ?_
  ·simp only[List.forall_mem_cons]
   repeat' first|(intro v c;cases c;done)|(intro v c;cases c;intro H' p;simp only[bG (p.get f),cF];done)|(intro v c;cases c;intro H' p;simp only[bG (p.get g),cF];done)|(intro v c;cases c;intro H' p;simp only[bG (p.get i),cF];done)|(intro _ h;cases h;done)|refine ar ?_ ?_
def OO(n:Int)(a b d:cv):W (aQ P aK 106 [J X n,cU a,cU b,cU d] H) λr H'=>r= A (gF n a b d)/\av H H':=by
 refine Xm 0 ?_;simp-implicitDefEqProofs(disch:=try exact ai)only[KC,jf,aj,aC,oM];have y:=(((av.refl H).dQ (.row Z 3 [bZ a])).dQ (.row Z 3 [bZ b])).dQ (.row Z 3 [bZ d]);have c:(((H.push (.row Z 3 [bZ a])).push (.row Z 3 [bZ b])).push (.row Z 3 [bZ d])).get H.next=D (.row Z 3 [bZ a]):=by simp[ad.iM];omega
 have f:(((H.push (.row Z 3 [bZ a])).push (.row Z 3 [bZ b])).push (.row Z 3 [bZ d])).get (H.next+1)=D (.row Z 3 [bZ b]):=by simp[ad.iM]
 have g:(((H.push (.row Z 3 [bZ a])).push (.row Z 3 [bZ b])).push (.row Z 3 [bZ d])).get (H.next+1+1)=D (.row Z 3 [bZ d]):=by simp[ad.iM]
 have m:∀{e:Bool} {r:O},W r (λv H'=>v= A e/\av (((H.push (.row Z 3 [bZ a])).push (.row Z 3 [bZ b])).push (.row Z 3 [bZ d])) H')->gF n a b d=e->W r λv H'=>v= A (gF n a b d)/\av H H':=by
  intro e r h he;refine h.mono ?_;rintro _ H' ⟨rfl,p⟩;exact⟨by rw[he],y.trans p⟩
 by_cases i:n=14
 ·subst i;simp-implicitDefEqProofs(disch:=try exact ai)only[aj,Int.reduceBEq];exact m (rG c f g _) rfl
 have z:(n==14)=false:=beq_eq_false_iff_ne.2 i;by_cases j:n=15
 ·subst j;simp-implicitDefEqProofs(disch:=try exact ai)only[aj,aC,Int.reduceBEq];exact m (rG c f g _) rfl
 have B:(n==15)=false:=beq_eq_false_iff_ne.2 j;by_cases k:n=16
 ·subst k;simp-implicitDefEqProofs(disch:=try exact ai)only[aj,aC,Int.reduceBEq];exact m (rG c f g _) rfl
 have E:(n==16)=false:=beq_eq_false_iff_ne.2 k;by_cases l:n=17
 ·subst l;simp-implicitDefEqProofs(disch:=try exact ai)only[aj,aC,Int.reduceBEq];exact m (rG c f g _) rfl
 have G:(n==17)=false:=beq_eq_false_iff_ne.2 l;by_cases o:n=18
 ·subst o;simp-implicitDefEqProofs(disch:=try exact ai)only[aj,aC,Int.reduceBEq];exact m (rG c f g _) rfl
 have K:(n==18)=false:=beq_eq_false_iff_ne.2 o;by_cases q:n=19
 ·subst q;simp-implicitDefEqProofs(disch:=try exact ai)only[aj,aC,mg,Int.reduceBEq];exact m (Fy c f g _) rfl
 have L:(n==19)=false:=beq_eq_false_iff_ne.2 q;by_cases s:n=20
 ·subst s;simp-implicitDefEqProofs(disch:=try exact ai)only[aj,aC,mg,Int.reduceBEq];exact m (Fy c f g _) rfl
 have M:(n==20)=false:=beq_eq_false_iff_ne.2 s;by_cases t:n=21
 ·subst t;simp-implicitDefEqProofs(disch:=try exact ai)only[aj,aC,mg,nW,Int.reduceBEq];exact m (Fz c f g _) rfl
 have N:(n==21)=false:=beq_eq_false_iff_ne.2 t;by_cases u:n=22
 ·subst u;simp-implicitDefEqProofs(disch:=try exact ai)only[aj,aC,mg,nW,Int.reduceBEq];exact m (Fz c f g _) rfl
 have Q:(n==22)=false:=beq_eq_false_iff_ne.2 u;by_cases w:n=23
 ·subst w;simp-implicitDefEqProofs(disch:=try exact ai)only[aj,aC,mg,nW,qB,Int.reduceBEq];exact m (FA c f g) rfl
 have R:(n==23)=false:=beq_eq_false_iff_ne.2 w;by_cases x:n=24
 ·subst x;simp-implicitDefEqProofs(disch:=try exact ai)only[aj,aC,mg,nW,qB,Int.reduceBEq];exact m (FA c f g) rfl
 have S:(n==24)=false:=beq_eq_false_iff_ne.2 x;simp-implicitDefEqProofs(disch:=try exact ai)only[aj,aC,mg,nW,qB,wN,mf,z,B,E,G,K,L,M,N,Q,R,S];refine aG.2 ⟨?_,y⟩;rw[gF,if_neg aa,if_neg aa,if_neg aa,if_neg aa]
end
end
section
open Go.a2
set_option maxRecDepth 2000
def aO.rd{α:Type}{K:ek α}{H:ad}{ok:Nat->Prop}{l:List α}{v:ae}(h:aO K H ok l v):ae.beq v v=true:=by
 rcases h with⟨rfl,_⟩|⟨L,i,cap,ro,els,rfl,_⟩|⟨L,i,cap,rfl,_⟩<;>simp[ae.beq]
section
variable {H:ad}{ok:Nat->Prop}
def cW(c:bH)(v w:ae):List ae:=[J X c.params,v,A c.has,J X c.res.b,J X c.res.r,J X c.res.d,w]
def rY(i:In)(v:ae):List ae:=[J X i.op,J X i.a,J X i.b,J X i.c,J X i.n,v]
def AM{H:ad}{c:bH}{v w:ae}{L:Nat}(h:H.get L=D (.row Z 7 [cW c v w])):aI P H 49 (.ptr L 0 0)=D (.agg (cW c v w)):=
 gY (n:=7) (i:=0) (c:=0) aF aF h rfl bU
def Br{c:bH}{v w:ae}(af:aO eV H ok c.vars v)(ah:aO fD H ok c.ins w):bF (D (.agg (cW c v w))) (.agg (cW c v w))=true:=by
 simp[bF,cW,ae.beq,er.beq,af.rd,ah.rd]
def eI{α:Type}{K:ek α}{l:List α}{v:ae}(h:aO K H ok l v):bF (D v) v=true:=h.rd
def pZ(c g:bH)(i:In):Bool:=i.a== -1||(g.has&&decide (aY c i.a≠bl/\aY c i.a=g.res))
def O9{c g:bH}{i:In}{dp n u v wi:ae}{zC I G:Nat}(gc:H.get zC=D (.row Z 7 [cW c dp n]))(s:H.get I=D (.row Z 6 [rY i wi]))(q:H.get G=D (.row Z 7 [cW g u v]))
  (af:aO eV H ok c.vars dp) (ah:aO fD H ok c.ins n) (t:c.vars.length<=1000000000) {N:Nat}:
  W (sI (aQ P aK) N (.ptr zC 0 0) (.ptr I 0 0) (.ptr G 0 0) H) λr H'=>r= A (pZ c g i)/\av H H':=by
 have l:=s;rw[rY]at l;cases f:(i.a== -1)with
 |true=>
  simp-implicitDefEqProofs(disch:=try exact ai)only[sI,R,l,f];exact aG.2 ⟨by simp[pZ,f],av.refl _⟩
 |false=>
  have o:=gc;rw[cW]at o;simp-implicitDefEqProofs(disch:=try exact ai)only[sI,R,l,o,f];refine aZ (sk ⟨_,rfl,dp,n,rfl,af,ah⟩ i.a t) ?_;rintro _ K ⟨rfl,p⟩;refine⟨p.1,?_⟩;have e:=p.get q;rw[cW]at e;have w:=ad.bE e;have x:G≠K.next:=aa
  have m:av H (K.push (.row Z 3 [bZ (aY c i.a)])):=p.dQ _;have aH:∀z,bm P .neq 46 z (.agg [J X (aY c i.a).b,J X (aY c i.a).r,J X (aY c i.a).d]) (.agg [J X 0,J X 0,J X 0])=D (A (decide (aY c i.a≠bl))):=λz=>hK _ bl z
  have he:∀z,bm P .eql 46 z (.agg [J X (aY c i.a).b,J X (aY c i.a).r,J X (aY c i.a).d]) (.agg [J X g.res.b,J X g.res.r,J X g.res.d])=D (A (decide (aY c i.a=g.res))):=λz=>df _ g.res z
  cases h:g.has with
  |false=>
   rw[h]at e;simp-implicitDefEqProofs(disch:=try exact ai)only[Nat.reduceAdd,R,cU,bZ,e];exact aG.2 ⟨by simp[pZ,f,h],m⟩
  |true=>
   rw[h]at e;by_cases j:aY c i.a=bl
   ·have k:decide (aY c i.a≠bl)=false:=by simp[j]
    simp-implicitDefEqProofs(disch:=try exact ai)only[Nat.reduceAdd,R,cU,bZ,e,aH,k];exact aG.2 ⟨by simp[pZ,f,h,j],m⟩
   ·have k:decide (aY c i.a≠bl)=true:=by simp[j]
    simp-implicitDefEqProofs(disch:=try exact ai)only[Nat.reduceAdd,Nat.reduceLeDiff,R,cU,bZ,e,aH,he,k];exact aG.2 ⟨by simp[pZ,f,h,j],m⟩
def FI{c g:bH}{i:In}{dp O Y au wi:ae}{zC I G:Nat}(E:c.vars.length<=1000000000)(aj:g.vars.length<=1000000000)(am:i.args.length<=g.vars.length){N:Nat}:∀(j k m:Nat) (H:ad),k+j=i.args.length->j<m->H.get zC=D (.row Z 7 [cW c dp O])->H.get I=D (.row Z 6 [rY i wi])->H.get G=D (.row Z 7 [cW g Y au])->
  aO eV H ok c.vars dp->aO fD H ok c.ins O->aO eV H ok g.vars Y->aO aT H ok i.args wi->
  W (sJ (aQ P aK) N m (.ptr zC 0 0) (.ptr I 0 0) (.ptr G 0 0) (J X k) H) λr H'=>r= A (jW c g (i.args.drop k) k&&pZ c g i)/\av H H'
 |_,_,0,_,_,hm,_,_,_,_,_,_,_=>aa
 |0,k,m+1,H,al,_,gc,q,u,af,ah,an,aM=>by
  have M:¬(k:Int)<(i.args.length:Int):=aa;have l:=q;rw[rY]at l;rw[List.drop_of_length_le aa,jW,Bool.true_and];have e:=O9 (i:=i) (g:=g) gc q u af ah E (N:=N);simp-implicitDefEqProofs(disch:=try exact ai)only[wO,sJ,R,l,aM.len b6,M,decide_false];exact e
 |j+1,k,m+1,H,al,hm,gc,q,u,af,ah,an,aM=>by
  have M:(k:Int)<(i.args.length:Int):=aa;have T:k<i.args.length:=aa;have U:k<g.vars.length:=aa;have l:=q;rw[rY]at l;have o:=gc;rw[cW]at o;obtain⟨L,n,ro,els,ax,aq,_,ag,e,rfl⟩:=aM.at_ (K:=aT) b6 (j:=(k:Int)) (a:=i.args[k]) aa (by simp[T]);have t:H.get L=D (.row ro 1 els):=ag;simp-implicitDefEqProofs(disch:=try exact ai)only[wO,sJ,R,l,o,aM.len b6,M,decide_true,aq,t,e];refine aZ (sk ⟨_,rfl,dp,O,rfl,af,ah⟩ i.args[k] E) ?_;rintro _ K ⟨rfl,p⟩;refine⟨p.1,?_⟩;have v:=p.get u;rw[cW]at v;have az:=ad.bE v;have aA:G≠K.next:=aa
  have f:av H (K.push (.row Z 3 [bZ (aY c i.args[k])])):=p.dQ _;have x:=Br af ah;rw[cW]at x;obtain⟨L2,aI,ar,ab,ay,V,_,Q,y,rfl⟩:=(an.aE p).at_ (K:=eV) cX (j:=(k:Int)) (a:=g.vars[k]) aa (by simp[U]);have S:K.get L2=D (.row ar 3 ab):=Q;have aC:=ad.bE Q;have aF:L2≠K.next:=aa
  rw[bZ]at y;have aH:∀z,bm P .neq 46 z (.agg [J X (aY c i.args[k]).b,J X (aY c i.args[k]).r,J X (aY c i.args[k]).d]) (.agg [J X g.vars[k].b,J X g.vars[k].r,J X g.vars[k].d])=D (A (decide (aY c i.args[k]≠g.vars[k]))):=λz=>hK _ g.vars[k] z
  have he:∀z,bm P .eql 46 z (.agg [J X (aY c i.args[k]).b,J X (aY c i.args[k]).r,J X (aY c i.args[k]).d]) (.agg [J X 0,J X 0,J X 0])=D (A (decide (aY c i.args[k]=bl))):=λz=>df _ bl z
  rw[List.drop_eq_getElem_cons T,jW];have ak:g.vars[k]? =D g.vars[k]:=by simp[U]
  rw[ak];by_cases w:aY c i.args[k]=bl
  ·have s:decide (aY c i.args[k]=bl)=true:=by simp[w]
   simp-implicitDefEqProofs(disch:=try exact ai)only[Nat.reduceAdd,R,l,o,t,e,x,eI aM,cU,bZ,he,s];exact aG.2 ⟨by simp[w],f⟩
  ·have s:decide (aY c i.args[k]=bl)=false:=by simp[w]
   by_cases aN:aY c i.args[k]=g.vars[k]
   ·have B:decide (aY c i.args[k]≠g.vars[k])=false:=by simp[aN]
    simp-implicitDefEqProofs(disch:=try exact ai)only[Nat.reduceAdd,R,l,o,t,e,x,eI aM,cU,bZ,he,aH,s,B,v,V,S,y,cq (show k<=1000000000 by omega)];have:=FI E aj am (N:=N) j (k+1) m (K.push (.row Z 3 [bZ (aY c i.args[k])])) aa aa (f.get gc) (f.get q) (f.get u) (af.aE f) (ah.aE f) (an.aE f) (aM.aE f);refine this.mono ?_;rintro r aw ⟨rfl,ap⟩;refine⟨?_,f.trans ap⟩;have ao:g.vars[k]≠bl:=aN▸w;simp[aN,ao]
   ·have B:decide (aY c i.args[k]≠g.vars[k])=true:=by simp[aN]
    simp-implicitDefEqProofs(disch:=try exact ai)only[Nat.reduceAdd,R,l,o,t,e,x,eI aM,cU,bZ,he,aH,s,B,v,V,S,y];refine aG.2 ⟨?_,f⟩;have:¬g.vars[k]=aY c i.args[k]:=λh=>aN h.symm
    simp[this]
def O_{x:bj}{c:bH}{i:In}{v dp Q:ae}(aA:cM H ok x v)(aq:Es H ok c dp)(Y:uE H ok i Q)(T:c.vars.length<=1000000000)(U:∀g∈x.ay,g.vars.length<=1000000000):W (aQ P aK 110 [v,dp,Q] H) λr H'=>r= .bool (k7 x c i)/\av H H':=by
 obtain⟨_,rfl,a,b,cc,d,rfl,af,ah,an,aM⟩:=aA;obtain⟨_,rfl,c3,ww,rfl,a8,bo⟩:=aq;obtain⟨_,rfl,wi,rfl,i1⟩:=Y;refine Xr (i.args.length+1) ?_;have l:=dV af ah an aM x.main;have m:=FD a8 bo c.params c.res.b c.res.r c.res.d c.has;have o:=u2 i1 i.op i.a i.b i.c i.n;have M:=(((av.refl H).dQ (.row Z 5 [[a,b,cc,d,J X x.main]])).dQ (.row Z 7 [[J X c.params,c3,.bool c.has,J X c.res.b,J X c.res.r,J X c.res.d,ww]])).dQ (.row Z 6 [[J X i.op,J X i.a,J X i.b,J X i.c,J X i.n,wi]]);by_cases k:i.c<0
 ·simp-implicitDefEqProofs(disch:=try exact ai)only[o5,R,l,m,o,k,decide_true];exact aG.2 ⟨by rw[k7,fc.2 (.inl k)],M⟩
 by_cases bR:(x.ay.length:Int)<=i.c
 ·simp-implicitDefEqProofs(disch:=try exact ai)only[o5,Nat.reduceAdd,R,l,m,o,k,bR,an.len cI,decide_true,decide_false];exact aG.2 ⟨by rw[k7,fc.2 (.inr bR)],M⟩
 have z:i.c.toNat<x.ay.length:=aa;have aP:dI x.ay i.c=D x.ay[i.c.toNat]:=by rw[iF aa];simp[z]
 obtain⟨L,n,ro,els,ak,w,_,g,e,gv,gw,rfl,p,S⟩:=an.at_ (K:=fC) cI (j:=i.c) (a:=x.ay[i.c.toNat]) aa (by simp[z]);have V:=U _ (List.getElem_mem z);generalize x.ay[i.c.toNat]=G at*;have al:=ad.bE g;have q:H.get L=D (.row ro 7 els):=g;have am:L≠H.next:=aa
 have ao:L≠H.next+1:=aa
 have ap:L≠H.next+1+1:=aa
 have s:=p.one;have t:=S.one;have f:=M.dQ (.row Z 7 [[J X G.params,gv,.bool G.has,J X G.res.b,J X G.res.r,J X G.res.d,gw]]);rw[k7,aP];simp only[];have bad:¬(0<=G.params/\G.params<=G.vars.length/\(i.args.length:Int)=G.params)->(decide (0<=G.params/\G.params<=G.vars.length/\(i.args.length:Int)=G.params)&&(jW c G i.args 0&&(i.a== -1||G.has&&decide (aY c i.a≠bl/\aY c i.a=G.res))))=false:=λh=>by rw[decide_eq_false h,Bool.false_and]
 by_cases u:G.params<0
 ·simp-implicitDefEqProofs(disch:=try exact ai)only[o5,Nat.reduceAdd,R,l,m,o,k,bR,an.len cI,w,q,e,s,t,u,decide_true,decide_false];exact aG.2 ⟨by rw[bad aa],f⟩
 by_cases E:(G.vars.length:Int)<G.params
 ·simp-implicitDefEqProofs(disch:=try exact ai)only[o5,Nat.reduceAdd,R,l,m,o,k,bR,an.len cI,p.len cX,w,q,e,s,t,u,E,decide_true,decide_false];exact aG.2 ⟨by rw[bad aa],f⟩
 by_cases O:(i.args.length:Int)=G.params
 ·have y:((i.args.length:Int) != G.params)=false:=by simp[O]
  simp-implicitDefEqProofs(disch:=try exact ai)only[o5,Nat.reduceAdd,R,l,m,o,k,bR,an.len cI,p.len cX,i1.len b6,w,q,e,s,t,u,E,y,decide_false];have ab:decide (0<=G.params/\G.params<=G.vars.length/\(i.args.length:Int)=G.params)=true:=by simp;omega
  rw[ab,Bool.true_and];have gt:∀{A B zC zD:bn},((((H.push A).push B).push zC).push zD).get (H.next+1)=D B/\((((H.push A).push B).push zC).push zD).get (H.next+1+1)=D zC/\((((H.push A).push B).push zC).push zD).get (H.next+1+1+1)=D zD:=by
   intro A B zC zD;refine⟨?_,?_,?_⟩<;>simp[ad.iM]<;>omega
  have key:=FI (c:=c) (g:=G) (i:=i) T V aa (N:=i.args.length+1) i.args.length 0 (i.args.length+1) _ aa aa gt.1 gt.2.1 gt.2.2 (a8.aE f) (bo.aE f) (p.aE f) (i1.aE f);refine key.mono ?_;rintro r aj ⟨rfl,ag⟩;exact⟨by rw[List.drop_zero];rfl,f.trans ag⟩
 ·have y:((i.args.length:Int) != G.params)=true:=by simp[O]
  simp-implicitDefEqProofs(disch:=try exact ai)only[o5,Nat.reduceAdd,R,l,m,o,k,bR,an.len cI,p.len cX,i1.len b6,w,q,e,s,t,u,E,y,decide_false];exact aG.2 ⟨by rw[bad aa],f⟩
end
end
section
open Go.a2
set_option maxRecDepth 2000
section
variable {H:ad}{ok:Nat->Prop}
def o{H:ad}{i:In}{w:ae}{I:Nat}(h:H.get I=D (.row Z 6 [[J X i.op,J X i.a,J X i.b,J X i.c,J X i.n,w]])):
  aI P H 3 (.ptr I 0 1)=D (J X i.a)/\aI P H 3 (.ptr I 0 2)=D (J X i.b)/\aI P H 3 (.ptr I 0 3)=D (J X i.c)/\aI P H 3 (.ptr I 0 4)=D (J X i.n):=by
 simp-implicitDefEqProofs(disch:=try exact ai)only[R,h]
def cH{H:ad}{a b c d:ae}{m:Int}{zX:Nat}(h:H.get zX=D (.row Z 5 [[a,b,c,d,J X m]])):aI P H 27 (.ptr zX 0 0)=D (.agg [a,b,c,d,J X m]):=
 gY (n:=5) (i:=0) (c:=0) aF aF h rfl bU
def Iv{H:ad}{i:In}{w:ae}{I:Nat}(h:H.get I=D (.row Z 6 [[J X i.op,J X i.a,J X i.b,J X i.c,J X i.n,w]])):aI P H 89 (.ptr I 0 0)=D (.agg [J X i.op,J X i.a,J X i.b,J X i.c,J X i.n,w]):=
 gY (n:=6) (i:=0) (c:=0) aF aF h rfl bU
def oT{H:ad}{c:bH}{v w:ae}{zC:Nat}(h:H.get zC=D (.row Z 7 [[J X c.params,v,A c.has,J X c.res.b,J X c.res.r,J X c.res.d,w]])):
  aI P H 4 (.ptr zC 0 2)=D (A c.has)/\aI P H 47 (.ptr zC 0 6)=D w/\aI P H 46 (.ptr zC 0 3)=D (cU c.res):=by
 refine⟨?_,?_,?_⟩
 ·simp-implicitDefEqProofs(disch:=try exact ai)only[R,h]
 ·simp-implicitDefEqProofs(disch:=try exact ai)only[R,h]
 ·exact gY (n:=3) (i:=0) (c:=3) aF aF h rfl bU
def vM{H:ad}{a b c d:ae}{m:Int}{zX:Nat}(h:H.get zX=D (.row Z 5 [[a,b,c,d,J X m]])):aI P H 23 (.ptr zX 0 1)=D b:=by
 simp-implicitDefEqProofs(disch:=try exact ai)only[R,h]
def iR{H:ad}{t:cv}{A:Nat}(h:H.get A=D (.row Z 3 [bZ t])):aI P H 3 (.ptr A 0 0)=D (J X t.b)/\aI P H 3 (.ptr A 0 2)=D (J X t.d):=by
 rw[bZ]at h;simp-implicitDefEqProofs(disch:=try exact ai)only[R,h]
def abh{x:bj}{i:In}{v bg:ae}(aA:cM H ok x v)(bo:uE H ok i bg)(f:Nat){c:bH}(az:x.ay[f]? =D c)(bd:∀g∈x.ay,g.vars.length<=1000000000)(hm:c.vars.all (dE x.bV.length)=C):W (aQ P aK 51 [v,J X f,bg] H) λr H'=>r= .bool (dy x f c i)/\av H H':=by
 obtain⟨_,rfl,a,b,cc,d,rfl,af,ah,an,aM⟩:=aA;obtain⟨_,rfl,wi,rfl,i1⟩:=bo;have co:=(List.getElem?_eq_some_iff.1 az).1;have aO:c.vars.length<=1000000000:=bd c (List.mem_of_getElem? az);refine Y1 0 ?_;have bi:=dV af ah an aM x.main;have bk:=u2 i1 i.op i.a i.b i.c i.n;have be:=((av.refl H).dQ (.row Z 5 [[a,b,cc,d,J X x.main]])).dQ (.row Z 6 [[J X i.op,J X i.a,J X i.b,J X i.c,J X i.n,wi]]);have f0:¬(f:Int)<0:=aa;have f1:¬(x.ay.length:Int)<=(f:Int):=aa;simp-implicitDefEqProofs(disch:=try exact ai)only[Lh,R,bi,bk,f0,f1,an.len cI,decide_false];refine cx (Vv (i:=i) ⟨_,rfl,wi,rfl,i1.aE be⟩) ?_
 rintro _ K ⟨rfl,ao⟩;refine⟨ao.1,?_⟩;have aR:=be.trans ao;unfold dy;cases aH:named i with
 |false=>
  simp-implicitDefEqProofs(disch:=try exact ai)only[R];exact aG.2 ⟨by simp,aR⟩
 |true=>
  have aq:K.get (H.next+1)=D (.row Z 6 [[J X i.op,J X i.a,J X i.b,J X i.c,J X i.n,wi]]):=ao.get (by simp[ad.iM]);have aV:K.get H.next=D (.row Z 5 [[a,b,cc,d,J X x.main]]):=ao.get (by simp[ad.iM])
  obtain⟨L,n,ro,els,ch,bt,_,g,e,gv,gw,rfl,bR,b0⟩:=(an.aE aR).at_ (K:=fC) cI (j:=(f:Int)) (a:=c) aa (by simpa using az);have ck:=ad.bE g;have bn:K.get L=D (.row ro 7 els):=g;have cl:L≠K.next:=aa
  have br:=bR.one;have bs:=b0.one;have cj:H.next+1<K.next:=by have:=ao.1;simp at this;omega
  have n5:H.next+1≠K.next:=aa
  have cw:H.next+1≠K.next+1:=aa
  have cu:H.next≠K.next:=aa
  have cv:H.next≠K.next+1:=aa
  simp-implicitDefEqProofs(disch:=try exact ai)only[Nat.reduceAdd,R,Bool.not_true,Bool.true_and,aV,aq,bt,bn,e,br,bs];have cy:=(aR.dQ (.row Z 7 [[J X c.params,gv,.bool c.has,J X c.res.b,J X c.res.r,J X c.res.d,gw]])).dQ (.row Z 3 [[J X 0,J X 0,J X 0]]);have a3:=((av.refl K).dQ (.row Z 7 [[J X c.params,gv,.bool c.has,J X c.res.b,J X c.res.r,J X c.res.d,gw]])).dQ (.row Z 3 [[J X 0,J X 0,J X 0]]);refine aZ (sk ⟨_,rfl,gv,gw,rfl,bR.aE a3,b0.aE a3⟩ i.a aO) ?_;rintro _ ba ⟨rfl,l⟩;refine⟨l.1,?_⟩;have aP:=a3.trans l
  have aJ:ba.get K.next=D (.row Z 7 [[J X c.params,gv,.bool c.has,J X c.res.b,J X c.res.r,J X c.res.d,gw]]):=l.get (by simp[ad.iM])
  have bb:ba.get (K.next+1)=D (.row Z 3 [[J X 0,J X 0,J X 0]]):=l.get (by simp[ad.iM]);have au:=aP.get aq;simp-implicitDefEqProofs(disch:=try exact ai)only[R,aJ,au];refine aZ (sk ⟨_,rfl,gv,gw,rfl,bR.aE aP,b0.aE aP⟩ i.b aO) ?_;rintro _ cf ⟨rfl,G⟩;refine⟨G.1,?_⟩;have a4:=aP.trans G;have aN:=G.get aJ;have aw:=G.get au;simp-implicitDefEqProofs(disch:=try exact ai)only[R,aN,aw];refine aZ (sk ⟨_,rfl,gv,gw,rfl,bR.aE a4,b0.aE a4⟩ i.c aO) ?_;rintro _ z ⟨rfl,am⟩;refine⟨am.1,?_⟩;have a5:=a4.trans am;have aX:=am.get aN;have ax:=am.get aw;have a0:=am.get (G.get bb);have bf:=Br bR b0
  rw[cW]at bf;have cq:H.next+1<z.next:=ad.bE ax
  have cr:K.next<z.next:=ad.bE aX
  have cs:K.next+1<z.next:=ad.bE a0
  have aW:=a5.get aV;have cp:H.next<z.next:=ad.bE aW
  have a2:∀v,(aY c v).d<=1000:=λv=>by
   unfold aY;cases h:dI c.vars v with
   |none=>simp[bl]
   |some u=>
    have:=List.all_eq_true.1 hm u (List.mem_of_getElem? (Fi.1 h).2);simp only[dE,Bool.and_eq_true,decide_eq_true_eq]at this;simp;omega
  have bp:=a2 i.a;have bq:=a2 i.b;have cn:=a2 i.c;generalize aY c i.a=ta at*;generalize aY c i.b=tb at*;generalize aY c i.c=M at*;simp-implicitDefEqProofs(disch:=try exact ai)only[Nat.reduceAdd,R,cU,bZ,aq,au,aw,ax,aJ,aN,bf]
  try rw[ad.dm H]
  try rw[ad.dm K]
  try rw[ad.dm (z.push _)]
  try rw[ad.dm z]
  have Y:av z ((((((z.push (.row Z 3 [[J X 0,J X 0,J X 0]])).push (.row Z 3 [[J X 0,J X 0,J X 0]])).push (.row Z 3 [[J X 0,J X 0,J X 0]])).set z.next (.row Z 3 [[J X ta.b,J X ta.r,J X ta.d]])).set (z.next+1) (.row Z 3 [[J X tb.b,J X tb.r,J X tb.d]])).set (z.next+1+1) (.row Z 3 [[J X M.b,J X M.r,J X M.d]])):=
   (((((av.refl z).dQ _).dQ _).dQ _).m7 (bC _) _).m7 aa _|>.m7 aa _
  have cQ:((((((z.push (.row Z 3 [[J X 0,J X 0,J X 0]])).push (.row Z 3 [[J X 0,J X 0,J X 0]])).push (.row Z 3 [[J X 0,J X 0,J X 0]])).set z.next (.row Z 3 [[J X ta.b,J X ta.r,J X ta.d]])).set (z.next+1) (.row Z 3 [[J X tb.b,J X tb.r,J X tb.d]])).set (z.next+1+1) (.row Z 3 [[J X M.b,J X M.r,J X M.d]])).get z.next=D (.row Z 3 [bZ ta]):=by
   simp-implicitDefEqProofs(disch:=try exact ai)only[oM];rfl
  have N:((((((z.push (.row Z 3 [[J X 0,J X 0,J X 0]])).push (.row Z 3 [[J X 0,J X 0,J X 0]])).push (.row Z 3 [[J X 0,J X 0,J X 0]])).set z.next (.row Z 3 [[J X ta.b,J X ta.r,J X ta.d]])).set (z.next+1) (.row Z 3 [[J X tb.b,J X tb.r,J X tb.d]])).set (z.next+1+1) (.row Z 3 [[J X M.b,J X M.r,J X M.d]])).get (z.next+1)=D (.row Z 3 [bZ tb]):=by
   simp-implicitDefEqProofs(disch:=try exact ai)only[oM];rfl
  have V:((((((z.push (.row Z 3 [[J X 0,J X 0,J X 0]])).push (.row Z 3 [[J X 0,J X 0,J X 0]])).push (.row Z 3 [[J X 0,J X 0,J X 0]])).set z.next (.row Z 3 [[J X ta.b,J X ta.r,J X ta.d]])).set (z.next+1) (.row Z 3 [[J X tb.b,J X tb.r,J X tb.d]])).set (z.next+1+1) (.row Z 3 [[J X M.b,J X M.r,J X M.d]])).get (z.next+1+1)=D (.row Z 3 [bZ M]):=by
   simp-implicitDefEqProofs(disch:=try exact ai)only[oM];rfl
  generalize ((((((z.push (.row Z 3 [[J X 0,J X 0,J X 0]])).push (.row Z 3 [[J X 0,J X 0,J X 0]])).push (.row Z 3 [[J X 0,J X 0,J X 0]])).set z.next (.row Z 3 [[J X ta.b,J X ta.r,J X ta.d]])).set (z.next+1) (.row Z 3 [[J X tb.b,J X tb.r,J X tb.d]])).set (z.next+1+1) (.row Z 3 [[J X M.b,J X M.r,J X M.d]]))=T at*;have aS:=Y.get aW;have E:=Y.get ax;have cg:=Y.get aX;have Q:T.get (K.next+1)=D (.row Z 3 [bZ bl]):=Y.get a0;have m:av H T:=(aR.trans a5).trans Y;generalize z.next=A at*
  generalize A+1=B at*;generalize B+1=zD at*;clear a0 aW ax aX aw aN au aJ bb aq aV;have a7:bF (D (.agg [a,b,cc,d,J X x.main])) (.agg [a,b,cc,d,J X x.main])=true:=by simp[bF,ae.beq,er.beq,af.rd,ah.rd,an.rd,aM.rd]
  have ak:cM T ok x (.agg [a,b,cc,d,J X x.main]):=⟨_,rfl,a,b,cc,d,rfl,af.aE m,ah.aE m,an.aE m,aM.aE m⟩;have ab:av K T:=a5.trans Y;have a6:bF (D gw) gw=true:=eI b0;have rs:=λH' (p:av T H')=>ar (bG (p.get cQ)) (ar (bG (p.get N)) (ar (bG (p.get V)) (ar (bG (p.get Q)) (ar (o (p.get E)) (ar (iR (p.get cQ)) (ar (iR (p.get N)) (ar (iR (p.get V)) (ar (cH (p.get aS)) (oT (p.get cg))))))))))
  split
  case h_1 heq=>
   have t:∀j:Int,(i.op==j)=(1==j):=λj=>by rw[heq]
   simp-implicitDefEqProofs(disch:=try exact ai)only[aj,t,Int.reduceBEq];refine aZ jO ?_;rintro _ af ⟨rfl,l⟩;refine⟨l.1,?_⟩;have ci:=l.get E;by_cases q:ta=cL
   ·simp-implicitDefEqProofs(disch:=try exact ai)only[aj,bG (l.get cQ),df,q,decide_true,y9,y8];refine cO (cP aF ?_) (aG.2 ⟨by simp,m.trans l⟩);subst q;refine cZ ?_ ?_
    ·simp only[ct,bz.K.heap,List.forall_mem_cons]
     repeat' first|exact av.refl _|exact l|(intro _ h;cases h;done)|refine ar ?_ ?_
    ·simp only[List.forall_mem_cons]
     repeat' first|(intro v k;cases k;done)|(intro v k;cases k;intro H' p;simp only[rs H' p,cF];done)|(intro _ h;cases h;done)|refine ar ?_ ?_
   ·simp-implicitDefEqProofs(disch:=try exact ai)only[aj,bG (l.get cQ),df,q,decide_false,il];refine cx m6 ?_;rintro _ ah ⟨rfl,G⟩;refine⟨G.1,?_⟩;have y:=l.trans G;have bc:=y.get E;by_cases S:ta=dL
    ·subst S;cases c4:(i.n==0)with
     |true=>
      simp-implicitDefEqProofs(disch:=try exact ai)only[aj,aC,aL,Nat.zero_add,bG (y.get cQ),o bc,df,decide_true,c4,c2,il,y9];refine cO (cP aF ?_) (aG.2 ⟨by simp[],m.trans y⟩);refine cZ ?_ ?_
      ·simp only[ct,bz.K.heap,List.forall_mem_cons]
       repeat' first|exact av.refl _|exact l|exact y|(intro _ h;cases h;done)|refine ar ?_ ?_
      ·simp only[List.forall_mem_cons]
       repeat' first|(intro v k;cases k;done)|(intro v k;cases k;intro H' p;simp only[rs H' p,cF,eN];done)|(intro _ h;cases h;done)|refine ar ?_ ?_
     |false=>
      simp-implicitDefEqProofs(disch:=try exact ai)only[aj,aC,aL,Nat.zero_add,bG (y.get cQ),o bc,df,decide_true,c4,c2,il];refine cO (cP aF ?_) (aG.2 ⟨by simp[],m.trans y⟩);refine cZ ?_ ?_
      ·simp only[ct,bz.K.heap,List.forall_mem_cons]
       repeat' first|exact av.refl _|exact l|exact y|(intro _ h;cases h;done)|refine ar ?_ ?_
      ·simp only[List.forall_mem_cons]
       repeat' first|(intro v k;cases k;done)|(intro v k;cases k;intro H' p;simp only[rs H' p,cF,eN];done)|(intro _ h;cases h;done)|refine ar ?_ ?_
    ·simp-implicitDefEqProofs(disch:=try exact ai)only[aj,bG (y.get cQ),df,S,decide_false,il,ec,y8];refine cO (cP aF ?_) (aG.2 ⟨by simp,m.trans y⟩);refine cZ ?_ ?_
     ·simp only[ct,bz.K.heap,List.forall_mem_cons]
      repeat' first|exact av.refl _|exact l|exact y|(intro _ h;cases h;done)|refine ar ?_ ?_
     ·simp only[List.forall_mem_cons]
      repeat' first|(intro v k;cases k;done)|(intro v k;cases k;intro H' p;simp only[rs H' p,cF];done)|(intro _ h;cases h;done)|refine ar ?_ ?_
  case h_2 heq=>
   have t:∀j:Int,(i.op==j)=(2==j):=λj=>by rw[heq]
   simp-implicitDefEqProofs(disch:=try exact ai)only[aj,aC,t,Int.reduceBEq,bG cQ,bG Q,hK];by_cases q:ta=bl
   ·have s:decide (ta≠bl)=false:=by simp[q]
    simp-implicitDefEqProofs(disch:=try exact ai)only[aj,s];exact aG.2 ⟨by simp,m⟩
   ·have s:decide (ta≠bl)=true:=by simp[q]
    simp-implicitDefEqProofs(disch:=try exact ai)only[aj,bG cQ,s];refine cx (Ka ta) ?_;rintro _ af ⟨rfl,l⟩;refine⟨l.1,?_⟩;simp-implicitDefEqProofs(disch:=try exact ai)only[aj,s];exact aG.2 ⟨by simp,m.trans l⟩
  case h_3 heq=>
   have t:∀j:Int,(i.op==j)=(3==j):=λj=>by rw[heq]
   simp-implicitDefEqProofs(disch:=try exact ai)only[aj,aC,t,Int.reduceBEq,bG cQ,bG Q,hK];by_cases q:ta=bl
   ·have s:decide (ta≠bl)=false:=by simp[q]
    simp-implicitDefEqProofs(disch:=try exact ai)only[aj,s];exact aG.2 ⟨by simp[q],m⟩
   ·have s:decide (ta≠bl)=true:=by simp[q]
    simp-implicitDefEqProofs(disch:=try exact ai)only[aj,bG cQ,bG N,df,s];exact aG.2 ⟨by simp[q],m⟩
  case h_4 heq=>
   have t:∀j:Int,(i.op==j)=(4==j):=λj=>by rw[heq]
   simp-implicitDefEqProofs(disch:=try exact ai)only[aj,aC,aL,Nat.zero_add,t,Int.reduceBEq,o E,bG cQ,bG N,bG V];refine aZ (OO i.n ta tb M) ?_;rintro _ af ⟨rfl,l⟩;exact⟨l.1,aG.2 ⟨rfl,m.trans l⟩⟩
  case h_5 heq=>
   have t:∀j:Int,(i.op==j)=(5==j):=λj=>by rw[heq]
   simp-implicitDefEqProofs(disch:=try exact ai)only[aj,aC,aL,Nat.zero_add,t,Int.reduceBEq,o E];cases c4:(i.n==12)with
   |true=>
    have cJ:(i.n==13)=false:=by
     have:i.n=12:=by simpa using c4
     rw[this];rfl
    simp-implicitDefEqProofs(disch:=try exact ai)only[aj,c2];refine cx jO ?_;rintro _ af ⟨rfl,l⟩;refine⟨l.1,?_⟩;by_cases q:ta=cL
    ·subst q;simp-implicitDefEqProofs(disch:=try exact ai)only[aj,c2,bG (l.get cQ),df,decide_true];refine cx jO ?_;rintro _ ah ⟨rfl,G⟩;refine⟨G.1,?_⟩;have y:=l.trans G;by_cases S:tb=cL
     ·subst S;simp-implicitDefEqProofs(disch:=try exact ai)only[aj,c2,y9,y8,bG (y.get N),df,decide_true];refine cO (cP aF ?_) (aG.2 ⟨by simp,m.trans y⟩);refine cZ ?_ ?_
      ·simp only[ct,bz.K.heap,List.forall_mem_cons]
       repeat' first|exact av.refl _|exact l|exact y|(intro _ h;cases h;done)|refine ar ?_ ?_
      ·simp only[List.forall_mem_cons]
       repeat' first|(intro v k;cases k;done)|(intro v k;cases k;intro H' p;simp only[rs H' p,cF,eN];done)|(intro _ h;cases h;done)|refine ar ?_ ?_
     ·simp-implicitDefEqProofs(disch:=try exact ai)only[aj,aC,aL,Nat.zero_add,c2,il,ec,bG (y.get N),o (y.get E),cJ,df,S,decide_false];refine cO (cP aF ?_) (aG.2 ⟨by simp[],m.trans y⟩);refine cZ ?_ ?_
      ·simp only[ct,bz.K.heap,List.forall_mem_cons]
       repeat' first|exact av.refl _|exact l|exact y|(intro _ h;cases h;done)|refine ar ?_ ?_
      ·simp only[List.forall_mem_cons]
       repeat' first|(intro v k;cases k;done)|(intro v k;cases k;intro H' p;simp only[rs H' p,cF,eN];done)|(intro _ h;cases h;done)|refine ar ?_ ?_
    ·simp-implicitDefEqProofs(disch:=try exact ai)only[aj,aC,aL,Nat.zero_add,c2,il,ec,bG (l.get cQ),o (l.get E),cJ,df,q,decide_false];refine cO (cP aF ?_) (aG.2 ⟨by simp[],m.trans l⟩);refine cZ ?_ ?_
     ·simp only[ct,bz.K.heap,List.forall_mem_cons]
      repeat' first|exact av.refl _|exact l|(intro _ h;cases h;done)|refine ar ?_ ?_
     ·simp only[List.forall_mem_cons]
      repeat' first|(intro v k;cases k;done)|(intro v k;cases k;intro H' p;simp only[rs H' p,cF,eN];done)|(intro _ h;cases h;done)|refine ar ?_ ?_
   |false=>
    cases cJ:(i.n==13)with
    |true=>
     simp-implicitDefEqProofs(disch:=try exact ai)only[aj,aC,aL,Nat.zero_add,c2,il,ec,o E,cJ];refine cx m6 ?_;rintro _ af ⟨rfl,l⟩;refine⟨l.1,?_⟩;by_cases q:ta=dL
     ·subst q;simp-implicitDefEqProofs(disch:=try exact ai)only[aj,c2,il,bG (l.get cQ),df,decide_true];refine cx m6 ?_;rintro _ ah ⟨rfl,G⟩;refine⟨G.1,?_⟩;have y:=l.trans G;simp-implicitDefEqProofs(disch:=try exact ai)only[aj,c2,il,bG (y.get N),df];refine cO (cP aF ?_) (aG.2 ⟨by simp,m.trans y⟩);refine cZ ?_ ?_
      ·simp only[ct,bz.K.heap,List.forall_mem_cons]
       repeat' first|exact av.refl _|exact l|exact y|(intro _ h;cases h;done)|refine ar ?_ ?_
      ·simp only[List.forall_mem_cons]
       repeat' first|(intro v k;cases k;done)|(intro v k;cases k;intro H' p;simp only[rs H' p,cF,eN];done)|(intro _ h;cases h;done)|refine ar ?_ ?_
     ·simp-implicitDefEqProofs(disch:=try exact ai)only[aj,c2,il,ec,bG (l.get cQ),df,q,decide_false];refine cO (cP aF ?_) (aG.2 ⟨by simp,m.trans l⟩);refine cZ ?_ ?_
      ·simp only[ct,bz.K.heap,List.forall_mem_cons]
       repeat' first|exact av.refl _|exact l|(intro _ h;cases h;done)|refine ar ?_ ?_
      ·simp only[List.forall_mem_cons]
       repeat' first|(intro v k;cases k;done)|(intro v k;cases k;intro H' p;simp only[rs H' p,cF,eN];done)|(intro _ h;cases h;done)|refine ar ?_ ?_
    |false=>
     simp-implicitDefEqProofs(disch:=try exact ai)only[aj,aC,aL,Nat.zero_add,il,ec,o E,cJ];refine cO (cP aF ?_) (aG.2 ⟨by simp,m⟩);refine cZ ?_ ?_
     ·simp only[ct,bz.K.heap,List.forall_mem_cons]
      repeat' first|exact av.refl _|(intro _ h;cases h;done)|refine ar ?_ ?_
     ·simp only[List.forall_mem_cons]
      repeat' first|(intro v k;cases k;done)|(intro v k;cases k;intro H' p;simp only[rs H' p,eN];done)|(intro _ h;cases h;done)|refine ar ?_ ?_
  case h_6 heq=>
   have t:∀j:Int,(i.op==j)=(6==j):=λj=>by rw[heq]
   simp-implicitDefEqProofs(disch:=try exact ai)only[aj,aC,t,Int.reduceBEq,bG cQ,bG Q,hK];by_cases q:ta=bl
   ·have s:decide (ta≠bl)=false:=by simp[q]
    simp-implicitDefEqProofs(disch:=try exact ai)only[aj,ec,s];refine cO (cP aF ?_) (aG.2 ⟨by simp[q],m⟩);refine cZ ?_ ?_
    ·simp only[ct,bz.K.heap,List.forall_mem_cons]
     repeat' first|exact av.refl _|(intro _ h;cases h;done)|refine ar ?_ ?_
    ·simp only[List.forall_mem_cons]
     repeat' first|(intro v k;cases k;done)|(intro v k;cases k;intro H' p;simp only[rs H' p,cF];done)|(intro _ h;cases h;done)|refine ar ?_ ?_
   ·have s:decide (ta≠bl)=true:=by simp[q]
    simp-implicitDefEqProofs(disch:=try exact ai)only[aj,aL,Nat.zero_add,c2,bG N,cH aS,o E,s];refine cx (GU ak tb i.c) ?_;rintro _ af ⟨rfl,l⟩;refine⟨l.1,?_⟩;simp-implicitDefEqProofs(disch:=try exact ai)only[aj,c2,bG (l.get cQ),df,s];refine cO (cP aF ?_) (aG.2 ⟨by simp[q],m.trans l⟩);refine cZ ?_ ?_
    ·simp only[ct,bz.K.heap,List.forall_mem_cons]
     repeat' first|exact av.refl _|exact l|(intro _ h;cases h;done)|refine ar ?_ ?_
    ·simp only[List.forall_mem_cons]
     repeat' first|(intro v k;cases k;done)|(intro v k;cases k;intro H' p;simp only[rs H' p,cF,eN,a7];done)|(intro _ h;cases h;done)|refine ar ?_ ?_
  case h_7 heq=>
   have t:∀j:Int,(i.op==j)=(7==j):=λj=>by rw[heq]
   simp-implicitDefEqProofs(disch:=try exact ai)only[aj,aC,t,Int.reduceBEq,bG N,bG Q,hK];by_cases q:tb=bl
   ·have s:decide (tb≠bl)=false:=by simp[q]
    simp-implicitDefEqProofs(disch:=try exact ai)only[aj,ec,s];refine cO (cP aF ?_) (aG.2 ⟨by simp[q],m⟩);refine cZ ?_ ?_
    ·simp only[ct,bz.K.heap,List.forall_mem_cons]
     repeat' first|exact av.refl _|(intro _ h;cases h;done)|refine ar ?_ ?_
    ·simp only[List.forall_mem_cons]
     repeat' first|(intro v k;cases k;done)|(intro v k;cases k;intro H' p;simp only[rs H' p,cF];done)|(intro _ h;cases h;done)|refine ar ?_ ?_
   ·have s:decide (tb≠bl)=true:=by simp[q]
    simp-implicitDefEqProofs(disch:=try exact ai)only[aj,aL,Nat.zero_add,c2,bG cQ,cH aS,o E,s];refine cx (GU ak ta i.c) ?_;rintro _ af ⟨rfl,l⟩;refine⟨l.1,?_⟩;simp-implicitDefEqProofs(disch:=try exact ai)only[aj,c2,bG (l.get N),df,s];refine cO (cP aF ?_) (aG.2 ⟨by simp[q],m.trans l⟩);refine cZ ?_ ?_
    ·simp only[ct,bz.K.heap,List.forall_mem_cons]
     repeat' first|exact av.refl _|exact l|(intro _ h;cases h;done)|refine ar ?_ ?_
    ·simp only[List.forall_mem_cons]
     repeat' first|(intro v k;cases k;done)|(intro v k;cases k;intro H' p;simp only[rs H' p,cF,eN,a7];done)|(intro _ h;cases h;done)|refine ar ?_ ?_
  case h_8 heq=>
   have t:∀j:Int,(i.op==j)=(8==j):=λj=>by rw[heq]
   simp-implicitDefEqProofs(disch:=try exact ai)only[aj,aC,t,Int.reduceBEq,bG cQ,bG Q,hK];by_cases q:ta=bl
   ·have s:decide (ta≠bl)=false:=by simp[q]
    simp-implicitDefEqProofs(disch:=try exact ai)only[aj,ec,s];refine cO (cP aF ?_) (aG.2 ⟨by simp[q],m⟩);refine cZ ?_ ?_
    ·simp only[ct,bz.K.heap,List.forall_mem_cons]
     repeat' first|exact av.refl _|(intro _ h;cases h;done)|refine ar ?_ ?_
    ·simp only[List.forall_mem_cons]
     repeat' first|(intro v k;cases k;done)|(intro v k;cases k;intro H' p;simp only[rs H' p,cF];done)|(intro _ h;cases h;done)|refine ar ?_ ?_
   ·have s:decide (ta≠bl)=true:=by simp[q]
    by_cases O:0<tb.d
    ·simp-implicitDefEqProofs(disch:=try exact ai)only[aj,aC,aL,Nat.zero_add,c2,iR N,s,O,decide_true];refine cx jO ?_;rintro _ af ⟨rfl,l⟩;refine⟨l.1,?_⟩;by_cases U:M=cL
     ·simp-implicitDefEqProofs(disch:=try exact ai)only[aj,c2,bG (l.get V),bG (l.get N),df,U,decide_true];refine cx (IA tb O bq) ?_;rintro _ ah ⟨rfl,G⟩;refine⟨G.1,?_⟩;have y:=l.trans G;simp-implicitDefEqProofs(disch:=try exact ai)only[aj,c2,bG (y.get cQ),df,s];refine cO (cP aF ?_) (aG.2 ⟨by simp[q],m.trans y⟩);simp only[U]at rs;refine cZ ?_ ?_
      ·simp only[ct,bz.K.heap,List.forall_mem_cons]
       repeat' first|exact av.refl _|exact l|exact y|(intro _ h;cases h;done)|refine ar ?_ ?_
      ·simp only[List.forall_mem_cons]
       repeat' first|(intro v k;cases k;done)|(intro v k;cases k;intro H' p;simp only[rs H' p,cF,eN];done)|(intro _ h;cases h;done)|refine ar ?_ ?_
     ·simp-implicitDefEqProofs(disch:=try exact ai)only[aj,c2,ec,bG (l.get V),df,s,U,decide_false];refine cO (cP aF ?_) (aG.2 ⟨by simp[],m.trans l⟩);refine cZ ?_ ?_
      ·simp only[ct,bz.K.heap,List.forall_mem_cons]
       repeat' first|exact av.refl _|exact l|(intro _ h;cases h;done)|refine ar ?_ ?_
      ·simp only[List.forall_mem_cons]
       repeat' first|(intro v k;cases k;done)|(intro v k;cases k;intro H' p;simp only[rs H' p,cF,eN];done)|(intro _ h;cases h;done)|refine ar ?_ ?_
    ·simp-implicitDefEqProofs(disch:=try exact ai)only[aj,aC,aL,Nat.zero_add,c2,ec,iR N,s,O,decide_false];refine cO (cP aF ?_) (aG.2 ⟨by simp[],m⟩);refine cZ ?_ ?_
     ·simp only[ct,bz.K.heap,List.forall_mem_cons]
      repeat' first|exact av.refl _|(intro _ h;cases h;done)|refine ar ?_ ?_
     ·simp only[List.forall_mem_cons]
      repeat' first|(intro v k;cases k;done)|(intro v k;cases k;intro H' p;simp only[rs H' p,cF,eN];done)|(intro _ h;cases h;done)|refine ar ?_ ?_
  case h_9 heq=>
   have t:∀j:Int,(i.op==j)=(9==j):=λj=>by rw[heq]
   simp-implicitDefEqProofs(disch:=try exact ai)only[aj,aC,t,Int.reduceBEq,bG V,bG Q,hK];by_cases q:M=bl
   ·have s:decide (M≠bl)=false:=by simp[q]
    simp-implicitDefEqProofs(disch:=try exact ai)only[aj,ec,s];refine cO (cP aF ?_) (aG.2 ⟨by simp[q],m⟩);refine cZ ?_ ?_
    ·simp only[ct,bz.K.heap,List.forall_mem_cons]
     repeat' first|exact av.refl _|(intro _ h;cases h;done)|refine ar ?_ ?_
    ·simp only[List.forall_mem_cons]
     repeat' first|(intro v k;cases k;done)|(intro v k;cases k;intro H' p;simp only[rs H' p,cF];done)|(intro _ h;cases h;done)|refine ar ?_ ?_
   ·have s:decide (M≠bl)=true:=by simp[q]
    by_cases O:0<ta.d
    ·simp-implicitDefEqProofs(disch:=try exact ai)only[aj,aC,aL,Nat.zero_add,c2,iR cQ,s,O,decide_true];refine cx jO ?_;rintro _ af ⟨rfl,l⟩;refine⟨l.1,?_⟩;by_cases U:tb=cL
     ·simp-implicitDefEqProofs(disch:=try exact ai)only[aj,c2,bG (l.get N),bG (l.get cQ),df,U,decide_true];refine cx (IA ta O bp) ?_;rintro _ ah ⟨rfl,G⟩;refine⟨G.1,?_⟩;have y:=l.trans G;simp-implicitDefEqProofs(disch:=try exact ai)only[aj,c2,bG (y.get V),df,s];refine cO (cP aF ?_) (aG.2 ⟨by simp[q],m.trans y⟩);simp only[U]at rs;refine cZ ?_ ?_
      ·simp only[ct,bz.K.heap,List.forall_mem_cons]
       repeat' first|exact av.refl _|exact l|exact y|(intro _ h;cases h;done)|refine ar ?_ ?_
      ·simp only[List.forall_mem_cons]
       repeat' first|(intro v k;cases k;done)|(intro v k;cases k;intro H' p;simp only[rs H' p,cF,eN];done)|(intro _ h;cases h;done)|refine ar ?_ ?_
     ·simp-implicitDefEqProofs(disch:=try exact ai)only[aj,c2,ec,bG (l.get N),df,s,U,decide_false];refine cO (cP aF ?_) (aG.2 ⟨by simp[],m.trans l⟩);refine cZ ?_ ?_
      ·simp only[ct,bz.K.heap,List.forall_mem_cons]
       repeat' first|exact av.refl _|exact l|(intro _ h;cases h;done)|refine ar ?_ ?_
      ·simp only[List.forall_mem_cons]
       repeat' first|(intro v k;cases k;done)|(intro v k;cases k;intro H' p;simp only[rs H' p,cF,eN];done)|(intro _ h;cases h;done)|refine ar ?_ ?_
    ·simp-implicitDefEqProofs(disch:=try exact ai)only[aj,aC,aL,Nat.zero_add,c2,ec,iR cQ,s,O,decide_false];refine cO (cP aF ?_) (aG.2 ⟨by simp[],m⟩);refine cZ ?_ ?_
     ·simp only[ct,bz.K.heap,List.forall_mem_cons]
      repeat' first|exact av.refl _|(intro _ h;cases h;done)|refine ar ?_ ?_
     ·simp only[List.forall_mem_cons]
      repeat' first|(intro v k;cases k;done)|(intro v k;cases k;intro H' p;simp only[rs H' p,cF,eN];done)|(intro _ h;cases h;done)|refine ar ?_ ?_
  case h_10 heq=>
   have t:∀j:Int,(i.op==j)=(10==j):=λj=>by rw[heq]
   simp-implicitDefEqProofs(disch:=try exact ai)only[aj,aC,t,Int.reduceBEq];refine aZ jO ?_;rintro _ af ⟨rfl,l⟩;refine⟨l.1,?_⟩;by_cases q:ta=cL
   ·simp-implicitDefEqProofs(disch:=try exact ai)only[aj,aC,aL,Nat.zero_add,c2,bG (l.get cQ),iR (l.get N),df,q,decide_true];refine cO (cP aF ?_) (aG.2 ⟨by simp,m.trans l⟩);simp only[q]at rs;refine cZ ?_ ?_
    ·simp only[ct,bz.K.heap,List.forall_mem_cons]
     repeat' first|exact av.refl _|exact l|(intro _ h;cases h;done)|refine ar ?_ ?_
    ·simp only[List.forall_mem_cons]
     repeat' first|(intro v k;cases k;done)|(intro v k;cases k;intro H' p;simp only[rs H' p,cF,eN];done)|(intro _ h;cases h;done)|refine ar ?_ ?_
   ·simp-implicitDefEqProofs(disch:=try exact ai)only[aj,ec,bG (l.get cQ),df,q,decide_false];refine cO (cP aF ?_) (aG.2 ⟨by simp[],m.trans l⟩);refine cZ ?_ ?_
    ·simp only[ct,bz.K.heap,List.forall_mem_cons]
     repeat' first|exact av.refl _|exact l|(intro _ h;cases h;done)|refine ar ?_ ?_
    ·simp only[List.forall_mem_cons]
     repeat' first|(intro v k;cases k;done)|(intro v k;cases k;intro H' p;simp only[rs H' p,cF];done)|(intro _ h;cases h;done)|refine ar ?_ ?_
  case h_11 heq=>
   have t:∀j:Int,(i.op==j)=(11==j):=λj=>by rw[heq]
   simp-implicitDefEqProofs(disch:=try exact ai)only[aj,aC,t,Int.reduceBEq,bG cQ,bG Q,hK];by_cases q:ta=bl
   ·have s:decide (ta≠bl)=false:=by simp[q]
    simp-implicitDefEqProofs(disch:=try exact ai)only[aj,s];exact aG.2 ⟨by simp[q],m⟩
   ·have s:decide (ta≠bl)=true:=by simp[q]
    cases ag:(ta.b==3)with
    |false=>
     have aT:¬ta.b=3:=by simpa using ag
     simp-implicitDefEqProofs(disch:=try exact ai)only[aj,aC,aL,Nat.zero_add,iR cQ,s,ag];exact aG.2 ⟨by simp[aT],m⟩
    |true=>
     have aT:ta.b=3:=by simpa using ag
     cases ap:(ta.d==0)with
     |false=>
      have aU:¬ta.d=0:=by simpa using ap
      simp-implicitDefEqProofs(disch:=try exact ai)only[aj,aC,aL,Nat.zero_add,iR cQ,s,ag,ap];exact aG.2 ⟨by simp[aU],m⟩
     |true=>
      have aU:ta.d=0:=by simpa using ap
      simp-implicitDefEqProofs(disch:=try exact ai)only[aj,aC,aL,Nat.zero_add,iR cQ,bG cQ,cH aS,o E,s,ag,ap];refine cx (EX ak f i.n ta) ?_;rintro _ af ⟨rfl,l⟩;refine⟨l.1,?_⟩;simp-implicitDefEqProofs(disch:=try exact ai)only[aj];exact aG.2 ⟨by simp[q,aT,aU],m.trans l⟩
  case h_12 heq=>
   have t:∀j:Int,(i.op==j)=(12==j):=λj=>by rw[heq]
   simp-implicitDefEqProofs(disch:=try exact ai)only[aj,aC,aL,Nat.zero_add,t,Int.reduceBEq,iR cQ];by_cases O:0<ta.d
   ·simp-implicitDefEqProofs(disch:=try exact ai)only[aj,c2,O,decide_true];refine cx jO ?_;rintro _ af ⟨rfl,l⟩;refine⟨l.1,?_⟩;by_cases S:tb=cL
    ·simp-implicitDefEqProofs(disch:=try exact ai)only[aj,aL,Nat.zero_add,c2,bG (l.get N),bG (l.get cQ),cH (l.get aS),o (l.get E),df,O,S,decide_true];refine cx (EX (ak.aE l) f i.n ta) ?_;rintro _ ah ⟨rfl,G⟩;refine⟨G.1,?_⟩;have y:=l.trans G;simp-implicitDefEqProofs(disch:=try exact ai)only[aj,O,decide_true];refine cO (cP aF ?_) (aG.2 ⟨by simp[],m.trans y⟩);simp only[S]at rs;refine cZ ?_ ?_
     ·simp only[ct,bz.K.heap,List.forall_mem_cons]
      repeat' first|exact av.refl _|exact l|exact y|(intro _ h;cases h;done)|refine ar ?_ ?_
     ·simp only[List.forall_mem_cons]
      repeat' first|(intro v k;cases k;done)|(intro v k;cases k;intro H' p;simp only[rs H' p,cF,eN,a7];done)|(intro _ h;cases h;done)|refine ar ?_ ?_
    ·simp-implicitDefEqProofs(disch:=try exact ai)only[aj,c2,ec,bG (l.get N),df,O,S,decide_true,decide_false];refine cO (cP aF ?_) (aG.2 ⟨by simp[],m.trans l⟩);refine cZ ?_ ?_
     ·simp only[ct,bz.K.heap,List.forall_mem_cons]
      repeat' first|exact av.refl _|exact l|(intro _ h;cases h;done)|refine ar ?_ ?_
     ·simp only[List.forall_mem_cons]
      repeat' first|(intro v k;cases k;done)|(intro v k;cases k;intro H' p;simp only[rs H' p,cF,eN];done)|(intro _ h;cases h;done)|refine ar ?_ ?_
   ·simp-implicitDefEqProofs(disch:=try exact ai)only[aj,ec,O,decide_false];refine cO (cP aF ?_) (aG.2 ⟨by simp[],m⟩);refine cZ ?_ ?_
    ·simp only[ct,bz.K.heap,List.forall_mem_cons]
     repeat' first|exact av.refl _|(intro _ h;cases h;done)|refine ar ?_ ?_
    ·simp only[List.forall_mem_cons]
     repeat' first|(intro v k;cases k;done)|(intro v k;cases k;intro H' p;simp only[rs H' p,eN];done)|(intro _ h;cases h;done)|refine ar ?_ ?_
  case h_13 heq=>
   have t:∀j:Int,(i.op==j)=(13==j):=λj=>by rw[heq]
   simp-implicitDefEqProofs(disch:=try exact ai)only[aj,aC,t,Int.reduceBEq,cH aS,AM (c:=c) (v:=gv) (w:=gw) cg,Iv E];refine aZ (O_ ak ⟨_,rfl,gv,gw,rfl,bR.aE ab,b0.aE ab⟩ ⟨_,rfl,wi,rfl,i1.aE m⟩ aO bd) ?_;rintro _ af ⟨rfl,l⟩;exact⟨l.1,aG.2 ⟨rfl,m.trans l⟩⟩
  case h_14 heq=>
   have t:∀j:Int,(i.op==j)=(14==j):=λj=>by rw[heq]
   simp-implicitDefEqProofs(disch:=try exact ai)only[aj,aC,t,Int.reduceBEq,lJ,kf];refine aZ jO ?_;rintro _ af ⟨rfl,l⟩;refine⟨l.1,?_⟩;simp-implicitDefEqProofs(disch:=try exact ai)only[aj,Bool.and_self,bG (l.get cQ),bG cQ,cF,df];exact aG.2 ⟨rfl,m.trans l⟩
  case h_15 heq=>
   have t:∀j:Int,(i.op==j)=(15==j):=λj=>by rw[heq]
   simp-implicitDefEqProofs(disch:=try exact ai)only[aj,aC,t,Int.reduceBEq,lJ,kf];refine aZ jO ?_;rintro _ af ⟨rfl,l⟩;refine⟨l.1,?_⟩;simp-implicitDefEqProofs(disch:=try exact ai)only[aj,Bool.and_self,bG (l.get cQ),bG cQ,cF,df];exact aG.2 ⟨rfl,m.trans l⟩
  case h_16 heq=>
   have t:∀j:Int,(i.op==j)=(16==j):=λj=>by rw[heq]
   simp-implicitDefEqProofs(disch:=try exact ai)only[aj,aC,aL,Nat.zero_add,t,Int.reduceBEq,lJ,kf,o E];by_cases c4:0<=i.n
   ·simp-implicitDefEqProofs(disch:=try exact ai)only[aj,aC,aL,Nat.zero_add,o E,oT cg,(b0.aE ab).len eA,c4,decide_true];exact aG.2 ⟨by simp[within,c4],m⟩
   ·simp-implicitDefEqProofs(disch:=try exact ai)only[aj,c4,decide_false];exact aG.2 ⟨by simp[within,c4],m⟩
  case h_17 heq=>
   have t:∀j:Int,(i.op==j)=(17==j):=λj=>by rw[heq]
   simp-implicitDefEqProofs(disch:=try exact ai)only[aj,aC,t,Int.reduceBEq,lJ,kf];refine aZ m6 ?_;rintro _ af ⟨rfl,l⟩;refine⟨l.1,?_⟩;by_cases q:ta=dL
   ·by_cases c4:0<=i.n
    ·by_cases cJ:i.n<(c.ins.length:Int)
     ·by_cases bh:0<=i.c
      ·simp-implicitDefEqProofs(disch:=try exact ai)only[aj,aC,aL,Nat.zero_add,c2,bG (l.get cQ),o (l.get E),oT (l.get cg),(b0.aE ab).len eA,df,q,decide_true,c4,cJ,bh];refine cO (cP aF ?_) (aG.2 ⟨by simp[within,c4,cJ,bh],m.trans l⟩);simp only[q]at rs;refine cZ ?_ ?_
       ·simp only[ct,bz.K.heap,List.forall_mem_cons]
        repeat' first|exact av.refl _|exact l|(intro _ h;cases h;done)|refine ar ?_ ?_
       ·simp only[List.forall_mem_cons]
        repeat' first|(intro v k;cases k;done)|(intro v k;cases k;intro H' p;simp only[rs H' p,cF,eN,a6];done)|(intro _ h;cases h;done)|refine ar ?_ ?_
      ·simp-implicitDefEqProofs(disch:=try exact ai)only[aj,aC,aL,Nat.zero_add,c2,ec,bG (l.get cQ),o (l.get E),oT (l.get cg),(b0.aE ab).len eA,df,q,decide_true,c4,cJ,bh,decide_false];refine cO (cP aF ?_) (aG.2 ⟨by simp[within,c4,cJ,bh],m.trans l⟩);simp only[q]at rs;refine cZ ?_ ?_
       ·simp only[ct,bz.K.heap,List.forall_mem_cons]
        repeat' first|exact av.refl _|exact l|(intro _ h;cases h;done)|refine ar ?_ ?_
       ·simp only[List.forall_mem_cons]
        repeat' first|(intro v k;cases k;done)|(intro v k;cases k;intro H' p;simp only[rs H' p,cF,eN,a6];done)|(intro _ h;cases h;done)|refine ar ?_ ?_
     ·simp-implicitDefEqProofs(disch:=try exact ai)only[aj,aC,aL,Nat.zero_add,c2,ec,bG (l.get cQ),o (l.get E),oT (l.get cg),(b0.aE ab).len eA,df,q,decide_true,c4,cJ,decide_false];refine cO (cP aF ?_) (aG.2 ⟨by simp[within,c4,cJ],m.trans l⟩);simp only[q]at rs;refine cZ ?_ ?_
      ·simp only[ct,bz.K.heap,List.forall_mem_cons]
       repeat' first|exact av.refl _|exact l|(intro _ h;cases h;done)|refine ar ?_ ?_
      ·simp only[List.forall_mem_cons]
       repeat' first|(intro v k;cases k;done)|(intro v k;cases k;intro H' p;simp only[rs H' p,cF,eN,a6];done)|(intro _ h;cases h;done)|refine ar ?_ ?_
    ·simp-implicitDefEqProofs(disch:=try exact ai)only[aj,aC,aL,Nat.zero_add,c2,ec,bG (l.get cQ),o (l.get E),df,q,decide_true,c4,decide_false];refine cO (cP aF ?_) (aG.2 ⟨by simp[within,c4],m.trans l⟩);simp only[q]at rs;refine cZ ?_ ?_
     ·simp only[ct,bz.K.heap,List.forall_mem_cons]
      repeat' first|exact av.refl _|exact l|(intro _ h;cases h;done)|refine ar ?_ ?_
     ·simp only[List.forall_mem_cons]
      repeat' first|(intro v k;cases k;done)|(intro v k;cases k;intro H' p;simp only[rs H' p,cF,eN];done)|(intro _ h;cases h;done)|refine ar ?_ ?_
   ·simp-implicitDefEqProofs(disch:=try exact ai)only[aj,ec,bG (l.get cQ),df,q,decide_false];refine cO (cP aF ?_) (aG.2 ⟨by simp[],m.trans l⟩);refine cZ ?_ ?_
    ·simp only[ct,bz.K.heap,List.forall_mem_cons]
     repeat' first|exact av.refl _|exact l|(intro _ h;cases h;done)|refine ar ?_ ?_
    ·simp only[List.forall_mem_cons]
     repeat' first|(intro v k;cases k;done)|(intro v k;cases k;intro H' p;simp only[rs H' p,cF];done)|(intro _ h;cases h;done)|refine ar ?_ ?_
  case h_18 heq=>
   have t:∀j:Int,(i.op==j)=(18==j):=λj=>by rw[heq]
   simp-implicitDefEqProofs(disch:=try exact ai)only[aj,aC,aL,Nat.zero_add,t,Int.reduceBEq,lJ,kf,oT cg];cases cm:c.has with
   |false=>
    simp-implicitDefEqProofs(disch:=try exact ai)only[aj,aC,aL,Nat.zero_add,Bool.not_false,o E];exact aG.2 ⟨by simp,m⟩
   |true=>
    simp-implicitDefEqProofs(disch:=try exact ai)only[aj,Bool.not_true,bG cQ,bG Q,hK];by_cases q:ta=bl
    ·have s:decide (ta≠bl)=false:=by simp[q]
     simp-implicitDefEqProofs(disch:=try exact ai)only[aj,s];exact aG.2 ⟨by simp[q],m⟩
    ·have s:decide (ta≠bl)=true:=by simp[q]
     simp-implicitDefEqProofs(disch:=try exact ai)only[aj,aL,Nat.zero_add,bG cQ,oT cg,df,s];exact aG.2 ⟨by simp[q],m⟩
  case h_19 heq=>
   have t:∀j:Int,(i.op==j)=(19==j):=λj=>by rw[heq]
   simp-implicitDefEqProofs(disch:=try exact ai)only[aj,aC,t,Int.reduceBEq,lJ,q0,kf,bG cQ,bG Q,hK];by_cases q:ta=bl
   ·have s:decide (ta≠bl)=false:=by simp[q]
    simp-implicitDefEqProofs(disch:=try exact ai)only[aj,s];exact aG.2 ⟨by simp,m⟩
   ·have s:decide (ta≠bl)=true:=by simp[q]
    by_cases c4:0<=i.n
    ·by_cases cJ:i.n<(x.globals.length:Int)
     ·have al:i.n.toNat<x.globals.length:=aa;have a1:dI x.globals i.n=D x.globals[i.n.toNat]:=by rw[iF c4];simp[al]
      obtain⟨pp,bm,a8,a9,rfl⟩:=(ah.aE m).agg (K:=eV) cX q_ (j:=i.n) (a:=x.globals[i.n.toNat]) c4 (by simp[al]);have a_:aI P T 46 pp=D (cU x.globals[i.n.toNat]):=a9;simp-implicitDefEqProofs(disch:=try exact ai)only[aj,aC,aL,Nat.zero_add,bG cQ,o E,vM aS,(ah.aE m).len cX,df,s,c4,cJ,a8,a_,decide_true];exact aG.2 ⟨by rw[a1];simp[eq_comm],m⟩
     ·simp-implicitDefEqProofs(disch:=try exact ai)only[aj,aC,aL,Nat.zero_add,o E,vM aS,(ah.aE m).len cX,s,c4,cJ,decide_true,decide_false];exact aG.2 ⟨by rw[fc.2 (.inr aa)];simp,m⟩
    ·simp-implicitDefEqProofs(disch:=try exact ai)only[aj,aC,aL,Nat.zero_add,o E,s,c4,decide_false];exact aG.2 ⟨by rw[fc.2 (.inl aa)];simp,m⟩
  case h_20 heq=>
   have t:∀j:Int,(i.op==j)=(20==j):=λj=>by rw[heq]
   simp-implicitDefEqProofs(disch:=try exact ai)only[aj,aC,t,Int.reduceBEq,lJ,q0,kf,bG cQ,bG Q,hK];by_cases q:ta=bl
   ·have s:decide (ta≠bl)=false:=by simp[q]
    simp-implicitDefEqProofs(disch:=try exact ai)only[aj,s];exact aG.2 ⟨by simp,m⟩
   ·have s:decide (ta≠bl)=true:=by simp[q]
    by_cases c4:0<=i.n
    ·by_cases cJ:i.n<(x.globals.length:Int)
     ·have al:i.n.toNat<x.globals.length:=aa;have a1:dI x.globals i.n=D x.globals[i.n.toNat]:=by rw[iF c4];simp[al]
      obtain⟨pp,bm,a8,a9,rfl⟩:=(ah.aE m).agg (K:=eV) cX q_ (j:=i.n) (a:=x.globals[i.n.toNat]) c4 (by simp[al]);have a_:aI P T 46 pp=D (cU x.globals[i.n.toNat]):=a9;simp-implicitDefEqProofs(disch:=try exact ai)only[aj,aC,aL,Nat.zero_add,bG cQ,o E,vM aS,(ah.aE m).len cX,df,s,c4,cJ,a8,a_,decide_true];exact aG.2 ⟨by rw[a1];simp[eq_comm],m⟩
     ·simp-implicitDefEqProofs(disch:=try exact ai)only[aj,aC,aL,Nat.zero_add,o E,vM aS,(ah.aE m).len cX,s,c4,cJ,decide_true,decide_false];exact aG.2 ⟨by rw[fc.2 (.inr aa)];simp,m⟩
    ·simp-implicitDefEqProofs(disch:=try exact ai)only[aj,aC,aL,Nat.zero_add,o E,s,c4,decide_false];exact aG.2 ⟨by rw[fc.2 (.inl aa)];simp,m⟩
  case h_21 bX b_ z3 z4 z5 cb cd ce z9 bY b1 b2 b3 b4 b5 b6 b7 b8 b9 ca=>
   have bu:(i.op==1)=false:=beq_eq_false_iff_ne.2 bX;have bM:(i.op==2)=false:=beq_eq_false_iff_ne.2 b_;have bO:(i.op==3)=false:=beq_eq_false_iff_ne.2 z3;have bP:(i.op==4)=false:=beq_eq_false_iff_ne.2 z4;have bQ:(i.op==5)=false:=beq_eq_false_iff_ne.2 z5;have bS:(i.op==6)=false:=beq_eq_false_iff_ne.2 cb;have bT:(i.op==7)=false:=beq_eq_false_iff_ne.2 cd;have bU:(i.op==8)=false:=beq_eq_false_iff_ne.2 ce;have bW:(i.op==9)=false:=beq_eq_false_iff_ne.2 z9;have bv:(i.op==10)=false:=beq_eq_false_iff_ne.2 bY;have bw:(i.op==11)=false:=beq_eq_false_iff_ne.2 b1;have bx:(i.op==12)=false:=beq_eq_false_iff_ne.2 b2
   have bA:(i.op==13)=false:=beq_eq_false_iff_ne.2 b3;have bB:(i.op==14)=false:=beq_eq_false_iff_ne.2 b4;have bD:(i.op==15)=false:=beq_eq_false_iff_ne.2 b5;have bI:(i.op==16)=false:=beq_eq_false_iff_ne.2 b6;have bJ:(i.op==17)=false:=beq_eq_false_iff_ne.2 b7;have bK:(i.op==18)=false:=beq_eq_false_iff_ne.2 b8;have bL:(i.op==19)=false:=beq_eq_false_iff_ne.2 b9;have bN:(i.op==20)=false:=beq_eq_false_iff_ne.2 ca;simp-implicitDefEqProofs(disch:=try exact ai)only[aj,aC,lJ,q0,kf,bu,bM,bO,bP,bQ,bS,bT,bU,bW,bv,bw,bx,bA,bB,bD,bI,bJ,bK,bL,bN];exact aG.2 ⟨rfl,m⟩
end
end
section
open Go.a2
set_option maxRecDepth 2000
section
variable {H:ad}{ok:Nat->Prop}
def mP{H:ad}{a b c d:ae}{m:Int}{zX:Nat}(h:H.get zX=D (.row Z 5 [[a,b,c,d,J X m]])):
  aI P H 22 (.ptr zX 0 0)=D a/\aI P H 23 (.ptr zX 0 1)=D b/\aI P H 24 (.ptr zX 0 2)=D c/\aI P H 25 (.ptr zX 0 3)=D d/\aI P H 3 (.ptr zX 0 4)=D (J X m):=by
 simp-implicitDefEqProofs(disch:=try exact ai)only[R,h]
def W_{x:bj}{a b c d:ae}{zX:Nat}(aS:H.get zX=D (.row Z 5 [[a,b,c,d,J X x.main]]))(an:aO fC H ok x.ay c){N:Nat}:
  W (kK (aQ P aK) N (.ptr zX 0 0) H) λr H'=>r= A (hX x)/\H'=H:=by
 by_cases f:0<=x.main
 ·by_cases h:x.main<(x.ay.length:Int)
  ·have l:x.main.toNat<x.ay.length:=aa;have o:dI x.ay x.main=D x.ay[x.main.toNat]:=by rw[iF f];simp[l]
   obtain⟨L,n,ro,els,p,m,_,g,e,gv,gw,rfl,bR,b0⟩:=an.at_ (K:=fC) cI (j:=x.main) (a:=x.ay[x.main.toNat]) f (by simp[l]);have k:H.get L=D (.row ro 7 els):=g;rw[hX,o];generalize x.ay[x.main.toNat]=zC at*;cases i:(zC.params==0)with
   |false=>
    simp-implicitDefEqProofs(disch:=try exact ai)only[kK,Nat.reduceAdd,R,aS,an.len cI,f,h,m,k,e,i,decide_true];exact aG.2 ⟨by simp,rfl⟩
   |true=>
    simp-implicitDefEqProofs(disch:=try exact ai)only[kK,Nat.reduceAdd,R,aS,an.len cI,f,h,m,k,e,i,decide_true];exact aG.2 ⟨by simp,rfl⟩
  ·simp-implicitDefEqProofs(disch:=try exact ai)only[kK,Nat.reduceAdd,R,aS,an.len cI,f,h,decide_true,decide_false];exact aG.2 ⟨by rw[hX,fc.2 (.inr aa)],rfl⟩
 ·simp-implicitDefEqProofs(disch:=try exact ai)only[kK,R,aS,f,decide_false];exact aG.2 ⟨by rw[hX,fc.2 (.inl aa)],rfl⟩
def Kj{x:bj}{v:ae}{f:Nat}{c:bH}(az:x.ay[f]? =D c)(r:∀g∈x.ay,g.vars.length<=1000000000)(hm:c.vars.all (dE x.bV.length)=C)(hlen:c.ins.length<=1000000000){a b cc d:ae}{zX:Nat}{L4:ae->ae->ad->O}{Q:ae->ad->Prop}{N:Nat}:
  ∀(j k m:Nat) (H:ad),k+j=c.ins.length->j<m->H.get zX=D (.row Z 5 [[a,b,cc,d,J X x.main]])->cM H ok x (.agg [a,b,cc,d,J X x.main])->aO fD H ok c.ins v->
  ((c.ins.drop k).all (dy x f c)=Z->∀H',av H H'->Q (A Z) H')->((c.ins.drop k).all (dy x f c)=C->∀H',av H H'->W (n1 (aQ P aK) N L4 (.ptr zX 0 0) (J X f) v H') Q)->
  W (tD (aQ P aK) N L4 m (.ptr zX 0 0) (J X f) v (J X k) H) Q
 |_,_,0,_,_,t,_,_,_,_,_=>aa
 |0,k,m+1,H,s,_,aS,aA,h,l,dh=>by
  have o:¬(k:Int)<(c.ins.length:Int):=aa;have:=dh (by rw[List.drop_of_length_le aa];rfl) H (av.refl _);simp-implicitDefEqProofs(disch:=try exact ai)only[kK,mj,xO,tD,aj,aC,br,h.len eA,o,decide_false];exact this
 |j+1,k,m+1,H,s,t,aS,aA,h,l,dh=>by
  have o:(k:Int)<(c.ins.length:Int):=aa;have i:k<c.ins.length:=aa;obtain⟨p,z,u,w,y⟩:=h.agg (K:=fD) eA Me (j:=(k:Int)) (a:=c.ins[k]) aa (by simp[i]);simp-implicitDefEqProofs(disch:=try exact ai)only[kK,mj,xO,tD,aj,aC,br,h.len eA,o,decide_true,u,w,cH aS];refine aZ (abh aA ⟨_,rfl,y⟩ f az r hm) ?_;rintro _ H1 ⟨rfl,e⟩;refine⟨e.1,?_⟩;cases q:dy x f c c.ins[k]with
  |false=>
   simp-implicitDefEqProofs(disch:=try exact ai)only[aj,Bool.not_false];exact aG.2 (l (by rw[List.drop_eq_getElem_cons i,List.all_cons,q];rfl) H1 e)
  |true=>
   simp-implicitDefEqProofs(disch:=try exact ai)only[aj,aC,Bool.not_true,cq (show k<=1000000000 by omega)];refine Kj az r hm hlen j (k+1) m H1 aa aa (e.get aS) (aA.aE e) (h.aE e) (λn H' p=>l (by rw[List.drop_eq_getElem_cons i,List.all_cons,q,n];rfl) H' (e.trans p)) λn H' p=>dh ?_ H' (e.trans p)
   rw[List.drop_eq_getElem_cons i,List.all_cons,q,n];rfl
def Ui{l:List In}(h:1<=l.length):l[(l.length-1)]? =l.getLast?:=by rw[List.getLast?_eq_getElem?]
def W9{c:bH}{v:ae}{zX f:Nat}{L4:ae->ae->ad->O}{Q:ae->ad->Prop}{N:Nat}(b:aO fD H ok c.ins v)(af:1<=c.ins.length)(hlen:c.ins.length<=1000000000)(s:jj (jI c.ins)=Z->Q (A Z) H)(az:f<=1000000)(dh:jj (jI c.ins)=C->W (L4 (.ptr zX 0 0) (J X ((f+1:Nat):Int)) H) Q):
  W (n1 (aQ P aK) N L4 (.ptr zX 0 0) (J X f) v H) Q:=by
 have l:IntKind.i64.wrap ((c.ins.length:Int)-1)=((c.ins.length-1:Nat):Int):=by rw[wrap_i64 aa aa];omega
 have i:c.ins.length-1<c.ins.length:=aa;have t:jI c.ins=(c.ins[c.ins.length-1]'i).op:=by
  unfold jI;rw[<-Ui af,List.getElem?_eq_getElem i]
 obtain⟨L,n,ro,els,u,k,_,g,e,w,rfl,_⟩:=b.at_ (K:=fD) eA (j:=((c.ins.length-1:Nat):Int)) (a:=c.ins[c.ins.length-1]'i) aa (by simp);have h:H.get L=D (.row ro 6 els):=g;rw[t]at s dh;generalize (c.ins[c.ins.length-1]'i)=z at*;have t1:∀j:Int,(z.op != j)= !(z.op==j):=λ_=>rfl
 cases m:(z.op==16)with
 |true=>
  have d:(z.op != 16)=false:=by rw[t1,m];rfl
  simp-implicitDefEqProofs(disch:=try exact ai)only[n1,mj,R,b.len eA,l,k,h,e,d,cq (show f<=1000000000 by omega)];exact dh (by simp[jj,m])
 |false=>
  have d:(z.op != 16)=true:=by rw[t1,m];rfl
  cases o:(z.op==17)with
  |true=>
   have p:(z.op != 17)=false:=by rw[t1,o];rfl
   simp-implicitDefEqProofs(disch:=try exact ai)only[n1,mj,R,b.len eA,l,k,h,e,d,p,cq (show f<=1000000000 by omega)];exact dh (by simp[jj,o])
  |false=>
   have p:(z.op != 17)=true:=by rw[t1,o];rfl
   cases q:(z.op==18)with
   |true=>
    have r:(z.op != 18)=false:=by rw[t1,q];rfl
    simp-implicitDefEqProofs(disch:=try exact ai)only[n1,mj,R,b.len eA,l,k,h,e,d,p,r,cq (show f<=1000000000 by omega)];exact dh (by simp[jj,q])
   |false=>
    have r:(z.op != 18)=true:=by rw[t1,q];rfl
    simp-implicitDefEqProofs(disch:=try exact ai)only[n1,mj,R,b.len eA,l,k,h,e,d,p,r];exact aG.2 (s (by simp[jj,m,o,q]))
def kN(x:bj):List bH->Nat->Bool
 |[],_=>C
 |c::cs,f=>(c.ins.all (dy x f c)&&jj (jI c.ins))&&kN x cs (f+1)
def Ki{x:bj}{a b cc d:ae}{zX:Nat}(v:∀g∈x.ay,g.vars.length<=1000000000)(hm:∀c∈x.ay,c.vars.all (dE x.bV.length)=C)(hlen:∀c∈x.ay,1<=c.ins.length/\c.ins.length<=1000000000)(B:x.ay.length<=1000000){N:Nat}(u:∀c∈x.ay,c.ins.length<N):
  ∀(j k m:Nat) (H:ad),k+j=x.ay.length->j<m->H.get zX=D (.row Z 5 [[a,b,cc,d,J X x.main]])->cM H ok x (.agg [a,b,cc,d,J X x.main])->
  W (tC (aQ P aK) N m (.ptr zX 0 0) (J X k) H) λr H'=>r= A (kN x (x.ay.drop k) k&&hX x)/\av H H'
 |_,_,0,_,_,G,_,_=>aa
 |0,k,m+1,H,E,_,aS,aA=>by
  have t:=aA;obtain⟨_,o,b8,b',w,y,q,af,ah,an,aM⟩:=aA;cases o;cases q;have s:¬(k:Int)<(x.ay.length:Int):=aa;rw[List.drop_of_length_le aa,kN,Bool.true_and];simp-implicitDefEqProofs(disch:=try exact ai)only[tC,xN,aj,aC,aL,Nat.zero_add,br,mP aS,an.len cI,s,decide_false];refine(W_ aS an).mono ?_;rintro r H' ⟨rfl,rfl⟩;exact⟨rfl,av.refl _⟩
 |j+1,k,m+1,H,E,G,aS,aA=>by
  have t:=aA;obtain⟨_,o,b8,b',w,y,q,af,ah,an,aM⟩:=aA;cases o;cases q;have s:(k:Int)<(x.ay.length:Int):=aa;have l:k<x.ay.length:=aa;have i:=List.getElem_mem l;obtain⟨L,n,ro,els,S,O,_,g,e,gv,gw,rfl,bR,b0⟩:=an.at_ (K:=fC) cI (j:=(k:Int)) (a:=x.ay[k]) aa (by simp[l]);have li:aI P H 47 (.ptr L n 6)=D gw:=by
   have z:H.get L=D (.row ro 7 els):=g;simp-implicitDefEqProofs(disch:=try exact ai)only[R,z,e]
  simp-implicitDefEqProofs(disch:=try exact ai)only[tC,xN,aj,aC,aL,Nat.zero_add,br,mP aS,an.len cI,s,decide_true,O,li];rw[List.drop_eq_getElem_cons l,kN];refine Kj (c:=x.ay[k]) (f:=k) (by simp[l]) v (hm _ i) (hlen _ i).2 x.ay[k].ins.length 0 N H aa (u _ i) aS t b0 (λh H' p=> ?_) λh H' p=> ?_
  ·rw[List.drop_zero]at h;exact⟨by rw[h];simp,p⟩
  ·refine W9 (b0.aE p) (hlen _ i).1 (hlen _ i).2 (λal=> ?_) aa λal=> ?_
   ·exact⟨by rw[al];simp,p⟩
   ·refine(Ki v hm hlen B u j (k+1) m H' aa aa (p.get aS) (t.aE p)).mono ?_;rintro r Q ⟨rfl,M⟩;rw[List.drop_zero]at h;exact⟨by rw[h,al];simp,p.trans M⟩
