/-
  Texts of one proof, laid together: Y1 Y2 Y3 Y4 Y5 Y6 Y7.
-/
import Derived.Test.YtghmbpmaafnodaaDoorMJ
set_option linter.unusedVariables false
set_option linter.unusedSimpArgs false
set_option linter.defProp false
open Option renaming some→D,none→Z
open Bool renaming true→X,false→U
open Go.b9.aa renaming int→I,str→Y,bool→C
open Go.IntKind renaming i64→J
namespace Go.Proofs.YtghmbpmaafnodaaDoor
open Go.b9
open Nat (reduceAdd reduceLeDiff)
def bw(H:ae)(r:Nat)(ao:aa)(s:aw):Prop:=H.get r=D (.row U 5 [[ao,I J s.at_,I J s.bP,I J s.aF,I J s.cS]])
structure bI(H:ae)(r:Nat)(T:List Tok)(ao:aa)(s:aw):Prop where
 rd:bw H r ao s
 bx:eS H ao T
def bw.aM{H H':ae}{r:Nat}{ao:aa}{s:aw}(a:bw H r ao s)(p:aO H H'):bw H' r ao s:=p.get a
def bw.lt{H:ae}{r:Nat}{ao:aa}{s:aw}(a:bw H r ao s):r<H.next:=ae.aS a
def bI.mut{H H':ae}{r:Nat}{T:List Tok}{ao:aa}{s s':aw}(h:bI H r T ao s)(m:b5 r H H')(a:bw H' r ao s'):bI H' r T ao s':=
 ⟨a,h.bx.aX λl ro els e=>m.get e (by
  rintro rfl;rw[h.rd]at e;simp only[aU,bO.row.injEq]at e;omega)⟩
def bI.aM{H H':ae}{r:Nat}{T:List Tok}{ao:aa}{s:aw}(h:bI H r T ao s)(p:aO H H'):bI H' r T ao s:=h.mut (p.mut _) (h.rd.aM p)
def eO{H:ae}{r:Nat}{ao:aa}{s:aw}(a:bw H r ao s)(s':aw):b5 r H (H.set r (.row U 5 [[ao,I J s'.at_,I J s'.bP,I J s'.aF,I J s'.cS]]))/\bw (H.set r (.row U 5 [[ao,I J s'.at_,I J s'.bP,I J s'.aF,I J s'.cS]])) r ao s':=
 ⟨cP.cw (S:=(· =r)) (cP.refl _ _) (.inl rfl) _,ae.get_set_same a.lt⟩
def hv{H:ae}{r:Nat}{ao:aa}{s:aw}{T:List Tok}(d:bw H r ao s)(n:eS H ao T):W (aC P az 22 [.ptr r 0 0] H) λv H'=>v=(au T s.at_).v/\aO H H':=by
 unfold bw at d;have o:=ae.aS d;refine cz (λ_=>Jx 0) ?_;by_cases a:s.at_<0
 ·simp-implicitDefEqProofs(disch:=try exact al)only[nc,bf,br,Nat.reduceAdd,Nat.reduceLeDiff,reduceIte,aa.cells,cI,dA,an,cD,aV,cD,c5,dq,n9,n_,d,a,decide_true,bb];exact⟨by simp[au,a,Tok.v,Tok.none],aO.push _ _⟩
 ·rcases n with⟨rfl,rfl⟩|⟨l,i,cap,rfl,k⟩
  ·have c:(0:Int)<=s.at_:=af;simp-implicitDefEqProofs(disch:=try exact al)only[nc,bf,br,Nat.reduceAdd,Nat.reduceLeDiff,reduceIte,aa.cells,cI,dA,an,cD,aV,cD,c5,dq,n9,n_,d,a,c,decide_true,decide_false,bb,u1];exact⟨by simp[au,a,Tok.v,Tok.none,c],aO.push _ _⟩
  ·by_cases c:(T.length:Int)<=s.at_
   ·simp-implicitDefEqProofs(disch:=try exact al)only[nc,bf,br,Nat.reduceAdd,Nat.reduceLeDiff,reduceIte,aa.cells,cI,dA,an,cD,aV,cD,c5,dq,n9,n_,d,a,c,decide_true,decide_false,bb,rR];exact⟨by simp[au,a,Tok.v,Tok.none,c],aO.push _ _⟩
   ·have e:s.at_.toNat<T.length:=af;obtain⟨ro,els,h,m⟩:=k.resolve_left (by rintro rfl;simp at e);have p:=ae.aS h;have j:=m s.at_.toNat T[s.at_.toNat] (by simp[e]);simp only[Tok.cells]at j;simp-implicitDefEqProofs(disch:=try exact al)only[nc,bf,br,Nat.reduceAdd,Nat.reduceLeDiff,reduceIte,aa.cells,cI,dA,an,cD,aV,cD,c5,dq,n9,n_,d,a,c,decide_true,decide_false,bb,rR,uC,h,j];refine⟨?_,aO.push _ _⟩;simp[au,a,c,Tok.v,e]
def jJ{H:ae}{r:Nat}{ao:aa}{s:aw}(a:bw H r ao s):W (aC P az 21 [.ptr r 0 0] H) λv H'=>v= C (s.aF==0)/\H'=H:=by
 unfold bw at a;refine cz (λ_=>Jw 0) ?_;simp-implicitDefEqProofs(disch:=try exact al)only[sk,reduceAdd,reduceLeDiff,reduceIte,ax,a];exact bb.2 ⟨rfl,rfl⟩
def jI{H:ae}{r:Nat}{T:List Tok}{ao:aa}{s:aw}(a:bI H r T ao s)(e:Int):W (aC P az 24 [.ptr r 0 0,I J e] H) λv H'=>v= .tuple []/\b5 r H H'/\bI H' r T ao (cL T e s):=by
 refine cz (λ_=>Jz 0) ?_;have h:=a.rd;have o:=a.bx.one;rw[nf];refine aN (jJ h) ?_;rintro _ H1 ⟨rfl,rfl⟩;refine⟨bk _,?_⟩;by_cases c:s.aF=0
 ·rw[show cL T e s={s with aF:=e,cS:=(au T s.at_).pos} by simp[cL,c]];simp-implicitDefEqProofs(disch:=try exact al)only[nf,bf,br,c,beq_self_eq_true];refine aN (hv h a.bx) ?_;rintro _ k ⟨rfl,d⟩;refine⟨d.1,?_⟩;have i:bw k r ao s:=h.aM d;have j:=i;unfold bw at j;simp-implicitDefEqProofs(disch:=try exact al)only[nf,reduceAdd,reduceLeDiff,reduceIte,ax,Tok.v,j,o];obtain⟨m,n⟩:=eO i {s with aF:=e,cS:=(au T s.at_).pos};exact bb.2 ⟨rfl,(d.mut _).trans m,a.mut ((d.mut _).trans m) n⟩
 ·have l:(s.aF==0)=false:=by simpa using c
  rw[show cL T e s=s by simp[cL,c]];simp-implicitDefEqProofs(disch:=try exact al)only[nf,bf,br,l];exact bb.2 ⟨rfl,cP.refl _ _,a⟩
def uG(s:aJ)(c:UInt8):eD P 9 (Y (c::s)) (I J 0)=D (I .u8 c.toNat):=ah
def vB{H0 H:ae}{r:Nat}{T:List Tok}{ao:aa}{s:aw}(p:aO H0 H)(i:bw H r ao s){b:Nat}(d:H.get b=D (.row U 4 [[I J (au T s.at_).kind,Y (au T s.at_).text,I J (au T s.at_).n,I J (au T s.at_).pos]]))(x:aJ)(k:Int):
  W (nd (aC P az) (.ptr r 0 0) (Y x) (.ptr b 0 0) (I J k) H) λv H'=>v= C (b_ T s k x)/\aO H0 H':=by
 rw[nd];refine aN (jJ i) ?_;rintro _ H1 ⟨rfl,rfl⟩;refine⟨bk _,?_⟩;by_cases a:s.aF=0
 ·by_cases c:(au T s.at_).kind=k
  ·simp-implicitDefEqProofs(disch:=try exact al)only[ki,reduceAdd,reduceLeDiff,reduceIte,ax,a,c,d,beq_self_eq_true];exact bb.2 ⟨by simp[b_,a,c],p⟩
  ·have h:((au T s.at_).kind==k)=false:=by simpa using c
   simp-implicitDefEqProofs(disch:=try exact al)only[ki,reduceAdd,reduceLeDiff,reduceIte,ax,a,h,d,beq_self_eq_true];exact bb.2 ⟨by simp[b_,a,c],p⟩
 ·have e:(s.aF==0)=false:=by simpa using a
  simp-implicitDefEqProofs(disch:=try exact al)only[ki,reduceAdd,reduceLeDiff,reduceIte,ax,e,d];exact bb.2 ⟨by simp[b_,a],p⟩
def dk{H:ae}{r:Nat}{T:List Tok}{ao:aa}{s:aw}(e:bw H r ao s)(m:eS H ao T)(x:aJ)(o:x≠[]):W (aC P az 23 [.ptr r 0 0,Y x] H) λv H'=>v= C (a1 T s x)/\aO H H':=by
 refine cz (λ_=>Jy 0) ?_;obtain⟨c,x,rfl⟩:∃c y,x=c::y:=by cases x with
  |nil=>exact absurd rfl o
  |cons c y=>exact⟨c,y,rfl⟩
 rw[ki];refine aN (hv e m) ?_;rintro _ H1 ⟨rfl,l⟩;refine⟨l.1,?_⟩;have a:=l.bt (.row U 4 [[I J (au T s.at_).kind,Y (au T s.at_).text,I J (au T s.at_).n,I J (au T s.at_).pos]]);have j:=ae.bC H1 (.row U 4 [[I J (au T s.at_).kind,Y (au T s.at_).text,I J (au T s.at_).n,I J (au T s.at_).pos]]);by_cases h:97<=c.toNat
 ·have d:(97:Int)<=(c.toNat:Int):=af;by_cases k:c.toNat<=122
  ·have i:(c.toNat:Int)<=122:=af;rw[show a1 T s (c::x)=b_ T s 3 (c::x) by simp[a1,kw,h,k]];simp-implicitDefEqProofs(disch:=try exact al)only[ki,reduceAdd,reduceLeDiff,reduceIte,ax,Tok.v,uG,d,i,decide_true];exact vB a (e.aM a) j _ 3
  ·have i:¬(c.toNat:Int)<=122:=af;rw[show a1 T s (c::x)=b_ T s 4 (c::x) by simp[a1,kw,h,k]];simp-implicitDefEqProofs(disch:=try exact al)only[ki,reduceAdd,reduceLeDiff,reduceIte,ax,Tok.v,uG,d,i,decide_true,decide_false];exact vB a (e.aM a) j _ 4
 ·have d:¬(97:Int)<=(c.toNat:Int):=af;rw[show a1 T s (c::x)=b_ T s 4 (c::x) by simp[a1,kw,h]];simp-implicitDefEqProofs(disch:=try exact al)only[ki,reduceAdd,reduceLeDiff,reduceIte,ax,Tok.v,uG,d,decide_false];exact vB a (e.aM a) j _ 4
def gf{H:ae}{r:Nat}{T:List Tok}{ao:aa}{s:aw}(a:bI H r T ao s)(x:aJ)(j:x≠[]):W (aC P az 27 [.ptr r 0 0,Y x] H) λv H'=>v= .tuple []/\b5 r H H'/\bI H' r T ao (bl T x s):=by
 refine cz (λ_=>JC 0) ?_;have k:=a.bx.one;rw[ng];refine aN (dk a.rd a.bx x j) ?_;rintro _ H1 ⟨rfl,c⟩;refine⟨c.1,?_⟩;have e:=a.rd.aM c;have h:=e;unfold bw at h;cases d:a1 T s x with
 |false=>
  rw[show bl T x s=cL T 2 s by simp[bl,d]];simp-implicitDefEqProofs(disch:=try exact al)only[ng,reduceAdd,reduceLeDiff,reduceIte,ax,Bool.not_false];refine aN (jI (a.aM c) 2) ?_;rintro _ n ⟨rfl,m2,l⟩;refine⟨m2.1,?_⟩
  try simp only[ng]
  exact bb.2 ⟨rfl,(c.mut _).trans m2,l⟩
 |true=>
  rw[show bl T x s=aD s by simp[bl,d]];simp-implicitDefEqProofs(disch:=try exact al)only[ng,reduceAdd,reduceLeDiff,reduceIte,ax,h,k,Bool.not_true];obtain⟨m,i⟩:=eO e (aD s);exact bb.2 ⟨rfl,(c.mut _).trans m,a.mut ((c.mut _).trans m) i⟩
def oJ{H:ae}{r:Nat}{T:List Tok}{ao:aa}{s:aw}(a:bI H r T ao s)(x:aJ)(k:x≠[]):W (aC P az 77 [.ptr r 0 0,Y x] H) λv H'=>v= .tuple []/\b5 r H H'/\bI H' r T ao (cN T x s):=by
 refine cz (λ_=>J8 0) ?_;have q:=a.bx.one;rw[lb];refine aN (dk a.rd a.bx x k) ?_;rintro _ H1 ⟨rfl,c⟩;refine⟨c.1,?_⟩;have i:=a.aM c;have h:=i.rd;unfold bw at h;have more:cN T x s=eU (bl T x s)->W (aI H1 (aC P az 27 [.ptr r 0 0,Y x] H1) (sM (.ptr r 0 0))) λv H'=>v= .tuple []/\b5 r H H'/\bI H' r T ao (cN T x s):=by
  intro he;rw[he];refine aN (gf i x k) ?_;rintro _ o ⟨rfl,m2,j⟩;refine⟨m2.1,?_⟩;have l:=j.rd;have n:=l;unfold bw at n;simp-implicitDefEqProofs(disch:=try exact al)only[sM,lb,reduceAdd,reduceLeDiff,reduceIte,ax,n,q];obtain⟨m,p⟩:=eO l (eU (bl T x s));exact bb.2 ⟨rfl,((c.mut _).trans m2).trans m,a.mut (((c.mut _).trans m2).trans m) p⟩
 cases e:a1 T s x with
 |false=>
  simp-implicitDefEqProofs(disch:=try exact al)only[lb,reduceAdd,reduceLeDiff,reduceIte,ax];exact more (by simp[cN,e])
 |true=>
  by_cases d:50<=s.bP
  ·rw[show cN T x s=cL T 4 s by simp[cN,e,d]];simp-implicitDefEqProofs(disch:=try exact al)only[lb,reduceAdd,reduceLeDiff,reduceIte,ax,h,d,decide_true];refine aN (jI i 4) ?_;rintro _ o ⟨rfl,m2,j⟩;refine⟨m2.1,?_⟩
   try simp only[lb]
   exact bb.2 ⟨rfl,(c.mut _).trans m2,j⟩
  ·simp-implicitDefEqProofs(disch:=try exact al)only[lb,reduceAdd,reduceLeDiff,reduceIte,ax,h,d,decide_false];exact more (by simp[cN,e,d])
def oG{H:ae}{r:Nat}{T:List Tok}{ao:aa}{s:aw}(a:bI H r T ao s)(x:aJ)(h:x≠[]):W (aC P az 79 [.ptr r 0 0,Y x] H) λv H'=>v= .tuple []/\b5 r H H'/\bI H' r T ao (dn T x s):=by
 refine cz (λ_=>J_ 0) ?_;have i:=a.bx.one;rw[qP];refine aN (gf a x h) ?_;rintro _ k ⟨rfl,m2,j⟩;refine⟨m2.1,?_⟩;have c:=j.rd;have d:=c;unfold bw at d;simp-implicitDefEqProofs(disch:=try exact al)only[qP,reduceAdd,reduceLeDiff,reduceIte,ax,d,i];obtain⟨m,e⟩:=eO c (eo (bl T x s));exact bb.2 ⟨rfl,m2.trans m,a.mut (m2.trans m) e⟩
def lN{H:ae}{r:Nat}{T:List Tok}{ao:aa}{s:aw}(a:bI H r T ao s):W (aC P az 55 [.ptr r 0 0] H) λv H'=>v= Y (bu T s).1/\b5 r H H'/\bI H' r T ao (bu T s).2:=by
 refine cz (λ_=>JU 0) ?_;have q:=a.bx.one;have z:=a.rd.lt;rw[k6];refine aN (hv a.rd a.bx) ?_;rintro _ H1 ⟨rfl,h⟩;refine⟨h.1,?_⟩;have i:=h.bt (.row U 4 [[I J (au T s.at_).kind,Y (au T s.at_).text,I J (au T s.at_).n,I J (au T s.at_).pos]]);have y:=ae.bC H1 (.row U 4 [[I J (au T s.at_).kind,Y (au T s.at_).text,I J (au T s.at_).n,I J (au T s.at_).pos]]);simp-implicitDefEqProofs(disch:=try exact al)only[o2,k6,reduceAdd,reduceLeDiff,reduceIte,ax,Tok.v];have k:=a.aM i;refine aN (jJ k.rd) ?_;rintro _ w ⟨rfl,rfl⟩;refine⟨bk _,?_⟩;have A:=h.1;have o:=a.rd.aM h
 unfold bw at o;have l:bu T s=([],cL T 2 s)->W (aI (H1.push (.row U 4 [[I J (au T s.at_).kind,Y (au T s.at_).text,I J (au T s.at_).n,I J (au T s.at_).pos]])) (aC P az 24 [.ptr r 0 0,I J 2] (H1.push (.row U 4 [[I J (au T s.at_).kind,Y (au T s.at_).text,I J (au T s.at_).n,I J (au T s.at_).pos]]))) o2) λv H'=>v= Y (bu T s).1/\b5 r H H'/\bI H' r T ao (bu T s).2:=by
  intro he;rw[he];refine aN (jI k 2) ?_;rintro _ x ⟨rfl,m4,u⟩;refine⟨m4.1,?_⟩
  try simp only[o2,k6]
  exact bb.2 ⟨rfl,(i.mut _).trans m4,u⟩
 by_cases c:s.aF=0
 ·by_cases j:(au T s.at_).kind=1
  ·have d:(s.aF==0)=true:=by simpa using c
   have e:((au T s.at_).kind==1)=true:=by simpa using j
   rw[show bu T s=((au T s.at_).text,aD s) by simp[bu,c,j]];simp-implicitDefEqProofs(disch:=try exact al)only[o2,k6,reduceAdd,reduceLeDiff,reduceIte,ax,d,e,o,q];obtain⟨m,p⟩:=eO k.rd (aD s);exact bb.2 ⟨rfl,(i.mut _).trans m,a.mut ((i.mut _).trans m) p⟩
  ·have e:((au T s.at_).kind==1)=false:=by simpa using j
   simp-implicitDefEqProofs(disch:=try exact al)only[k6,reduceAdd,reduceLeDiff,reduceIte,ax,c,e,beq_self_eq_true];exact l (by simp[bu,e])
 ·have d:(s.aF==0)=false:=by simpa using c
  simp-implicitDefEqProofs(disch:=try exact al)only[k6,reduceAdd,reduceLeDiff,reduceIte,ax,d];exact l (by simp[bu,d])
def Mb(l:Nat)(a c dI eZ d:Nat):bV P l 131 5 [(0,.aA a 0 1 1 (D 1)),(1,.aA c 0 1 1 (D 1)),(2,.aA dI 0 4 1 (D 4)),(3,.aA eZ 0 2 1 (D 2)),(4,.aA d 0 3 1 (D 3))]=
 D (.aA l 0 5 1 (D 5),.row U 1 [[.aA a 0 1 1 (D 1)],[.aA c 0 1 1 (D 1)],[.aA dI 0 4 1 (D 4)],[.aA eZ 0 2 1 (D 2)],[.aA d 0 3 1 (D 3)]]):=ah
def Mc(l:Nat)(a c dI eZ d:Nat):bV P l 132 5 [(0,.aA a 0 1 1 (D 1)),(1,.aA c 0 1 1 (D 1)),(2,.aA dI 0 4 1 (D 4)),(3,.aA eZ 0 2 1 (D 2)),(4,.aA d 0 3 1 (D 3))]=
 D (.aA l 0 5 1 (D 5),.row U 1 [[.aA a 0 1 1 (D 1)],[.aA c 0 1 1 (D 1)],[.aA dI 0 4 1 (D 4)],[.aA eZ 0 2 1 (D 2)],[.aA d 0 3 1 (D 3)]]):=ah
def Ia{H0 H:ae}(B:aO H0 H){b S K d c:Nat}{t:Tok}(w:H.get b=D (.row U 4 [[I J t.kind,Y t.text,I J t.n,I J t.pos]])){E A:List (List aa)}(i:H.get S=D (.row U 1 E))(F:H.get K=D (.row U 1 A)){lev:Nat}(Q:lev<5)(all:List (aJ×Int))(O:all.length<=1000){cs j:Option Nat}
  (aB:E[lev]? =D [.aA d 0 all.length 1 cs]) (L:A[lev]? =D [.aA c 0 all.length 1 j]) (u:H.get d=D (.row U 1 (all.map λp=>[aa.str p.1]))) (G:H.get c=D (.row U 1 (all.map λp=>[aa.int J p.2]))) (N:Nat):
  ∀(rest pre:List (aJ×Int)),all=pre++rest->∀(n:Nat),rest.length<n->
   W (ku (aC P az) N n (I J lev) (.ptr b 0 0) (.aA S 0 5 1 (D 5)) (.aA K 0 5 1 (D 5)) (I J pre.length) H) λv H'=>v= I J (j8 t.text rest)/\aO H0 H':=by
 have o:(0:Int)<=(lev:Int):=af;have s:(lev:Int)<((5:Nat):Int):=af;have z:((lev:Int)).toNat=lev:=af;have i1:cc P 131 (.aA S 0 5 1 (D 5)) (I J (lev:Int))=D (.ptr S lev 0):=by rw[uA o s,z,Nat.zero_add]
 have i2:cc P 132 (.aA K 0 5 1 (D 5)) (I J (lev:Int))=D (.ptr K lev 0):=by rw[uB o s,z,Nat.zero_add]
 intro rest
 induction rest with
 |nil=>
  intro pre aG n e;obtain⟨n,rfl⟩:∃k,n=k+1:=⟨n-1,by simp at e;omega⟩;have a:¬((pre.length:Int)<(all.length:Int)):=by rw[aG];simp
  simp-implicitDefEqProofs(disch:=try exact al)only[ku,kt,nA,l7,reduceAdd,reduceLeDiff,reduceIte,ax,qX,qY,i1,i,aB,a,decide_false];exact bb.2 ⟨rfl,B⟩
 |cons q rest M=>
  intro pre aG n e;obtain⟨x,k⟩:=q;obtain⟨n,rfl⟩:∃k,n=k+1:=⟨n-1,by simp at e;omega⟩;have a:(pre.length:Int)<(all.length:Int):=by rw[aG];simp;omega
  have y:(0:Int)<=(pre.length:Int):=af;have l:((pre.length:Int)).toNat=pre.length:=af;have m:all[pre.length]? =D (x,k):=by rw[aG];simp
  have i3:cc P 50 (.aA d 0 all.length 1 cs) (I J (pre.length:Int))=D (.ptr d pre.length 0):=by rw[uD y a,l,Nat.zero_add]
  have i4:cc P 51 (.aA c 0 all.length 1 j) (I J (pre.length:Int))=D (.ptr c pre.length 0):=by rw[uE y a,l,Nat.zero_add]
  have g1:(all.map λp=>[aa.str p.1])[pre.length]? =D [Y x]:=by rw[List.getElem?_map,m];rfl
  have g2:(all.map λp=>[aa.int J p.2])[pre.length]? =D [I J k]:=by rw[List.getElem?_map,m];rfl
  cases h:x==t.text with
  |true=>
   simp-implicitDefEqProofs(disch:=try exact al)only[ku,kt,nA,l7,reduceAdd,reduceLeDiff,reduceIte,ax,qX,qY,i1,i2,i3,i4,i,F,aB,L,u,G,g1,g2,w,a,decide_true,h];exact bb.2 ⟨by simp[j8,h],B⟩
  |false=>
   have hw:IntKind.i64.wrap ((pre.length:Int)+1)=((pre++[(x,k)]).length:Int):=by
    have R:pre.length<all.length:=af;rw[wrap_i64 af af];simp
   simp-implicitDefEqProofs(disch:=try exact al)only[ku,kt,nA,l7,reduceAdd,reduceLeDiff,reduceIte,ax,qX,qY,i1,i3,i,aB,u,g1,w,a,decide_true,h,hw];refine(M (pre++[(x,k)]) (by simp[aG]) n (by simp at e;omega)).mono ?_;rintro v H' ⟨rfl,q⟩;exact⟨by simp[j8,h],q⟩
set_option maxHeartbeats 1000000 in
def Be{H:ae}(lev:Nat)(s:lev<5)(t:Tok):W (aC P az 70 [I J lev,t.v] H) λv H'=>v= I J (ez lev t)/\aO H H':=by
 refine cz (λ_=>J7 10) ?_;have o:∀l,dS l t.v=D (.ptr l 0 0,.row U 4 [[I J t.kind,Y t.text,I J t.n,I J t.pos]]):=λl=>hh l _ rfl
 cases d:t.kind != 4 with
 |true=>
  simp-implicitDefEqProofs(disch:=try exact al)only[kt,nA,l7,reduceAdd,reduceLeDiff,reduceIte,ax,o,d];exact bb.2 ⟨by simp[ez,d],aO.push _ _⟩
 |false=>
  simp-implicitDefEqProofs(disch:=try exact al)only[kt,l7,reduceAdd,reduceLeDiff,reduceIte,ax,o,d,Mb,Mc];obtain⟨all,c⟩:∃all,jE[lev]? =D all:=⟨jE[lev]'(by simpa [jE]using s),by simp[jE]⟩;have B:all.length<10:=by
   have:∀a∈jE,a.length<10:=cp;exact this all (List.mem_of_getElem? c)
  have key:∀(bJ:ae),aO H bJ->bJ.get H.next=D (.row U 4 [[I J t.kind,Y t.text,I J t.n,I J t.pos]])->∀(S K h e:Nat) (k j:List (List aa)) (cs m:Option Nat),bJ.get S=D (.row U 1 k)->bJ.get K=D (.row U 1 j)->k[lev]? =D [.aA h 0 all.length 1 cs]->j[lev]? =D [.aA e 0 all.length 1 m]->
    bJ.get h=D (.row U 1 (all.map λp=>[aa.str p.1]))->bJ.get e=D (.row U 1 (all.map λp=>[aa.int J p.2]))->
    W (ku (aC P az) 10 10 (I J lev) (.ptr H.next 0 0) (.aA S 0 5 1 (D 5)) (.aA K 0 5 1 (D 5)) (I J 0) bJ) λv H'=>v= I J (ez lev t)/\aO H H':=by
   intro bJ p A S K h e k j cs m u w x y i z;refine(Ia p A u w s all af x y i z 10 all [] rfl 10 B).mono ?_;rintro v H' ⟨rfl,q⟩;exact⟨by simp[ez,d,c],q⟩
  have i:lev=0\/lev=1\/lev=2\/lev=3\/lev=4:=af;rcases i with rfl|rfl|rfl|rfl|rfl<;>(simp only[jE,List.getElem?_cons_zero,List.getElem?_cons_succ,aU]at c;subst c)
  ·refine key _ ?_ ?_ (H.next+1+1+1+1+1+1) (H.next+1+1+1+1+1+1+1+1+1+1+1+1) (H.next+1) (H.next+1+1+1+1+1+1+1) [[.aA (H.next+1) 0 1 1 (D 1)],[.aA (H.next+1+1) 0 1 1 (D 1)],[.aA (H.next+1+1+1) 0 4 1 (D 4)],[.aA (H.next+1+1+1+1) 0 2 1 (D 2)],[.aA (H.next+1+1+1+1+1) 0 3 1 (D 3)]] [[.aA (H.next+1+1+1+1+1+1+1) 0 1 1 (D 1)],[.aA (H.next+1+1+1+1+1+1+1+1) 0 1 1 (D 1)],[.aA (H.next+1+1+1+1+1+1+1+1+1) 0 4 1 (D 4)],[.aA (H.next+1+1+1+1+1+1+1+1+1+1) 0 2 1 (D 2)],[.aA (H.next+1+1+1+1+1+1+1+1+1+1+1) 0 3 1 (D 3)]] (D 1) (D 1) ?_ ?_ rfl rfl ?_ ?_
   ·exact((((((((((((aO.push H _).bt _).bt _).bt _).bt _).bt _).bt _).bt _).bt _).bt _).bt _).bt _).bt _
   all_goals (simp-implicitDefEqProofs(disch:=try exact al)only[dq];try rfl)
  ·refine key _ ?_ ?_ (H.next+1+1+1+1+1+1) (H.next+1+1+1+1+1+1+1+1+1+1+1+1) (H.next+1+1) (H.next+1+1+1+1+1+1+1+1) [[.aA (H.next+1) 0 1 1 (D 1)],[.aA (H.next+1+1) 0 1 1 (D 1)],[.aA (H.next+1+1+1) 0 4 1 (D 4)],[.aA (H.next+1+1+1+1) 0 2 1 (D 2)],[.aA (H.next+1+1+1+1+1) 0 3 1 (D 3)]] [[.aA (H.next+1+1+1+1+1+1+1) 0 1 1 (D 1)],[.aA (H.next+1+1+1+1+1+1+1+1) 0 1 1 (D 1)],[.aA (H.next+1+1+1+1+1+1+1+1+1) 0 4 1 (D 4)],[.aA (H.next+1+1+1+1+1+1+1+1+1+1) 0 2 1 (D 2)],[.aA (H.next+1+1+1+1+1+1+1+1+1+1+1) 0 3 1 (D 3)]] (D 1) (D 1) ?_ ?_ rfl rfl ?_ ?_
   ·exact((((((((((((aO.push H _).bt _).bt _).bt _).bt _).bt _).bt _).bt _).bt _).bt _).bt _).bt _).bt _
   all_goals (simp-implicitDefEqProofs(disch:=try exact al)only[dq];try rfl)
  ·refine key _ ?_ ?_ (H.next+1+1+1+1+1+1) (H.next+1+1+1+1+1+1+1+1+1+1+1+1) (H.next+1+1+1) (H.next+1+1+1+1+1+1+1+1+1) [[.aA (H.next+1) 0 1 1 (D 1)],[.aA (H.next+1+1) 0 1 1 (D 1)],[.aA (H.next+1+1+1) 0 4 1 (D 4)],[.aA (H.next+1+1+1+1) 0 2 1 (D 2)],[.aA (H.next+1+1+1+1+1) 0 3 1 (D 3)]] [[.aA (H.next+1+1+1+1+1+1+1) 0 1 1 (D 1)],[.aA (H.next+1+1+1+1+1+1+1+1) 0 1 1 (D 1)],[.aA (H.next+1+1+1+1+1+1+1+1+1) 0 4 1 (D 4)],[.aA (H.next+1+1+1+1+1+1+1+1+1+1) 0 2 1 (D 2)],[.aA (H.next+1+1+1+1+1+1+1+1+1+1+1) 0 3 1 (D 3)]] (D 4) (D 4) ?_ ?_ rfl rfl ?_ ?_
   ·exact((((((((((((aO.push H _).bt _).bt _).bt _).bt _).bt _).bt _).bt _).bt _).bt _).bt _).bt _).bt _
   all_goals (simp-implicitDefEqProofs(disch:=try exact al)only[dq];try rfl)
  ·refine key _ ?_ ?_ (H.next+1+1+1+1+1+1) (H.next+1+1+1+1+1+1+1+1+1+1+1+1) (H.next+1+1+1+1) (H.next+1+1+1+1+1+1+1+1+1+1) [[.aA (H.next+1) 0 1 1 (D 1)],[.aA (H.next+1+1) 0 1 1 (D 1)],[.aA (H.next+1+1+1) 0 4 1 (D 4)],[.aA (H.next+1+1+1+1) 0 2 1 (D 2)],[.aA (H.next+1+1+1+1+1) 0 3 1 (D 3)]] [[.aA (H.next+1+1+1+1+1+1+1) 0 1 1 (D 1)],[.aA (H.next+1+1+1+1+1+1+1+1) 0 1 1 (D 1)],[.aA (H.next+1+1+1+1+1+1+1+1+1) 0 4 1 (D 4)],[.aA (H.next+1+1+1+1+1+1+1+1+1+1) 0 2 1 (D 2)],[.aA (H.next+1+1+1+1+1+1+1+1+1+1+1) 0 3 1 (D 3)]] (D 2) (D 2) ?_ ?_ rfl rfl ?_ ?_
   ·exact((((((((((((aO.push H _).bt _).bt _).bt _).bt _).bt _).bt _).bt _).bt _).bt _).bt _).bt _).bt _
   all_goals (simp-implicitDefEqProofs(disch:=try exact al)only[dq];try rfl)
  ·refine key _ ?_ ?_ (H.next+1+1+1+1+1+1) (H.next+1+1+1+1+1+1+1+1+1+1+1+1) (H.next+1+1+1+1+1) (H.next+1+1+1+1+1+1+1+1+1+1+1) [[.aA (H.next+1) 0 1 1 (D 1)],[.aA (H.next+1+1) 0 1 1 (D 1)],[.aA (H.next+1+1+1) 0 4 1 (D 4)],[.aA (H.next+1+1+1+1) 0 2 1 (D 2)],[.aA (H.next+1+1+1+1+1) 0 3 1 (D 3)]] [[.aA (H.next+1+1+1+1+1+1+1) 0 1 1 (D 1)],[.aA (H.next+1+1+1+1+1+1+1+1) 0 1 1 (D 1)],[.aA (H.next+1+1+1+1+1+1+1+1+1) 0 4 1 (D 4)],[.aA (H.next+1+1+1+1+1+1+1+1+1+1) 0 2 1 (D 2)],[.aA (H.next+1+1+1+1+1+1+1+1+1+1+1) 0 3 1 (D 3)]] (D 3) (D 3) ?_ ?_ rfl rfl ?_ ?_
   ·exact((((((((((((aO.push H _).bt _).bt _).bt _).bt _).bt _).bt _).bt _).bt _).bt _).bt _).bt _).bt _
   all_goals (simp-implicitDefEqProofs(disch:=try exact al)only[dq];try rfl)
def vC{r:Nat}{T:List Tok}{ao:aa}{H0:ae}{s0:aw}(h:bI H0 r T ao s0){b t:Nat}(l:H0.next<=b)(u:H0.next<=t)(p:b≠t){x:aJ}(d:Nat)(q:d<=1000)(N:Nat):
  ∀(j i:Nat),i+j=d->∀(m:Nat) (H:ae) (s:aw),j<m->b5 r H0 H->bw H r ao s->H.get b=D (.row U 2 [[Y [],I J 0]])->H.get t=D (.row U 2 [[Y x,I J d]])->
   W (l1 (aC P az) N m (.ptr r 0 0) (.ptr b 0 0) (I J d) (.ptr t 0 0) (I J i) H) λv H'=>v= .agg [Y x,I J d]/\b5 r H0 H'/\bI H' r T ao (takeN T [93] j s)
 |0,i,n,0,H,s,hm,mt,a,c,e=>af
 |0,i,n,m+1,H,s,hm,mt,a,c,e=>by
  have k:¬((i:Int)<(d:Int)):=af;have z:=ae.aS c;simp-implicitDefEqProofs(disch:=try exact al)only[l1,fo,gb,gK,gu,g_,gr,ga,reduceAdd,reduceLeDiff,reduceIte,ax,k,decide_false,c,e];exact bb.2 ⟨rfl,mt.cw (.inr l) _,h.mut (mt.cw (.inr l) _) (by
   have:=h.rd.lt;unfold bw at a ⊢;rw[ae.get_set_other af];exact a)⟩
 |j+1,i,n,0,H,s,hm,mt,a,c,e=>af
 |j+1,i,n,m+1,H,s,hm,mt,a,c,e=>by
  have k:((i:Int)<(d:Int)):=af;have A:=h.rd.lt;simp-implicitDefEqProofs(disch:=try exact al)only[l1,fo,gb,gK,gu,g_,gr,ga,reduceAdd,reduceLeDiff,reduceIte,ax,k,decide_true];refine aN (gf (h.mut mt a) [93] (by simp)) ?_;rintro _ o ⟨rfl,m2,w⟩;refine⟨m2.1,?_⟩;have hw:IntKind.i64.wrap ((i:Int)+1)=((i+1:Nat):Int):=by rw[wrap_i64 af af];simp
  simp-implicitDefEqProofs(disch:=try exact al)only[fo,gb,gK,gu,g_,gr,ga,reduceAdd,reduceLeDiff,reduceIte,ax,hw];refine(vC h l u p d q N j (i+1) af m o _ af (mt.trans m2) w.rd (m2.get c af) (m2.get e af)).mono ?_;rintro v H' ⟨rfl,aZ,y⟩;exact⟨rfl,aZ,y⟩
def CU{r:Nat}{T:List Tok}{ao:aa}{H0:ae}{s0:aw}(i:bI H0 r T ao s0){b t:Nat}(q:H0.next<=b)(h:H0.next<=t)(u:b≠t)(d:Nat)(x:d<=1000)(N:Nat)(p:d<N){H:ae}{s:aw}(mt:b5 r H0 H)(n:bw H r ao s)(j:H.get b=D (.row U 2 [[Y [],I J 0]]))
  (k:H.get t=D (.row U 2 [[Y [],I J d]])) {c:Bool} (w:(a1 T s [105,110,116]||a1 T s [98,111,111,108])=c):
  W (gu (aC P az) N (.ptr r 0 0) (.ptr b 0 0) (I J d) (.ptr t 0 0) (C c) H) λv H'=>v= .agg [Y (fl T d s).1.1,I J (fl T d s).1.2]/\b5 r H0 H'/\bI H' r T ao (fl T d s).2:=by
 have G:=i.rd.lt;have F:=ae.aS j;have L:=ae.aS k;have hle:=mt.1;have o:=i.mut mt n;have A:=o.bx.one;cases c with
 |true=>
  rw[show fl T d s=(((au T s.at_).text,(d:Int)),takeN T [93] d (aD s)) by simp[fl,w]];simp-implicitDefEqProofs(disch:=try exact al)only[fo,gb,gu,g_,gr,ga,reduceAdd,reduceLeDiff,reduceIte,ax];refine aN (hv n o.bx) ?_;rintro _ H1 ⟨rfl,e⟩;refine⟨e.1,?_⟩;have a:=e.get k;have l:=ae.aS a;have y:=n.aM e;have m:=y;unfold bw at m;have K:=y.lt;simp-implicitDefEqProofs(disch:=try exact al)only[fo,gb,gu,g_,gr,ga,reduceAdd,reduceLeDiff,reduceIte,ax,Tok.v,a,m,A];simp only[gK];have m2:b5 r H0 (H1.set t (.row U 2 [[Y (au T s.at_).text,I J d]])):=(mt.trans (e.mut _)).cw (.inr h) _;have B:bw (H1.set t (.row U 2 [[Y (au T s.at_).text,I J d]])) r ao s:=by
   unfold bw;rw[ae.get_set_other af];exact m
  obtain⟨m3,z⟩:=eO B (aD s);refine vC i q h u d x N d 0 af N _ _ p (m2.trans m3) z (m3.get ?_ af) (m3.get (ae.get_set_same l) af);rw[ae.get_set_other af];exact e.get j
 |false=>
  rw[show fl T d s=(((bu T s).1,(d:Int)),takeN T [93] d (bu T s).2) by simp[fl,w]];simp-implicitDefEqProofs(disch:=try exact al)only[fo,gb,gu,g_,gr,ga,reduceAdd,reduceLeDiff,reduceIte,ax];refine aN (lN o) ?_;rintro _ H1 ⟨rfl,m1,E⟩;refine⟨m1.1,?_⟩;have a:=m1.get k af;have l:=ae.aS a;simp-implicitDefEqProofs(disch:=try exact al)only[fo,gb,gu,g_,gr,ga,reduceAdd,reduceLeDiff,reduceIte,ax,a];simp only[gK];refine vC i q h u d x N d 0 af N _ _ p ((mt.trans m1).cw (.inr h) _) ?_ ?_ (ae.get_set_same l)
  ·have:=E.rd;unfold bw at this ⊢;rw[ae.get_set_other af];exact this
  ·rw[ae.get_set_other af];exact m1.get j af
def CT{r:Nat}{T:List Tok}{ao:aa}{H0:ae}{s0:aw}(e:bI H0 r T ao s0){b:Nat}(n:H0.next<=b)(d:Nat)(o:d<=1000)(N:Nat)(m:d<N){H:ae}{s:aw}(mt:b5 r H0 H)(c:bw H r ao s)(i:H.get b=D (.row U 2 [[Y [],I J 0]])):
  W (g_ (aC P az) N (.ptr r 0 0) (.ptr b 0 0) (I J d) H) λv H'=>v= .agg [Y (fl T d s).1.1,I J (fl T d s).1.2]/\b5 r H0 H'/\bI H' r T ao (fl T d s).2:=by
 have z:=e.rd.lt;have y:=ae.aS i;have hle:=mt.1;have u:=e.mut mt c;simp-implicitDefEqProofs(disch:=try exact al)only[fo,gb,g_,gr,ga,reduceAdd,reduceLeDiff,reduceIte,ax];have j:=aO.push H (.row U 2 [[Y [],I J d]]);have p:=ae.bC H (.row U 2 [[Y [],I J d]]);refine aN (dk (c.aM j) (u.bx.aM j) _ (by simp)) ?_;rintro _ w ⟨rfl,h⟩;refine⟨h.1,?_⟩;have a:=j.trans h;cases q:a1 T s [105,110,116]with
 |true=>
  simp-implicitDefEqProofs(disch:=try exact al)only[fo,gb,g_,gr,ga,reduceAdd,reduceLeDiff,reduceIte,ax];exact CU e n af af d o N m (mt.trans (a.mut _)) (c.aM a) (a.get i) (h.get p) (by simp[q])
 |false=>
  simp-implicitDefEqProofs(disch:=try exact al)only[fo,gb,g_,gr,ga,reduceAdd,reduceLeDiff,reduceIte,ax];refine aN (dk (c.aM a) (u.bx.aM a) _ (by simp)) ?_;rintro _ x ⟨rfl,k⟩;refine⟨k.1,?_⟩;have l:=a.trans k
  try simp only[fo,gb,g_,gr,ga]
  exact CU e n af af d o N m (mt.trans (l.mut _)) (c.aM l) (l.get i) ((h.trans k).get p) (by simp[q])
def Ji{r:Nat}{T:List Tok}{ao:aa}{H0:ae}{s0:aw}(e:bI H0 r T ao s0){b:Nat}(q:H0.next<=b)(N:Nat)(z:3<N):
  ∀(n d:Nat),n+d=3->∀(m:Nat) (H:ae) (s:aw),n<m->b5 r H0 H->bw H r ao s->H.get b=D (.row U 2 [[Y [],I J 0]])->
   W (l2 (aC P az) N m (.ptr r 0 0) (.ptr b 0 0) (I J d) H) λv H'=>∃p:(aJ×Int)×aw,p=(match gm T n d s with| .inr s'=>(([],0),s')| .inl (d,s')=>fl T d s')/\v= .agg [Y p.1.1,I J p.1.2]/\b5 r H0 H'/\bI H' r T ao p.2:=by
 intro n
 induction n with
 |zero=>
  intro d A m H s hm mt c h;obtain⟨m,rfl⟩:∃k,m=k+1:=⟨m-1,af⟩;have E:d=3:=af;subst E;have l:=e.mut mt c;have G:=e.rd.lt;have F:=ae.aS h;simp only[l2];rw[gr];refine aN (dk c l.bx [91] (by simp)) ?_;rintro _ H1 ⟨rfl,a⟩;refine⟨a.1,?_⟩;have i:=a.get h;cases j:a1 T s [91]with
  |true=>
   simp-implicitDefEqProofs(disch:=try exact al)only[fo,gb,gK,gu,gr,ga,reduceAdd,reduceLeDiff,reduceIte,ax,beq_self_eq_true,Int.cast_ofNat_Int];refine aN (jI (l.aM a) 4) ?_;rintro _ O ⟨rfl,m2,L⟩;refine⟨m2.1,?_⟩;have u:=m2.get i af;have Q:=ae.aS u;simp-implicitDefEqProofs(disch:=try exact al)only[fo,gb,gK,gu,gr,ga,reduceAdd,reduceLeDiff,reduceIte,ax,u];have m3:=((mt.trans (a.mut _)).trans m2).cw (.inr q) (.row U 2 [[Y [],I J 0]]);refine bb.2 ⟨(([],0),cL T 4 s),by simp[gm,j],rfl,m3,e.mut m3 ?_⟩;have:=L.rd;unfold bw at this ⊢;rw[ae.get_set_other af];exact this
  |false=>
   simp-implicitDefEqProofs(disch:=try exact al)only[fo,gb,gK,gu,gr,ga,reduceAdd,reduceLeDiff,reduceIte,ax];refine(CT e q 3 af N z (mt.trans (a.mut _)) (c.aM a) i).mono ?_;rintro v H' ⟨rfl,aZ,o⟩;exact⟨fl T 3 s,by simp[gm,j],rfl,aZ,o⟩
 |succ n M=>
  intro d A m H s hm mt c h;obtain⟨m,rfl⟩:∃k,m=k+1:=⟨m-1,af⟩;have l:=e.mut mt c;have G:=e.rd.lt;have F:=ae.aS h;have K:=l.bx.one;simp only[l2];rw[gr];refine aN (dk c l.bx [91] (by simp)) ?_;rintro _ H1 ⟨rfl,a⟩;refine⟨a.1,?_⟩;have i:=a.get h;have w:=c.aM a;have x:=w;unfold bw at x;cases j:a1 T s [91]with
  |true=>
   have y:((d:Int)==3)=false:=by simp;omega
   have hw:IntKind.i64.wrap ((d:Int)+1)=((d+1:Nat):Int):=by rw[wrap_i64 af af];simp
   obtain⟨m2,B⟩:=eO w (aD s);simp-implicitDefEqProofs(disch:=try exact al)only[fo,gb,gK,gu,ga,reduceAdd,reduceLeDiff,reduceIte,ax,y,hw,x,K];refine(M (d+1) af m _ _ af ((mt.trans (a.mut _)).trans m2) B (m2.get i af)).mono ?_;rintro v H' ⟨p,aG,rfl,aZ,o⟩;exact⟨p,by rw[aG];simp[gm,j],rfl,aZ,o⟩
  |false=>
   simp-implicitDefEqProofs(disch:=try exact al)only[fo,gb,gK,gu,ga,reduceAdd,reduceLeDiff,reduceIte,ax];refine(CT e q d af N af (mt.trans (a.mut _)) (c.aM a) i).mono ?_;rintro v H' ⟨rfl,aZ,o⟩;exact⟨fl T d s,by simp[gm,j],rfl,aZ,o⟩
def qH{H:ae}{r:Nat}{T:List Tok}{ao:aa}{s:aw}(a:bI H r T ao s):W (aC P az 53 [.ptr r 0 0] H) λv H'=>v= .agg [Y (cM T s).1.1,I J (cM T s).1.2]/\b5 r H H'/\bI H' r T ao (cM T s).2:=by
 refine cz (λ_=>JT 10) ?_;simp only[fo,gb,gK,gu,ga,cg];have p:=aO.push H (.row U 2 [[Y [],I J 0]]);refine(Ji a (bk _) 10 af 3 0 rfl 10 _ s af (p.mut _) (a.rd.aM p) (ae.bC _ _)).mono ?_;rintro v H' ⟨q,c,rfl,aZ,d⟩;have:q=cM T s:=by rw[c];rfl
 subst this;exact⟨rfl,aZ,d⟩
def jY(ok:Nat->Prop)(H:ae)(r:Nat)(T:List Tok)(ao:aa)(e:aL)(s':aw)(v:aa)(H':ae):Prop:=b5 r H H'/\bI H' r T ao s'/\cu H' ok e v
abbrev dB(H:ae):=jY (bg H.next) H
def dB.box{H c:ae}{r:Nat}{T:List Tok}{ao:aa}{s s':aw}{a:bM}{ks:List aL}{kv:aa}{b:Nat}{lo:Nat}(h:bI H r T ao s)(m:b5 r H c)(e:bw c r ao s')(i:H.next<=b)(n:b<lo)(j:b8 c (bg lo) ks kv)(d:bO):
  dB H r T ao (.mk a ks) s' (.agg (a.cells kv)) (c.set b d):=by
 have k:=h.rd.lt;have m':=m.cw (.inr i) d;refine⟨m',h.mut m' ?_,?_⟩
 ·unfold bw at e ⊢;rw[ae.get_set_other af];exact e
 ·rw[gO];exact⟨kv,rfl,j.aX (c9.set _ (by unfold bg;omega) λl k=>by unfold bg at*;omega)⟩
def jY.fin{ok:Nat->Prop}{H bJ:ae}{r:Nat}{T:List Tok}{ao:aa}{s s':aw}{a:bM}{ks:List aL}{kv:aa}(e:bI H r T ao s)(m:b5 r H bJ)(c:bw bJ r ao s')(d:b8 bJ ok ks kv):jY ok H r T ao (.mk a ks) s' (.agg (a.cells kv)) bJ:=
 ⟨m,e.mut m c,gO.2 ⟨kv,rfl,d⟩⟩
def dB.ret{H a:ae}{r:Nat}{T:List Tok}{ao:aa}{s s':aw}{e:aL}{v:aa}{b n:Nat}(i:bI H r T ao s)(m:b5 r H a)(d:bw a r ao s')(j:H.next<=b)(he:cu a (bg n) e v)(k:b<n)(c:bO):dB H r T ao e s' v (a.set b c):=by
 have o:=i.rd.lt;have m':=m.cw (.inr j) c;refine⟨m',i.mut m' ?_,he.new (cP.cw (S:=(· <n)) (cP.refl _ _) (.inl k) _) λl h=>by unfold bg;omega⟩;unfold bw at d ⊢;rw[ae.get_set_other af];exact d
def jq(n:Nat):Prop:=∀{H:ae} {r:Nat} {T:List Tok} {ao:aa} {s:aw},bI H r T ao s->∀(lev:Nat),lev<=5->∀(e:aL) (s':aw),dP T n lev s=D (e,s')->W (aC P az 40 [.ptr r 0 0,I J lev] H) (dB H r T ao e s')
def tn(n:Nat):Prop:=∀{H:ae} {r:Nat} {T:List Tok} {ao:aa} {s:aw},bI H r T ao s->∀(e:aL) (s':aw),jl T n s=D (e,s')->W (aC P az 69 [.ptr r 0 0] H) (dB H r T ao e s')
def s9(n:Nat):Prop:=∀{ok:Nat->Prop} {H:ae} {r:Nat} {T:List Tok} {ao:aa} {s:aw} {e:aL} {v:aa},bI H r T ao s->cu H ok e v->¬ok r->(∀l,H.next<=l->ok l)->∀(a:aL) (s':aw),fh T n e s=D (a,s')->W (aC P az 82 [.ptr r 0 0,v] H) (jY ok H r T ao a s')
def mh(n:Nat):Prop:=∀{H:ae} {r:Nat} {T:List Tok} {ao:aa} {s:aw},bI H r T ao s->∀(e:aL) (s':aw),gT T n s=D (e,s')->W (aC P az 92 [.ptr r 0 0] H) (dB H r T ao e s')
def tb(n:Nat):Prop:=∀{H:ae} {r:Nat} {T:List Tok} {ao:aa} {s:aw},bI H r T ao s->∀(e:aL) (s':aw),hJ T n s=D (e,s')->W (aC P az 83 [.ptr r 0 0] H) (dB H r T ao e s')
def pw(n:Nat):Prop:=∀{H:ae} {r:Nat} {T:List Tok} {ao:aa} {s:aw},bI H r T ao s->∀(pos:Int) (e:aL) (s':aw),j5 T n pos s=D (e,s')->W (aC P az 91 [.ptr r 0 0,I J pos] H) (dB H r T ao e s')
def pr(n:Nat):Prop:=∀{H:ae} {r:Nat} {T:List Tok} {ao:aa} {s:aw},bI H r T ao s->∀(l:List aL) (s':aw),h1 T n s=D (l,s')->W (aC P az 93 [.ptr r 0 0] H) λv H'=>b5 r H H'/\bI H' r T ao s'/\b8 H' (bg H.next) l v
structure E7(n:Nat):Prop where
 expr:jq n
 unary:tn n
 behind:s9 n
 inner:mh n
 first:tb n
 fresh:pw n
 args:pr n
def HD{n:Nat}(K:jq n):mh (n+1):=by
 intro H r T ao s a e s' h;refine cz (λ_=>Kg 0) ?_;have O:=a.rd.lt;have q:=aO.push H (.row U 11 [[I J 0,I J 0,Y [],Y [],I J 0,.ar,I J 0,I J 0,I J 0,I J 0,I J 0]]);simp only[gT,cR]at h;obtain⟨⟨w,s1⟩,x,i⟩:=h;simp only[aU,bY]at i;obtain⟨rfl,rfl⟩:=i;simp-implicitDefEqProofs(disch:=try exact al)only[nF,reduceAdd,reduceLeDiff,reduceIte,ax];refine aN (oJ (a.aM q) [40] (by simp)) ?_;rintro _ u ⟨rfl,m2,E⟩;refine⟨m2.1,?_⟩;have y:=m2.get (ae.bC H _) af;have L:=(q.mut (· =r)).trans m2;simp-implicitDefEqProofs(disch:=try exact al)only[nF,reduceAdd,reduceLeDiff,reduceIte,ax]
 refine aN (K E 0 af w s1 x) ?_;rintro v d ⟨m3,F,m⟩;refine⟨m3.1,?_⟩;have j:=m3.get y af;have P:=ae.aS j;obtain⟨cs,rfl,hlen,o⟩:=m.cells;have p:List.take 11 cs=cs:=List.take_of_length_le af;simp-implicitDefEqProofs(disch:=try exact al)only[nF,reduceAdd,reduceLeDiff,reduceIte,ax,hlen,o,List.append_nil,p];have c:=aO.push d (.row U 11 [cs]);refine aN (oG (F.aM c) [41] (by simp)) ?_;rintro _ M ⟨rfl,m5,G⟩;refine⟨m5.1,?_⟩;have k:=m5.get (c.get j) af;have Q:=ae.aS k;have z:=m5.get (ae.bC d (.row U 11 [cs])) af;have B:=m2.1;simp only[ae.bT]at B;simp-implicitDefEqProofs(disch:=try exact al)only[nF,reduceAdd,reduceLeDiff,reduceIte,ax,hlen,o,List.append_nil,p,k,z]
 refine bb.2 (dB.ret a (((L.trans m3).trans (c.mut _)).trans m5) G.rd (bk _) (n:=u.next) (m.new ?_ λ_ h=>h) af _);exact((aO.push _ _).mut _).trans ⟨m5.1,λl A N=>m5.2 l A af⟩
def Hh{n:Nat}(ad:mh n):pw (n+1):=by
 intro H r T ao s c pos e s' h;refine cz (λ_=>Kf 0) ?_;have ai:=c.rd.lt;have R:=c.bx.one;have K:=aO.push H (.row U 11 [[I J 0,I J 0,Y [],Y [],I J 0,.ar,I J 0,I J 0,I J 0,I J 0,I J 0]]);simp-implicitDefEqProofs(disch:=try exact al)only[kz,reduceAdd,reduceLeDiff,reduceIte,ax];have q:=c.aM K;refine aN (dk q.rd q.bx [91] (by simp)) ?_;rintro _ ag ⟨rfl,k⟩;refine⟨k.1,?_⟩;have G:=q.aM k;have o:=k.get (ae.bC H (.row U 11 [[I J 0,I J 0,Y [],Y [],I J 0,.ar,I J 0,I J 0,I J 0,I J 0,I J 0]]))
 have am:=ae.aS o;have j:=(K.trans k).mut (· =r);simp only[j5]at h;cases B:a1 T s [91]with
 |true=>
  simp only[B,aY,cR]at h;obtain⟨⟨M,s1⟩,N,x⟩:=h;simp only[aU,bY]at x;obtain⟨rfl,rfl⟩:=x;have i:=G.rd;have F:=i;unfold bw at F;obtain⟨m3,O⟩:=eO i (aD s);simp-implicitDefEqProofs(disch:=try exact al)only[kz,reduceAdd,reduceLeDiff,reduceIte,ax,F,R,Bool.not_true];refine aN (qH (c.mut (j.trans m3) O)) ?_;rintro _ m ⟨rfl,m5,u⟩;refine⟨m5.1,?_⟩;have d:=m5.get (m3.get o af) af;have Q:=ae.aS d;simp-implicitDefEqProofs(disch:=try exact al)only[kz,reduceAdd,reduceLeDiff,reduceIte,ax];have w:=aO.push m (.row U 2 [[Y (cM T (aD s)).1.1,I J (cM T (aD s)).1.2]]);have W:=ae.bC m (.row U 2 [[Y (cM T (aD s)).1.1,I J (cM T (aD s)).1.2]])
  refine aN (gf (u.aM w) [93] (by simp)) ?_;rintro _ ah ⟨rfl,m8,aa⟩;refine⟨m8.1,?_⟩;have y:=m8.get (w.get d) af;have p:=m8.get W af;have aj:=ae.aS y;have an:=ae.aS p;simp-implicitDefEqProofs(disch:=try exact al)only[kz,reduceAdd,reduceLeDiff,reduceIte,ax];refine aN (ad aa M s1 N) ?_;rintro v L ⟨m9,ab,A⟩;refine⟨m9.1,?_⟩;have z:=m9.get y af;have E:=m9.get p af;have ak:=ae.aS z;have ap:=ae.aS E;have aq:=m9.1;obtain⟨cs,rfl,hlen,V⟩:=A.cells;have aB:∀l,bV P l 41 1 [(0,.agg cs)]=D (.aA l 0 1 11 (D 1),.row U 11 [cs]):=λl=>jh l cs hlen V
  replace j:=((((j.trans m3).trans m5).trans (w.mut _)).trans m8).trans m9;have i:=ab.rd;unfold bw at i;simp-implicitDefEqProofs(disch:=try exact al)only[kz,reduceAdd,reduceLeDiff,reduceIte,ax,aB,z,E,p];refine bb.2 ?_;refine jY.fin (ok:=bg H.next) (a:={kind:=9,cf:=(cM T (aD s)).1.1,c4:=(cM T (aD s)).1.2,pos:=pos}) (kv:= .aA L.next 0 1 11 (D 1)) (s':=s1) c ?_ ?_ (b8.mO (ro:=false) ?_ (by unfold bg;omega) (A.new ?_ λl h=>by unfold bg;omega))
  ·(repeat (first|exact j|refine cP.bt ?_ _|refine cP.cw (S:=(· =r)) ?_ (.inl rfl) _|refine cP.cw ?_ (.inr (by(first|omega|(simp only[ae.bT,ae.dj];omega)))) _))
  ·(unfold bw;simp-implicitDefEqProofs(disch:=try exact al)only[dq,i,aD,eo,eU])
  ·simp-implicitDefEqProofs(disch:=try exact al)only[dq]
  ·exact cP.cw (S:=λl=>l<_) ((cP.refl _ _).bt _) (.inl af) _
 |false=>
  simp only[B,aT,aU,bY]at h;obtain⟨rfl,rfl⟩:=h;simp-implicitDefEqProofs(disch:=try exact al)only[kz,reduceAdd,reduceLeDiff,reduceIte,ax,Bool.not_false];refine aN (lN G) ?_;rintro _ m ⟨rfl,m5,u⟩;refine⟨m5.1,?_⟩;have d:=m5.get o af;have Q:=ae.aS d;simp-implicitDefEqProofs(disch:=try exact al)only[kz,reduceAdd,reduceLeDiff,reduceIte,ax,d];refine bb.2 ?_;exact dB.box (a:={kind:=8,cf:=(bu T s).1,pos:=pos}) (kv:= .ar) (lo:=H.next+1) c (j.trans m5) u.rd (bk _) (Nat.lt_succ_self _) (b8.nil _ _) _
def xj{N:Nat}(R:∀k,k<N->jq k){H0:ae}{r:Nat}{T:List Tok}{ao:aa}{s0:aw}(p:bI H0 r T ao s0):
  ∀(n m:Nat),n<N->n<m->∀(H:ae) (s:aw) (l:List aL) (L:Nat) (els:List (List aa)),b5 r H0 H->bw H r ao s->l.length+n<=1000000000->H.get L=D (.row U 11 els)->H0.next<=L->els.length=l.length->
   dd H (λk=>H0.next<=k/\k≠L) l els->∀(l':List aL) (s':aw),gS T n l s=D (l',s')->
   W (nH (aC P az) N m (.ptr r 0 0) (.aA L 0 l.length 11 Z) H) λv H'=>b5 r H0 H'/\bI H' r T ao s'/\b8 H' (bg H0.next) l' v
 |0,m,E,hm,H,s,l,L,els,d,w,hlen,u,q,j,z,l',s',h=>by simp[gS]at h
 |n+1,0,E,hm,H,s,l,L,els,d,w,hlen,u,q,j,z,l',s',h=>af
 |n+1,m+1,E,hm,H,s,l,L,els,d,w,hlen,u,q,j,z,l',s',h=>by
  have aE:=p.rd.lt;have ak:=p.bx.one;have aF:=ae.aS u;have hle:=d.1;have O:=p.mut d w;simp only[gS]at h;simp only[nH];rw[nG];refine aN (dk w O.bx [44] (by simp)) ?_;rintro _ H1 ⟨rfl,a⟩;refine⟨a.1,?_⟩;have Q:=O.aM a;have A:=a.get u;have aG:=ae.aS A;have F:=z.aX (c9.aM a λ_ h=>h) l els;cases M:a1 T s [44]with
  |false=>
   simp only[M,aT,aU,bY]at h;obtain⟨rfl,rfl⟩:=h;simp-implicitDefEqProofs(disch:=try exact al)only[hz,nG,hV,reduceAdd,reduceLeDiff,reduceIte,ax];refine aN (oG Q [41] (by simp)) ?_;rintro _ av ⟨rfl,m2,an⟩;refine⟨m2.1,?_⟩
   try simp only[hz,nG,hV]
   refine bb.2 ⟨(d.trans (a.mut _)).trans m2,an,.inr (.inl ⟨L,0,Z,U,els,rfl,q,m2.get A af,?_⟩)⟩;rw[List.drop_zero];exact F.aX (c9.mut m2 af λ_ h=>h.1) l els
  |true=>
   simp only[M,aY,cR]at h;obtain⟨⟨i,s1⟩,S,V⟩:=h;have B:=Q.rd;have K:=B;unfold bw at K;have aI:=B.lt;obtain⟨m2,ad⟩:=eO B (aD s);simp-implicitDefEqProofs(disch:=try exact al)only[hz,nG,hV,reduceAdd,reduceLeDiff,reduceIte,ax,K,ak];refine aN (R n af (p.mut ((d.trans (a.mut _)).trans m2) ad) 0 af i s1 S) ?_;rintro v c ⟨m3,ap,y⟩;refine⟨m3.1,?_⟩;have G:=m3.get (m2.get A af) af;have aH:=ae.aS G;have aJ:=a.1;have aj:=m3.1;simp only[ae.dj]at aj y;have ag:=F.aX (c9.mut (m2.trans m3) af λ_ h=>h) l els;obtain⟨cs,rfl,ah,am⟩:=y.cells;have aB:∀l,bV P l 41 1 [(0,.agg cs)]=D (.aA l 0 1 11 (D 1),.row U 11 [cs]):=λl=>jh l cs ah am
   simp-implicitDefEqProofs(disch:=try exact al)only[hz,hV,reduceAdd,reduceLeDiff,reduceIte,ax,aB];have au:=aO.push c (.row U 11 [cs]);rw[FW (ae.bC c (.row U 11 [cs])) (au.get G) j af,eI (by simp only[ae.bT,ae.dj];omega)];simp only[ae.bT,ae.dj,hz,hV];have ai:l.length+1=(l++[i]).length:=by simp
   rw[ai];have x:∀k,k<c.next->k≠L->(((c.push (.row U 11 [cs])).set L .dead).push (.row U 11 (els++[cs]))).get k=c.get k:=λk o ay=>by
    rw[ae.dp (by simp only[ae.bT,ae.dj];omega),ae.get_set_other af,ae.dp af]
   have aq:b5 r H0 (((c.push (.row U 11 [cs])).set L .dead).push (.row U 11 (els++[cs]))):=((((d.trans (a.mut _)).trans m2).trans m3).bt _|>.cw (.inr q) _).bt _;refine xj R p n m af af _ s1 (l++[i]) (c.next+1) (els++[cs]) aq ?_ (by simp;omega) ?_ af (by simp[j]) ?_ l' s' V
   ·have:=ap.rd;unfold bw at this ⊢;rw[x r af af];exact this
   ·exact ae.rC (by simp only[ae.bT,ae.dj];omega) (by simp only[ae.bT,ae.dj];omega)
   ·refine dd.append l els i cs ?_ j ?_
    ·exact ag.aX (λk ro es o e=>⟨⟨o.1,by have:=ae.aS e;omega⟩,by rw[x k (ae.aS e) o.2];exact e⟩) l els
    ·exact y.aX (λk ro es o e=>by
      have ab:=ae.aS e;unfold bg at o;exact⟨⟨af,af⟩,by rw[x k ab af];exact e⟩) i _
def F9{n:Nat}(Q:n<=900000000)(x:∀k,k<=n->jq k):pr (n+1):=by
 intro H r T ao s e l s' h;refine cz (λ_=>Kh (n+1)) ?_;have K:=e.rd.lt;simp only[h1]at h;rw[hV];refine aN (oJ e [40] (by simp)) ?_;rintro _ H1 ⟨rfl,m1,i⟩;refine⟨m1.1,?_⟩;simp-implicitDefEqProofs(disch:=try exact al)only[hz,hV,reduceAdd,reduceLeDiff,reduceIte,ax];refine aN (dk i.rd i.bx [41] (by simp)) ?_;rintro _ F ⟨rfl,c⟩;refine⟨c.1,?_⟩;have w:=i.aM c;have y:=m1.trans (c.mut _);cases q:a1 T (cN T [40] s) [41]with
 |true=>
  simp only[q,aY,aU,bY]at h;obtain⟨rfl,rfl⟩:=h;simp-implicitDefEqProofs(disch:=try exact al)only[hz,hV,reduceAdd,reduceLeDiff,reduceIte,ax];refine aN (oG w [41] (by simp)) ?_;rintro _ a ⟨rfl,m3,j⟩;refine⟨m3.1,?_⟩
  try simp only[hz,hV]
  exact bb.2 ⟨y.trans m3,j,b8.nil _ _⟩
 |false=>
  simp only[q,aT,cR]at h;obtain⟨⟨d,s1⟩,z,A⟩:=h;simp-implicitDefEqProofs(disch:=try exact al)only[hz,hV,reduceAdd,reduceLeDiff,reduceIte,ax];refine aN (x n (bk _) w 0 af d s1 z) ?_;rintro v a ⟨m3,j,o⟩;refine⟨m3.1,?_⟩;have L:=m1.1;have M:=c.1;have O:=m3.1;obtain⟨cs,rfl,B,E⟩:=o.cells;have aB:∀l,bV P l 41 1 [(0,.agg cs)]=D (.aA l 0 1 11 (D 1),.row U 11 [cs]):=λl=>jh l cs B E
  simp-implicitDefEqProofs(disch:=try exact al)only[hz,hV,reduceAdd,reduceLeDiff,reduceIte,ax,aB];have m:=(aO.push a (.row U 11 [cs])).bt (.row U 11 [cs]);rw[FV (ae.bC a (.row U 11 [cs])),eI (by simp only[ae.bT];omega)];simp only[ae.bT,hz,hV];refine xj (N:=n+1) (λk u=>x k af) e n (n+1) af af _ s1 [d] (a.next+1) [cs] ((y.trans m3).trans (m.mut _)) (j.rd.aM m) (by simp;omega) ?_ af rfl ?_ l s' A
  ·exact ae.rC (by simp only[ae.bT];omega) (by simp only[ae.bT];omega)
  ·rw[dd,dd];exact⟨o.aX (λk ro es u p=>by
    have G:=ae.aS p;unfold bg at u;exact⟨⟨af,af⟩,m.get p⟩) d _,trivial⟩
def tL{N B:Nat}(ap:∀k,k<B->jq k){ok:Nat->Prop}{H0:ae}{r:Nat}{T:List Tok}{ao:aa}{s0:aw}(x:bI H0 r T ao s0)(R:¬ok r)(F:∀l,H0.next<=l->ok l):
  ∀(n m:Nat),n<=B->n<m->∀(H:ae) (s:aw) (e:aL) (cs o:List aa),b5 r H0 H->bw H r ao s->H.get (H0.next+1)=D (.row U 11 [o])->o.length=11->H.get H0.next=D (.row U 11 [cs])->
   cu H (λl=>ok l/\l≠H0.next/\l≠H0.next+1) e (.agg cs)->∀(a:aL) (s':aw),fh T n e s=D (a,s')->
   W (l8 (aC P az) N m (.ptr r 0 0) (.ptr H0.next 0 0) (.ptr (H0.next+1) 0 0) H) (jY ok H0 r T ao a s')
 |0,m,aR,hm,H,s,e,cs,o,y,j,E,S,A,he,a,s',h=>by simp[fh]at h
 |n+1,0,aR,hm,H,s,e,cs,o,y,j,E,S,A,he,a,s',h=>af
 |n+1,m+1,aR,hm,H,s,e,cs,o,y,j,E,S,A,he,a,s',h=>by
  have bK:=x.rd.lt;have br:=x.bx.one;have G:=x.mut y j;have bL:=ae.aS A;have bN:=ae.aS E;have hle:=y.1;obtain⟨bH,bi,hlen,ai⟩:=he.cells;cases bi;have am:List.take 11 cs=cs:=List.take_of_length_le af;have bm:List.drop 11 o=[]:=List.drop_of_length_le af;have a6:List.drop 11 cs=[]:=List.drop_of_length_le af;have bs:=he.same;simp only[fh]at h;simp only[l8];rw[qQ];refine aN (dk j G.bx [46] (by simp)) ?_;rintro _ H1 ⟨rfl,z⟩;refine⟨z.1,?_⟩;have fin:∀bJ,aO H bJ->(a,s')=(e,s)->W (nD (aC P az) N (.ptr H0.next 0 0) (.ptr (H0.next+1) 0 0) bJ) (jY ok H0 r T ao a s'):=by
   intro bJ p bo;cases bo;have aV:=p.get A;have a2:=p.get E;have dI:=ae.aS aV;have eZ:=ae.aS a2;simp-implicitDefEqProofs(disch:=try exact al)only[nD,je,kx,h_,ia,ib,jP,qQ,ic,ie,hU,reduceAdd,reduceLeDiff,reduceIte,ax,aV,a2,hlen,ai,List.append_nil,am,bm];have m':=(y.trans (p.mut _)).cw (.inr (Nat.le_succ _)) (.row U 11 [cs]);refine bb.2 ⟨m',x.mut m' ?_,(he.aX (c9.aM p λ_ h=>h) e _).aX (c9.set _ af λl h=>h.1) e _⟩;have:=j.aM p;unfold bw at this ⊢;rw[ae.get_set_other af];exact this
  have go:∀(ab:ae),aO H ab->(bif a1 T s [46]then fh T n (.mk {kind:=5,name:=(bu T (aD s)).1,pos:=(au T s.at_).pos} [e]) (bu T (aD s)).2 else(dP T n 0 (cN T [91] s)).bind λp=>fh T n (.mk {kind:=6,pos:=(au T s.at_).pos} [e,p.1]) (dn T [93] p.2))=D (a,s')->
    W (jP (aC P az) (l8 (aC P az) N m) ab (.ptr r 0 0) (.ptr H0.next 0 0) (.ptr (H0.next+1) 0 0)) (jY ok H0 r T ao a s'):=by
   intro ab V O;simp only[jP];refine aN (hv (j.aM V) (G.bx.aM V)) ?_;rintro _ ad ⟨rfl,aG⟩;refine⟨aG.1,?_⟩;simp-implicitDefEqProofs(disch:=try exact al)only[ib,ia,h_,reduceAdd,reduceLeDiff,reduceIte,ax,Tok.v];have aH:=(V.trans aG).bt (.row U 4 [[I J (au T s.at_).kind,Y (au T s.at_).text,I J (au T s.at_).n,I J (au T s.at_).pos]]);have bv:=ae.bC ad (.row U 4 [[I J (au T s.at_).kind,Y (au T s.at_).text,I J (au T s.at_).n,I J (au T s.at_).pos]]);refine aN (dk (j.aM aH) (G.bx.aM aH) [46] (by simp)) ?_;rintro _ aK ⟨rfl,aI⟩;refine⟨aI.1,?_⟩;have L:=aH.trans aI
   have aj:=aI.get bv;have bO:=ae.aS aj;have ag:=L.get A;have ah:=L.get E;have bf:=G.aM L;have av:=y.trans (L.mut _);have a7:=he.aX (c9.aM L λ_ h=>h) e _;have bW:H.next<=ad.next:=(V.trans aG).1
   have bY:=ae.aS ag;cases a5:a1 T s [46]with
   |true=>
    simp only[a5,aY]at O;have ak:=bf.rd;have be:=ak;unfold bw at be;have bQ:=ak.lt;obtain⟨m8,bl⟩:=eO ak (aD s);simp-implicitDefEqProofs(disch:=try exact al)only[kx,h_,ia,ib,jP,ic,ie,hU,reduceAdd,reduceLeDiff,reduceIte,ax,be,br];refine aN (lN (x.mut (av.trans m8) bl)) ?_;rintro _ c ⟨rfl,m9,an⟩;refine⟨m9.1,?_⟩;have aq:=m8.trans m9;have aZ:=m8.get ag af;have a0:=m9.get aZ af;have a4:=aq.get ah af;have bc:=m8.get aj af;have bd:=m9.get bc af;have bZ:=ae.aS a0;have b2:=ae.aS a4;have b4:=ae.aS bd;have bh:(aK.set r (.row U 5 [[ao,I J (IntKind.i64.wrap (s.at_+1)),I J s.bP,I J s.aF,I J s.cS]])).get H0.next=D (.row U 11 [cs]):=aZ
    have bz:(aK.set r (.row U 5 [[ao,I J (IntKind.i64.wrap (s.at_+1)),I J s.bP,I J s.aF,I J s.cS]])).get ad.next=D (.row U 4 [[I J (au T s.at_).kind,Y (au T s.at_).text,I J (au T s.at_).n,I J (au T s.at_).pos]]):=bc
    have aB:∀l,bV P l 41 1 [(0,.agg cs)]=D (.aA l 0 1 11 (D 1),.row U 11 [cs]):=λl=>jh l cs hlen ai
    simp-implicitDefEqProofs(disch:=try exact al)only[kx,h_,ia,ib,jP,ic,ie,hU,reduceAdd,reduceLeDiff,reduceIte,ax,a0,bh,bd,bz,aB,am,a6,bs,Bool.and_true,Bool.and_self];simp only[je];have bE:b5 r H0 ((c.push (.row U 11 [cs])).set H0.next (.row U 11 [[I J 5,I J 0,Y (bu T (aD s)).1,Y [],I J 0,.aA c.next 0 1 11 (D 1),I J (au T s.at_).pos,I J 0,I J 0,I J 0,I J 0]])):=((av.trans aq).bt _).cw (.inr (bk _)) _;have i:∀k,k<c.next->k≠H0.next->((c.push (.row U 11 [cs])).set H0.next (.row U 11 [[I J 5,I J 0,Y (bu T (aD s)).1,Y [],I J 0,.aA c.next 0 1 11 (D 1),I J (au T s.at_).pos,I J 0,I J 0,I J 0,I J 0]])).get k=c.get k:=λk bp bq=>by
     rw[ae.get_set_other af,ae.dp af]
    refine tL ap x R F n m af af _ _ _ (bM.cells {kind:=5,name:=(bu T (aD s)).1,pos:=(au T s.at_).pos} (.aA c.next 0 1 11 (D 1))) o bE ?_ ?_ S (ae.get_set_same (by simp only[ae.bT];omega)) ?_ a s' O
    ·have:=an.rd;unfold bw at this ⊢;rw[i r af af];exact this
    ·rw[i _ af af];exact a4
    ·rw[gO];have Q:=a7.mut aq (by rintro⟨h,_⟩;exact R h) λ_ h=>h
     refine⟨_,rfl,b8.mO (ro:=false) ?_ ⟨F _ af,af,af⟩ (Q.aX (λl ro els w u=>⟨w,by rw[i l (ae.aS u) w.2.1];exact u⟩) e _)⟩;rw[ae.get_set_other af];exact ae.bC _ _
   |false=>
    simp only[a5,aT,cR]at O;obtain⟨⟨aP,s1⟩,g1,g2⟩:=O;simp-implicitDefEqProofs(disch:=try exact al)only[je,h_,ia,ib,jP,ic,ie,hU,reduceAdd,reduceLeDiff,reduceIte,ax];refine aN (oJ bf [91] (by simp)) ?_;rintro _ bG ⟨rfl,m8,bD⟩;refine⟨m8.1,?_⟩;simp-implicitDefEqProofs(disch:=try exact al)only[je,h_,ia,ib,jP,ic,ie,hU,reduceAdd,reduceLeDiff,reduceIte,ax];refine aN (ap n af bD 0 af aP s1 g1) ?_;rintro v c ⟨m9,an,Q⟩;refine⟨m9.1,?_⟩;obtain⟨d,rfl,a9,a_⟩:=Q.cells;have bA:List.take 11 d=d:=List.take_of_length_le af;simp-implicitDefEqProofs(disch:=try exact al)only[je,h_,ia,ib,jP,ic,ie,hU,reduceAdd,reduceLeDiff,reduceIte,ax,a9,a_,List.append_nil]
    have ay:=aO.push c (.row U 11 [d]);refine aN (oG (an.aM ay) [93] (by simp)) ?_;rintro _ q ⟨rfl,m12,bB⟩;refine⟨m12.1,?_⟩;have K:=((m8.trans m9).trans (ay.mut _)).trans m12;have aW:=K.get ag af;have a3:=K.get ah af;have ba:=K.get aj af;have bj:=m12.get (ae.bC c (.row U 11 [d])) (by have:=m8.1;have:=m9.1;omega);have bX:=ae.aS aW;have b0:=ae.aS a3;have b3:=ae.aS ba;have aB:∀l,bV P l 41 2 [(0,.agg cs),(1,.agg d)]=D (.aA l 0 2 11 (D 2),.row U 11 [cs,d]):=λl=>vT l cs d hlen ai a9 a_
    simp-implicitDefEqProofs(disch:=try exact al)only[je,h_,ia,ib,jP,ic,ie,hU,reduceAdd,reduceLeDiff,reduceIte,ax,aW,bj,ba,aB,am,bA,a6];simp only[kx];have bF:b5 r H0 ((q.push (.row U 11 [cs,d])).set H0.next (.row U 11 [[I J 6,I J 0,Y [],Y [],I J 0,.aA q.next 0 2 11 (D 2),I J (au T s.at_).pos,I J 0,I J 0,I J 0,I J 0]])):=((av.trans K).bt _).cw (.inr (bk _)) _;have i:∀k,k<q.next->k≠H0.next->((q.push (.row U 11 [cs,d])).set H0.next (.row U 11 [[I J 6,I J 0,Y [],Y [],I J 0,.aA q.next 0 2 11 (D 2),I J (au T s.at_).pos,I J 0,I J 0,I J 0,I J 0]])).get k=q.get k:=λk bp bq=>by
     rw[ae.get_set_other af,ae.dp af]
    refine tL ap x R F n m af af _ _ _ (bM.cells {kind:=6,pos:=(au T s.at_).pos} (.aA q.next 0 2 11 (D 2))) o bF ?_ ?_ S (ae.get_set_same (by simp only[ae.bT];omega)) ?_ a s' g2
    ·have:=bB.rd;unfold bw at this ⊢;rw[i r af af];exact this
    ·rw[i _ af af];exact a3
    ·rw[gO];have bn:=a7.mut K (by rintro⟨h,_⟩;exact R h) λ_ h=>h
     have b1:=ae.aS ah;have bR:=m8.1;have bS:=m9.1;refine⟨_,rfl,b8.wo (ro:=false) ?_ ⟨F _ af,af,af⟩ (bn.aX (λl ro els w u=>⟨w,by rw[i l (ae.aS u) w.2.1];exact u⟩) e _) (Q.aX (λl ro els w u=> ?_) aP _)⟩
     ·rw[ae.get_set_other af];exact ae.bC _ _
     ·unfold bg at w;have a8:=m12.get (ay.get u) af;exact⟨⟨F _ af,af,af⟩,by rw[i l (ae.aS a8) af];exact a8⟩
  cases M:a1 T s [46]with
  |true=>
   simp only[M,aY]at h;simp-implicitDefEqProofs(disch:=try exact al)only[je,kx,h_,ia,ib,ic,ie,hU,reduceAdd,reduceLeDiff,reduceIte,ax];exact go H1 z (by rw[M];exact h)
  |false=>
   simp only[M,aT]at h;simp-implicitDefEqProofs(disch:=try exact al)only[je,kx,h_,ia,ib,ic,ie,hU,reduceAdd,reduceLeDiff,reduceIte,ax];refine iR (dk (j.aM z) (G.bx.aM z) [91] (by simp)) ?_;rintro _ aJ ⟨rfl,aE⟩;refine⟨aE.1,?_⟩;cases aQ:a1 T s [91]with
   |true=>
    simp only[aQ,aY]at h;simp-implicitDefEqProofs(disch:=try exact al)only[je,kx,h_,ia,ib,ic,ie,hU,reduceAdd,reduceLeDiff,reduceIte,ax];exact go aJ (z.trans aE) (by rw[M];exact h)
   |false=>
    simp only[aQ,aT,aU]at h;simp-implicitDefEqProofs(disch:=try exact al)only[je,kx,h_,ia,ib,ic,ie,hU,reduceAdd,reduceLeDiff,reduceIte,ax];exact fin aJ (z.trans aE) h.symm
def Gk{n:Nat}(u:∀k,k<=n->jq k):s9 (n+1):=by
 intro ok H r T ao s e v d he p o i s' h;refine cz (λ_=>Kb (n+2)) ?_;obtain⟨cs,rfl,hlen,q⟩:=he.cells;have j:∀l,dS l (.agg cs)=D (.ptr l 0 0,.row U 11 [cs]):=λl=>by rw[hh l cs q,hlen]
 simp-implicitDefEqProofs(disch:=try exact al)only[hU,ie,ic,reduceAdd,reduceLeDiff,reduceIte,ax,j];have c:=(aO.push H (.row U 11 [cs])).bt (.row U 11 [[I J 0,I J 0,Y [],Y [],I J 0,.ar,I J 0,I J 0,I J 0,I J 0,I J 0]]);refine tL (N:=n+2) (B:=n+1) (λk w=>u k af) d p o (n+1) (n+2) af af _ s e cs [I J 0,I J 0,Y [],Y [],I J 0,.ar,I J 0,I J 0,I J 0,I J 0,I J 0] (c.mut _) (d.rd.aM c) ?_ rfl ?_ ?_ i s' h
 ·simp-implicitDefEqProofs(disch:=try exact al)only[dq]
 ·simp-implicitDefEqProofs(disch:=try exact al)only[dq]
 ·exact he.aX (λl ro els m a=>⟨⟨m,by have:=ae.aS a;omega,by have:=ae.aS a;omega⟩,c.get a⟩) e _
def AJ{T:List Tok}{s:aw}{x:aJ}(h:a1 T s x=X)(a:x≠[]):(au T s.at_).text≠[]:=by
 simp only[a1,b_,Bool.and_eq_true,beq_iff_eq]at h;rw[h.2.2];exact a
def Dj{n:Nat}(L:jq n){H0 H:ae}{r:Nat}{T:List Tok}{ao:aa}{s:aw}(c:bI H0 r T ao s)(i:aO H0 H)(o:H.get H0.next=D (.row U 11 [[I J 0,I J 0,Y [],Y [],I J 0,.ar,I J 0,I J 0,I J 0,I J 0,I J 0]])){b:Nat}(N:H0.next<b)(d:H.get b=D (.row U 4 [[I J (au T s.at_).kind,Y (au T s.at_).text,I J (au T s.at_).n,I J (au T s.at_).pos]]))(B:(au T s.at_).text≠[]){k:Int}
  {j:aL} {s':aw} (h:kB T (n+1) k s=D (j,s')):W (la (aC P az) (.ptr r 0 0) (.ptr H0.next 0 0) (.ptr b 0 0) (I J k) H) (dB H0 r T ao j s'):=by
 have O:=c.rd.lt;have E:=c.bx.one;have G:=c.aM i;have hle:=i.1;have R:=ae.aS d;have ab:=ae.aS o;simp only[kB,cR]at h;obtain⟨⟨z,s1⟩,A,m⟩:=h;simp only[aU,bY]at m;obtain⟨rfl,rfl⟩:=m;simp-implicitDefEqProofs(disch:=try exact al)only[la,iL,h9,reduceAdd,reduceLeDiff,reduceIte,ax,d];refine aN (oJ G _ B) ?_;rintro _ H1 ⟨rfl,m1,K⟩;refine⟨m1.1,?_⟩;simp-implicitDefEqProofs(disch:=try exact al)only[la,iL,h9,reduceAdd,reduceLeDiff,reduceIte,ax];refine aN (L K 5 af z s1 A) ?_;rintro v y ⟨m2,x,q⟩;refine⟨m2.1,?_⟩;have ag:=m1.1;have ah:=m2.1;have m12:=m1.trans m2;have p:=m12.get o af;have w:=m12.get d af;have Q:=ae.aS p
 have V:=ae.aS w;obtain⟨cs,rfl,hlen,u⟩:=q.cells;have F:List.take 11 cs=cs:=List.take_of_length_le af;have aB:∀l,bV P l 41 1 [(0,.agg cs)]=D (.aA l 0 1 11 (D 1),.row U 11 [cs]):=λl=>jh l cs hlen u
 have e:=x.rd;unfold bw at e;have ad:=x.rd.lt;have M:=(i.mut (· =r)).trans m12;simp-implicitDefEqProofs(disch:=try exact al)only[la,iL,h9,reduceAdd,reduceLeDiff,reduceIte,ax,hlen,u,List.append_nil,F,aB,e,E,p,w];refine bb.2 ?_;refine jY.fin (ok:=bg H0.next) (a:={kind:=k,pos:=(au T s.at_).pos}) (kv:= .aA (y.next+1) 0 1 11 (D 1)) (s':=eo s1) c ?_ ?_ (b8.mO (ro:=false) ?_ (by unfold bg;omega) (q.new ?_ λl h=>by unfold bg;omega))
 ·(repeat (first|exact M|refine cP.bt ?_ _|refine cP.cw (S:=(· =r)) ?_ (.inl rfl) _|refine cP.cw ?_ (.inr (by(first|omega|(simp only[ae.bT,ae.dj];omega)))) _))
 ·(unfold bw;simp-implicitDefEqProofs(disch:=try exact al)only[dq,e,aD,eo,eU])
 ·simp-implicitDefEqProofs(disch:=try exact al)only[dq]
 ·exact cP.cw (S:=λl=>l<_) ((cP.cw (S:=λl=>l<_) ((cP.refl _ _).bt _) (.inl af) _).bt _) (.inl af) _
def ML{n:Nat}(F:∀k,k<=n->jq k)(ab:tb n)(aa:s9 n):tn (n+1):=by
 intro H r T ao s a e s' h;refine cz (λ_=>J6 0) ?_;have aj:=a.rd.lt;simp only[jl]at h;have u:=aO.push H (.row U 11 [[I J 0,I J 0,Y [],Y [],I J 0,.ar,I J 0,I J 0,I J 0,I J 0,I J 0]]);simp-implicitDefEqProofs(disch:=try exact al)only[h9,iL,reduceAdd,reduceLeDiff,reduceIte,ax];refine aN (hv (a.rd.aM u) (a.bx.aM u)) ?_;rintro _ K ⟨rfl,x⟩;refine⟨x.1,?_⟩;have L:=x.get (ae.bC H _);have ak:=ae.aS L;simp-implicitDefEqProofs(disch:=try exact al)only[iL,h9,reduceAdd,reduceLeDiff,reduceIte,ax,Tok.v];have G:=x.bt (.row U 4 [[I J (au T s.at_).kind,Y (au T s.at_).text,I J (au T s.at_).n,I J (au T s.at_).pos]])
 have Q:=ae.bC K (.row U 4 [[I J (au T s.at_).kind,Y (au T s.at_).text,I J (au T s.at_).n,I J (au T s.at_).pos]]);have w:=u.trans G;refine aN (dk (a.rd.aM w) (a.bx.aM w) [45] (by simp)) ?_;rintro _ ad ⟨rfl,i⟩;refine⟨i.1,?_⟩;have c:=w.trans i;have E:=i.get Q;have z:=(G.trans i).get (ae.bC H _);cases m:a1 T s [45]with
 |true=>
  simp only[m,aY]at h;have q:(au T s.at_).text≠[]:=AJ m (by simp);simp-implicitDefEqProofs(disch:=try exact al)only[iL,h9,reduceAdd,reduceLeDiff,reduceIte,ax];cases n with
  |zero=>simp[kB]at h
  |succ n=>exact Dj (F n af) a c z af E q h
 |false=>
  simp only[m,aT]at h;simp-implicitDefEqProofs(disch:=try exact al)only[iL,h9,reduceAdd,reduceLeDiff,reduceIte,ax];refine aN (dk (a.rd.aM c) (a.bx.aM c) [33] (by simp)) ?_;rintro _ ag ⟨rfl,j⟩;refine⟨j.1,?_⟩;have d:=c.trans j;have R:=j.get E;have p:=j.get z;cases o:a1 T s [33]with
  |true=>
   simp only[o,aY]at h;have q:(au T s.at_).text≠[]:=AJ o (by simp);simp-implicitDefEqProofs(disch:=try exact al)only[iL,h9,reduceAdd,reduceLeDiff,reduceIte,ax];cases n with
   |zero=>simp[kB]at h
   |succ n=>exact Dj (F n af) a d p af R q h
  |false=>
   simp only[o,aT,cR]at h;obtain⟨⟨y,s1⟩,g1,g2⟩:=h;simp-implicitDefEqProofs(disch:=try exact al)only[iL,h9,reduceAdd,reduceLeDiff,reduceIte,ax];refine aN (ab (a.aM d) y s1 g1) ?_;rintro v ah ⟨m6,V,N⟩;refine⟨m6.1,?_⟩;have aq:=d.1;have ap:=m6.1;have M:=m6.get p af;simp-implicitDefEqProofs(disch:=try exact al)only[iL,h9,reduceAdd,reduceLeDiff,reduceIte,ax];have am:=ae.aS p;refine aN (aa (ok:=bg (H.next+1)) V (N.aX (c9.aM (aO.refl _) λl O=>by unfold bg at*;omega) y _) (by unfold bg;omega) (λl O=>by unfold bg;omega) e s' g2) ?_;rintro v ai ⟨m7,W,B⟩;refine⟨m7.1,?_⟩;have A:=m7.get M af;have an:=ae.aS A
   obtain⟨cs,rfl,hlen,P⟩:=B.cells;have S:List.take 11 cs=cs:=List.take_of_length_le af;simp-implicitDefEqProofs(disch:=try exact al)only[iL,h9,reduceAdd,reduceLeDiff,reduceIte,ax,A,hlen,P,List.append_nil,S];exact bb.2 (dB.ret a (((d.mut _).trans m6).trans m7) W.rd (bk _) B (Nat.lt_succ_self _) _)
def yr{N:Nat}{H0 H:ae}{r:Nat}{T:List Tok}{ao:aa}{s0 s:aw}(j:bI H0 r T ao s0)(p:b5 r H0 H)(i:bw H r ao s){b3:Nat}{cs a:List aa}{e:aL}(c:H.get H0.next=D (.row U 11 [a]))(y:a.length=11)(d:H.get b3=D (.row U 11 [cs]))(u:H0.next<b3)
  (he:cu H (λl=>H0.next<l/\l≠b3) e (.agg cs)):W (nj (aC P az) N (.ptr H0.next 0 0) (.ptr b3 0 0) H) (dB H0 r T ao e s):=by
 have v:=j.rd.lt;have w:=ae.aS c;have x:=ae.aS d;obtain⟨q,k,hlen,n⟩:=he.cells;cases k;have o:List.take 11 cs=cs:=List.take_of_length_le af;have m:List.drop 11 a=[]:=List.drop_of_length_le af;simp-implicitDefEqProofs(disch:=try exact al)only[nj,h8,qL,hQ,hR,hS,hP,reduceAdd,reduceLeDiff,reduceIte,ax,c,d,hlen,n,List.append_nil,o,m];have m':=p.cw (.inr (bk _)) (.row U 11 [cs]);refine bb.2 ⟨m',j.mut m' ?_,he.aX (c9.set _ af λl h=>by unfold bg;omega) e _⟩;unfold bw at i ⊢;rw[ae.get_set_other af];exact i
def ys{N B:Nat}(aH:∀k,k<B->jq k){H0:ae}{r:Nat}{T:List Tok}{ao:aa}{s0:aw}(o:bI H0 r T ao s0){lev:Nat}(S:lev<5){b3:Nat}(F:H0.next<b3):
  ∀(n m:Nat),n<=B->n<m->∀(H:ae) (s:aw) (e:aL) (cs x:List aa),b5 r H0 H->bw H r ao s->H.get H0.next=D (.row U 11 [x])->x.length=11->H.get b3=D (.row U 11 [cs])->
   cu H (λl=>H0.next<l/\l≠b3) e (.agg cs)->∀(p:aL) (s':aw),hI T n lev e s=D (p,s')->
   W (nk (aC P az) N m (.ptr r 0 0) (I J lev) (.ptr H0.next 0 0) (.ptr b3 0 0) H) (dB H0 r T ao p s')
 |0,m,ai,hm,H,s,e,cs,x,u,c,y,A,q,he,p,s',h=>by simp[hI]at h
 |n+1,0,ai,hm,H,s,e,cs,x,u,c,y,A,q,he,p,s',h=>af
 |n+1,m+1,ai,hm,H,s,e,cs,x,u,c,y,A,q,he,p,s',h=>by
  have bp:=o.rd.lt;have aG:=o.mut u c;have br:=ae.aS q;obtain⟨bn,aZ,hlen,a6⟩:=he.cells;cases aZ;have bd:List.take 11 cs=cs:=List.take_of_length_le af;have a0:List.drop 11 cs=[]:=List.drop_of_length_le af;have a5:=o.bx.one;simp only[hI]at h;simp only[nk];rw[qL];refine aN (jJ c) ?_;rintro _ H1 ⟨rfl,rfl⟩;refine⟨bk _,?_⟩;cases an:s.aF==0 with
  |false=>
   simp only[an,Bool.false_and,aT,aU,bY]at h;obtain⟨rfl,rfl⟩:=h;simp-implicitDefEqProofs(disch:=try exact al)only[h8,hQ,hR,hS,hP,reduceAdd,reduceLeDiff,reduceIte,ax];exact yr o u c y A q F he
  |true=>
   simp only[an,Bool.true_and]at h;simp-implicitDefEqProofs(disch:=try exact al)only[h8,hQ,hR,hS,hP,reduceAdd,reduceLeDiff,reduceIte,ax];refine iR (hv c aG.bx) ?_;rintro _ H1 ⟨rfl,aJ⟩;refine⟨aJ.1,?_⟩;simp-implicitDefEqProofs(disch:=try exact al)only[h8,hQ,hR,hS,hP,reduceAdd,reduceLeDiff,reduceIte,ax];refine iR (Be lev S (au T s.at_)) ?_;rintro _ bm ⟨rfl,aK⟩;refine⟨aK.1,?_⟩;have d:=aJ.trans aK;cases z:ez lev (au T s.at_) != 0 with
   |false=>
    simp only[z,aT,aU,bY]at h;obtain⟨rfl,rfl⟩:=h;simp-implicitDefEqProofs(disch:=try exact al)only[h8,hQ,hR,hS,hP,reduceAdd,reduceLeDiff,reduceIte,ax,z];exact yr o (u.trans (d.mut _)) (c.aM d) (d.get y) A (d.get q) F (he.aX (c9.aM d λ_ h=>h) e _)
   |true=>
    simp only[z,aY,cR]at h;obtain⟨⟨ah,s1⟩,aQ,aR⟩:=h;simp-implicitDefEqProofs(disch:=try exact al)only[h8,hQ,hR,hS,hP,reduceAdd,reduceLeDiff,reduceIte,ax,z];refine aN (hv (c.aM d) (aG.bx.aM d)) ?_;rintro _ aP ⟨rfl,ab⟩;refine⟨ab.1,?_⟩;have w:=(d.trans ab).bt (.row U 4 [[I J (au T s.at_).kind,Y (au T s.at_).text,I J (au T s.at_).n,I J (au T s.at_).pos]]);have a7:=ae.bC aP (.row U 4 [[I J (au T s.at_).kind,Y (au T s.at_).text,I J (au T s.at_).n,I J (au T s.at_).pos]]);have O:=c.aM (d.trans ab);have bc:=c.aM w;have aE:=O;unfold bw at aE;have bB:=O.lt
    obtain⟨m6,a1⟩:=eO bc (aD s);have hw:IntKind.i64.wrap ((lev:Int)+1)=((lev+1:Nat):Int):=by rw[wrap_i64 af af];simp
    simp-implicitDefEqProofs(disch:=try exact al)only[h8,hQ,hR,hS,hP,reduceAdd,reduceLeDiff,reduceIte,ax,Tok.v,aE,a5,hw];have aI:=(u.trans (w.mut _)).trans m6;have bf:=o.mut aI a1;refine aN (aH n af bf (lev+1) af ah s1 aQ) ?_;rintro v Q ⟨m7,bh,G⟩;refine⟨m7.1,?_⟩;have aV:=m6.get (w.get q) af;have R:=m7.get aV af;have bs:=ae.aS R;have a8:=m6.get a7 (by have:=ae.aS O;omega);have M:=m7.get a8 (by have:=ae.aS O;omega);have bz:=ae.aS M;have a4:=m7.1;have a3:=w.1;simp only[ae.dj,ae.bT]at a4 a3 G;obtain⟨a,rfl,aq,av⟩:=G.cells;have be:List.take 11 a=a:=List.take_of_length_le af;simp-implicitDefEqProofs(disch:=try exact al)only[h8,hQ,hR,hS,hP,reduceAdd,reduceLeDiff,reduceIte,ax,aq,av,List.append_nil,M]
    have ad:=aO.push Q (.row U 11 [a]);refine aN (Be (H:=Q.push (.row U 11 [a])) lev S (au T s.at_)) ?_;rintro _ i ⟨rfl,ag⟩;refine⟨ag.1,?_⟩;have j:=ad.trans ag;have am:=ag.get (ae.bC Q (.row U 11 [a]));have ak:=j.get R;have ay:=j.get M;have bE:=ae.aS am;have bu:=ae.aS ak;have bA:=ae.aS ay;have aB:∀l,bV P l 41 2 [(0,.agg cs),(1,.agg a)]=D (.aA l 0 2 11 (D 2),.row U 11 [cs,a]):=λl=>vT l cs a hlen a6 aq av
    have a_:=he.same;have ba:=G.same;have bb:bj (D (.agg [I J (au T s.at_).kind,Y (au T s.at_).text,I J (au T s.at_).n,I J (au T s.at_).pos])) (.agg [I J (au T s.at_).kind,Y (au T s.at_).text,I J (au T s.at_).n,I J (au T s.at_).pos])=true:=by simp[bj,aa.beq,fX.beq]
    have aW:=ad.get R;have a9:=ad.get M;simp-implicitDefEqProofs(disch:=try exact al)only[hQ,hR,hS,hP,reduceAdd,reduceLeDiff,reduceIte,ax,ak,am,ay,bd,be,a0,aB,a_,ba,bb,aW,a9,Bool.and_true,Bool.and_self];rw[h8];have bl:=((aI.trans m7).trans (j.mut _));have bi:b5 r H0 ((i.push (.row U 11 [cs,a])).set b3 (.row U 11 [[I J (ez lev (au T s.at_)),I J 0,Y [],Y [],I J 0,.aA i.next 0 2 11 (D 2),I J (au T s.at_).pos,I J 0,I J 0,I J 0,I J 0]])):=(bl.bt _).cw (.inr (Nat.le_of_lt F)) _;have E:∀k,k<i.next->k≠b3->((i.push (.row U 11 [cs,a])).set b3 (.row U 11 [[I J (ez lev (au T s.at_)),I J 0,Y [],Y [],I J 0,.aA i.next 0 2 11 (D 2),I J (au T s.at_).pos,I J 0,I J 0,I J 0,I J 0]])).get k=i.get k:=λk z bo=>by
     rw[ae.get_set_other af,ae.dp af]
    have aj:=j.get (m7.get (m6.get (w.get y) af) af);have bq:=ae.aS aj;have V:=bh.rd.aM j;have bv:=V.lt;have bD:=j.1;refine ys aH o S F n m af af _ s1 _ (bM.cells {kind:=ez lev (au T s.at_),pos:=(au T s.at_).pos} (.aA i.next 0 2 11 (D 2))) x bi ?_ ?_ A (ae.get_set_same (by simp only[ae.bT];omega)) ?_ p s' aR
    ·unfold bw at V ⊢;rw[E r af af];exact V
    ·rw[E _ af af];exact aj
    ·rw[gO];have a2:cu i (λl=>H0.next<l/\l≠b3) e (.agg cs):=he.mut (((w.mut _).trans m6).trans m7|>.trans (j.mut _)) af λ_ h=>h
     refine⟨_,rfl,b8.wo (ro:=false) ?_ ⟨af,af⟩ (a2.aX (λl ro els L K=>⟨L,by rw[E l (ae.aS K) L.2];exact K⟩) e _) (G.aX (λl ro els L K=> ?_) ah _)⟩
     ·rw[ae.get_set_other af];exact ae.bC _ _
     ·unfold bg at L;have ap:=j.get K;exact⟨⟨af,af⟩,by rw[E l (ae.aS ap) af];exact ap⟩
def GS{n:Nat}(z:∀k,k<=n->jq k)(K:tn n):jq (n+1):=by
 intro H r T ao s c lev hle e s' h;refine cz (λ_=>JL (n+2)) ?_;have M:=c.rd.lt;have i:=aO.push H (.row U 11 [[I J 0,I J 0,Y [],Y [],I J 0,.ar,I J 0,I J 0,I J 0,I J 0,I J 0]]);simp only[dP]at h;by_cases w:lev=5
 ·rw[if_pos w]at h;have p:((lev:Int)==5)=true:=by simp;omega
  simp-implicitDefEqProofs(disch:=try exact al)only[h8,hQ,hR,hS,hP,reduceAdd,reduceLeDiff,reduceIte,ax,p];refine aN (K (c.aM i) e s' h) ?_;rintro v m ⟨m2,u,a⟩;refine⟨m2.1,?_⟩;have d:=m2.get (ae.bC H (.row U 11 [[I J 0,I J 0,Y [],Y [],I J 0,.ar,I J 0,I J 0,I J 0,I J 0,I J 0]])) af;have O:=ae.aS d;obtain⟨cs,rfl,hlen,q⟩:=a.cells;have G:List.take 11 cs=cs:=List.take_of_length_le af;simp-implicitDefEqProofs(disch:=try exact al)only[h8,hQ,hR,hS,hP,reduceAdd,reduceLeDiff,reduceIte,ax,d,hlen,q,List.append_nil,G];exact bb.2 (dB.ret c ((i.mut _).trans m2) u.rd (bk _) a (Nat.lt_succ_self _) _)
 ·rw[if_neg w,cR]at h;obtain⟨⟨o,s1⟩,A,E⟩:=h;have p:((lev:Int)==5)=false:=by simp;omega
  have hw:IntKind.i64.wrap ((lev:Int)+1)=((lev+1:Nat):Int):=by rw[wrap_i64 af af];simp
  simp-implicitDefEqProofs(disch:=try exact al)only[h8,hQ,hR,hS,hP,reduceAdd,reduceLeDiff,reduceIte,ax,p,hw];refine aN (z n (bk _) (c.aM i) (lev+1) af o s1 A) ?_;rintro v m ⟨m2,u,a⟩;refine⟨m2.1,?_⟩;have d:=m2.get (ae.bC H (.row U 11 [[I J 0,I J 0,Y [],Y [],I J 0,.ar,I J 0,I J 0,I J 0,I J 0,I J 0]])) af;have F:=m2.1;simp only[ae.bT]at F;obtain⟨cs,rfl,hlen,q⟩:=a.cells;simp-implicitDefEqProofs(disch:=try exact al)only[hS,hR,hQ,reduceAdd,reduceLeDiff,reduceIte,ax,hlen,q,List.append_nil];have j:=aO.push m (.row U 11 [cs]);refine ys (N:=n+2) (B:=n) (λk L=>z k af) c af (b3:=m.next) af n (n+2) af af _ s1 o cs _ (((i.mut _).trans m2).trans (j.mut _)) (u.rd.aM j) (j.get d) rfl (ae.bC _ _) ?_ e s' E
  exact a.aX (λl ro els y x=>by
   have:=ae.aS x;unfold bg at y;simp only[ae.bT]at y;exact⟨⟨af,af⟩,j.get x⟩) o _
