/-
  Texts of one proof, laid together: Y1 Y2 Y3 Y4 Y5 Y6 Y7.
-/
import Derived.Test.YtghmbpmaafnodaaDoorMJ
set_option linter.unusedVariables false
set_option linter.unusedSimpArgs false
set_option linter.defProp false
open Option renaming some→D,none→Z
open Bool renaming true→X,false→U
open Go.cn.ad renaming int→I,str→Y,bool→C
open Go.IntKind renaming i64→J
namespace Go.Proofs.YtghmbpmaafnodaaDoor
open Go.cn
open Nat (reduceAdd reduceLeDiff)
def bJ(H:ae)(r:Nat)(au:ad)(s:an):Prop:=H.get r=D (.row U 5 [[au,I J s.at_,I J s.a8,I J s.ak,I J s.bD]])
structure bQ(H:ae)(r:Nat)(T:List Tok)(au:ad)(s:an):Prop where
 rd:bJ H r au s
 bL:fe H au T
def bJ.aL{H H':ae}{r:Nat}{au:ad}{s:an}(a:bJ H r au s)(p:aP H H'):bJ H' r au s:=p.get a
def bJ.lt{H:ae}{r:Nat}{au:ad}{s:an}(a:bJ H r au s):r<H.next:=ae.aV a
def bQ.mut{H H':ae}{r:Nat}{T:List Tok}{au:ad}{s s':an}(h:bQ H r T au s)(m:ca r H H')(a:bJ H' r au s'):bQ H' r T au s':=
 ⟨a,h.bL.aW λl ro els e=>m.get e (by
  rintro rfl;rw[h.rd]at e;simp only[aS,bW.row.injEq]at e;omega)⟩
def bQ.aL{H H':ae}{r:Nat}{T:List Tok}{au:ad}{s:an}(h:bQ H r T au s)(p:aP H H'):bQ H' r T au s:=h.mut (p.mut _) (h.rd.aL p)
def e6{H:ae}{r:Nat}{au:ad}{s:an}(a:bJ H r au s)(s':an):ca r H (H.set r (.row U 5 [[au,I J s'.at_,I J s'.a8,I J s'.ak,I J s'.bD]]))/\bJ (H.set r (.row U 5 [[au,I J s'.at_,I J s'.a8,I J s'.ak,I J s'.bD]])) r au s':=
 ⟨c7.cW (S:=(· =r)) (c7.refl _ _) (.inl rfl) _,ae.get_set_same a.lt⟩
def h3{H:ae}{r:Nat}{au:ad}{s:an}{T:List Tok}(d:bJ H r au s)(n:fe H au T):W (aE P aA 22 [.ptr r 0 0] H) λv H'=>v=(al T s.at_).v/\aP H H':=by
 unfold bJ at d;have o:=ae.aV d;refine cG (λ_=>Mc 0) ?_;by_cases a:s.at_<0
 ·simp-implicitDefEqProofs(disch:=try exact aj)only[oU,bg,bx,Nat.reduceAdd,Nat.reduceLeDiff,reduceIte,ad.cells,cQ,dN,aq,cL,aY,cL,cZ,dO,pP,pQ,d,a,decide_true,bb];exact⟨by simp[al,a,Tok.v,Tok.none],aP.push _ _⟩
 ·rcases n with⟨rfl,rfl⟩|⟨l,i,cap,rfl,k⟩
  ·have c:(0:Int)<=s.at_:=af;simp-implicitDefEqProofs(disch:=try exact aj)only[oU,bg,bx,Nat.reduceAdd,Nat.reduceLeDiff,reduceIte,ad.cells,cQ,dN,aq,cL,aY,cL,cZ,dO,pP,pQ,d,a,c,decide_true,decide_false,bb,xc];exact⟨by simp[al,a,Tok.v,Tok.none,c],aP.push _ _⟩
  ·by_cases c:(T.length:Int)<=s.at_
   ·simp-implicitDefEqProofs(disch:=try exact aj)only[oU,bg,bx,Nat.reduceAdd,Nat.reduceLeDiff,reduceIte,ad.cells,cQ,dN,aq,cL,aY,cL,cZ,dO,pP,pQ,d,a,c,decide_true,decide_false,bb,tE];exact⟨by simp[al,a,Tok.v,Tok.none,c],aP.push _ _⟩
   ·have e:s.at_.toNat<T.length:=af;obtain⟨ro,els,h,m⟩:=k.resolve_left (by rintro rfl;simp at e);have p:=ae.aV h;have j:=m s.at_.toNat T[s.at_.toNat] (by simp[e]);simp only[Tok.cells]at j;simp-implicitDefEqProofs(disch:=try exact aj)only[oU,bg,bx,Nat.reduceAdd,Nat.reduceLeDiff,reduceIte,ad.cells,cQ,dN,aq,cL,aY,cL,cZ,dO,pP,pQ,d,a,c,decide_true,decide_false,bb,tE,wM,h,j];refine⟨?_,aP.push _ _⟩;simp[al,a,c,Tok.v,e]
def k9{H:ae}{r:Nat}{au:ad}{s:an}(a:bJ H r au s):W (aE P aA 21 [.ptr r 0 0] H) λv H'=>v= C (s.ak==0)/\H'=H:=by
 unfold bJ at a;refine cG (λ_=>Mb 0) ?_;simp-implicitDefEqProofs(disch:=try exact aj)only[uu,reduceAdd,reduceLeDiff,reduceIte,ax,a];exact bb.2 ⟨rfl,rfl⟩
def kr{H:ae}{r:Nat}{T:List Tok}{au:ad}{s:an}(a:bQ H r T au s)(e:Int):W (aE P aA 24 [.ptr r 0 0,I J e] H) λv H'=>v= .tuple []/\ca r H H'/\bQ H' r T au (bE T e s):=by
 refine cG (λ_=>Me 0) ?_;have h:=a.rd;have o:=a.bL.one;rw[oW];refine aO (k9 h) ?_;rintro _ H1 ⟨rfl,rfl⟩;refine⟨bm _,?_⟩;by_cases c:s.ak=0
 ·rw[show bE T e s={s with ak:=e,bD:=(al T s.at_).pos} by simp[bE,c]];simp-implicitDefEqProofs(disch:=try exact aj)only[oW,bg,bx,c,beq_self_eq_true];refine aO (h3 h a.bL) ?_;rintro _ k ⟨rfl,d⟩;refine⟨d.1,?_⟩;have i:bJ k r au s:=h.aL d;have j:=i;unfold bJ at j;simp-implicitDefEqProofs(disch:=try exact aj)only[oW,reduceAdd,reduceLeDiff,reduceIte,ax,Tok.v,j,o];obtain⟨m,n⟩:=e6 i {s with ak:=e,bD:=(al T s.at_).pos};exact bb.2 ⟨rfl,(d.mut _).trans m,a.mut ((d.mut _).trans m) n⟩
 ·have l:(s.ak==0)=false:=by simpa using c
  rw[show bE T e s=s by simp[bE,c]];simp-implicitDefEqProofs(disch:=try exact aj)only[oW,bg,bx,l];exact bb.2 ⟨rfl,c7.refl _ _,a⟩
def wQ(s:aG)(c:UInt8):eT P 9 (Y (c::s)) (I J 0)=D (I .u8 c.toNat):=ah
def xP{H0 H:ae}{r:Nat}{T:List Tok}{au:ad}{s:an}(p:aP H0 H)(i:bJ H r au s){b:Nat}(d:H.get b=D (.row U 4 [[I J (al T s.at_).kind,Y (al T s.at_).text,I J (al T s.at_).n,I J (al T s.at_).pos]]))(x:aG)(k:Int):
  W (oV (aE P aA) (.ptr r 0 0) (Y x) (.ptr b 0 0) (I J k) H) λv H'=>v= C (bo T s k x)/\aP H0 H':=by
 rw[oV];refine aO (k9 i) ?_;rintro _ H1 ⟨rfl,rfl⟩;refine⟨bm _,?_⟩;by_cases a:s.ak=0
 ·by_cases c:(al T s.at_).kind=k
  ·simp-implicitDefEqProofs(disch:=try exact aj)only[lh,reduceAdd,reduceLeDiff,reduceIte,ax,a,c,d,beq_self_eq_true];exact bb.2 ⟨by simp[bo,a,c],p⟩
  ·have h:((al T s.at_).kind==k)=false:=by simpa using c
   simp-implicitDefEqProofs(disch:=try exact aj)only[lh,reduceAdd,reduceLeDiff,reduceIte,ax,a,h,d,beq_self_eq_true];exact bb.2 ⟨by simp[bo,a,c],p⟩
 ·have e:(s.ak==0)=false:=by simpa using a
  simp-implicitDefEqProofs(disch:=try exact aj)only[lh,reduceAdd,reduceLeDiff,reduceIte,ax,e,d];exact bb.2 ⟨by simp[bo,a],p⟩
def dA{H:ae}{r:Nat}{T:List Tok}{au:ad}{s:an}(e:bJ H r au s)(m:fe H au T)(x:aG)(o:x≠[]):W (aE P aA 23 [.ptr r 0 0,Y x] H) λv H'=>v= C (aZ T s x)/\aP H H':=by
 refine cG (λ_=>Md 0) ?_;obtain⟨c,x,rfl⟩:∃c y,x=c::y:=by cases x with
  |nil=>exact absurd rfl o
  |cons c y=>exact⟨c,y,rfl⟩
 rw[lh];refine aO (h3 e m) ?_;rintro _ H1 ⟨rfl,l⟩;refine⟨l.1,?_⟩;have a:=l.bI (.row U 4 [[I J (al T s.at_).kind,Y (al T s.at_).text,I J (al T s.at_).n,I J (al T s.at_).pos]]);have j:=ae.bM H1 (.row U 4 [[I J (al T s.at_).kind,Y (al T s.at_).text,I J (al T s.at_).n,I J (al T s.at_).pos]]);by_cases h:97<=c.toNat
 ·have d:(97:Int)<=(c.toNat:Int):=af;by_cases k:c.toNat<=122
  ·have i:(c.toNat:Int)<=122:=af;rw[show aZ T s (c::x)=bo T s 3 (c::x) by simp[aZ,kw,h,k]];simp-implicitDefEqProofs(disch:=try exact aj)only[lh,reduceAdd,reduceLeDiff,reduceIte,ax,Tok.v,wQ,d,i,decide_true];exact xP a (e.aL a) j _ 3
  ·have i:¬(c.toNat:Int)<=122:=af;rw[show aZ T s (c::x)=bo T s 4 (c::x) by simp[aZ,kw,h,k]];simp-implicitDefEqProofs(disch:=try exact aj)only[lh,reduceAdd,reduceLeDiff,reduceIte,ax,Tok.v,wQ,d,i,decide_true,decide_false];exact xP a (e.aL a) j _ 4
 ·have d:¬(97:Int)<=(c.toNat:Int):=af;rw[show aZ T s (c::x)=bo T s 4 (c::x) by simp[aZ,kw,h]];simp-implicitDefEqProofs(disch:=try exact aj)only[lh,reduceAdd,reduceLeDiff,reduceIte,ax,Tok.v,wQ,d,decide_false];exact xP a (e.aL a) j _ 4
def gN{H:ae}{r:Nat}{T:List Tok}{au:ad}{s:an}(a:bQ H r T au s)(x:aG)(j:x≠[]):W (aE P aA 27 [.ptr r 0 0,Y x] H) λv H'=>v= .tuple []/\ca r H H'/\bQ H' r T au (a_ T x s):=by
 refine cG (λ_=>Mh 0) ?_;have k:=a.bL.one;rw[oX];refine aO (dA a.rd a.bL x j) ?_;rintro _ H1 ⟨rfl,c⟩;refine⟨c.1,?_⟩;have e:=a.rd.aL c;have h:=e;unfold bJ at h;cases d:aZ T s x with
 |false=>
  rw[show a_ T x s=bE T 2 s by simp[a_,d]];simp-implicitDefEqProofs(disch:=try exact aj)only[oX,reduceAdd,reduceLeDiff,reduceIte,ax,Bool.not_false];refine aO (kr (a.aL c) 2) ?_;rintro _ n ⟨rfl,m2,l⟩;refine⟨m2.1,?_⟩
  try simp only[oX]
  exact bb.2 ⟨rfl,(c.mut _).trans m2,l⟩
 |true=>
  rw[show a_ T x s=av s by simp[a_,d]];simp-implicitDefEqProofs(disch:=try exact aj)only[oX,reduceAdd,reduceLeDiff,reduceIte,ax,h,k,Bool.not_true];obtain⟨m,i⟩:=e6 e (av s);exact bb.2 ⟨rfl,(c.mut _).trans m,a.mut ((c.mut _).trans m) i⟩
def qi{H:ae}{r:Nat}{T:List Tok}{au:ad}{s:an}(a:bQ H r T au s)(x:aG)(k:x≠[]):W (aE P aA 77 [.ptr r 0 0,Y x] H) λv H'=>v= .tuple []/\ca r H H'/\bQ H' r T au (ct T x s):=by
 refine cG (λ_=>MP 0) ?_;have q:=a.bL.one;rw[mu];refine aO (dA a.rd a.bL x k) ?_;rintro _ H1 ⟨rfl,c⟩;refine⟨c.1,?_⟩;have i:=a.aL c;have h:=i.rd;unfold bJ at h;have more:ct T x s=eB (a_ T x s)->W (aI H1 (aE P aA 27 [.ptr r 0 0,Y x] H1) (uV (.ptr r 0 0))) λv H'=>v= .tuple []/\ca r H H'/\bQ H' r T au (ct T x s):=by
  intro he;rw[he];refine aO (gN i x k) ?_;rintro _ o ⟨rfl,m2,j⟩;refine⟨m2.1,?_⟩;have l:=j.rd;have n:=l;unfold bJ at n;simp-implicitDefEqProofs(disch:=try exact aj)only[uV,mu,reduceAdd,reduceLeDiff,reduceIte,ax,n,q];obtain⟨m,p⟩:=e6 l (eB (a_ T x s));exact bb.2 ⟨rfl,((c.mut _).trans m2).trans m,a.mut (((c.mut _).trans m2).trans m) p⟩
 cases e:aZ T s x with
 |false=>
  simp-implicitDefEqProofs(disch:=try exact aj)only[mu,reduceAdd,reduceLeDiff,reduceIte,ax];exact more (by simp[ct,e])
 |true=>
  by_cases d:50<=s.a8
  ·rw[show ct T x s=bE T 4 s by simp[ct,e,d]];simp-implicitDefEqProofs(disch:=try exact aj)only[mu,reduceAdd,reduceLeDiff,reduceIte,ax,h,d,decide_true];refine aO (kr i 4) ?_;rintro _ o ⟨rfl,m2,j⟩;refine⟨m2.1,?_⟩
   try simp only[mu]
   exact bb.2 ⟨rfl,(c.mut _).trans m2,j⟩
  ·simp-implicitDefEqProofs(disch:=try exact aj)only[mu,reduceAdd,reduceLeDiff,reduceIte,ax,h,d,decide_false];exact more (by simp[ct,e,d])
def qe{H:ae}{r:Nat}{T:List Tok}{au:ad}{s:an}(a:bQ H r T au s)(x:aG)(h:x≠[]):W (aE P aA 79 [.ptr r 0 0,Y x] H) λv H'=>v= .tuple []/\ca r H H'/\bQ H' r T au (dm T x s):=by
 refine cG (λ_=>MR 0) ?_;have i:=a.bL.one;rw[su];refine aO (gN a x h) ?_;rintro _ k ⟨rfl,m2,j⟩;refine⟨m2.1,?_⟩;have c:=j.rd;have d:=c;unfold bJ at d;simp-implicitDefEqProofs(disch:=try exact aj)only[su,reduceAdd,reduceLeDiff,reduceIte,ax,d,i];obtain⟨m,e⟩:=e6 c (dQ (a_ T x s));exact bb.2 ⟨rfl,m2.trans m,a.mut (m2.trans m) e⟩
def nh{H:ae}{r:Nat}{T:List Tok}{au:ad}{s:an}(a:bQ H r T au s):W (aE P aA 55 [.ptr r 0 0] H) λv H'=>v= Y (bq T s).1/\ca r H H'/\bQ H' r T au (bq T s).2:=by
 refine cG (λ_=>MA 0) ?_;have q:=a.bL.one;have z:=a.rd.lt;rw[mj];refine aO (h3 a.rd a.bL) ?_;rintro _ H1 ⟨rfl,h⟩;refine⟨h.1,?_⟩;have i:=h.bI (.row U 4 [[I J (al T s.at_).kind,Y (al T s.at_).text,I J (al T s.at_).n,I J (al T s.at_).pos]]);have y:=ae.bM H1 (.row U 4 [[I J (al T s.at_).kind,Y (al T s.at_).text,I J (al T s.at_).n,I J (al T s.at_).pos]]);simp-implicitDefEqProofs(disch:=try exact aj)only[qH,mj,reduceAdd,reduceLeDiff,reduceIte,ax,Tok.v];have k:=a.aL i;refine aO (k9 k.rd) ?_;rintro _ w ⟨rfl,rfl⟩;refine⟨bm _,?_⟩;have A:=h.1;have o:=a.rd.aL h
 unfold bJ at o;have l:bq T s=([],bE T 2 s)->W (aI (H1.push (.row U 4 [[I J (al T s.at_).kind,Y (al T s.at_).text,I J (al T s.at_).n,I J (al T s.at_).pos]])) (aE P aA 24 [.ptr r 0 0,I J 2] (H1.push (.row U 4 [[I J (al T s.at_).kind,Y (al T s.at_).text,I J (al T s.at_).n,I J (al T s.at_).pos]]))) qH) λv H'=>v= Y (bq T s).1/\ca r H H'/\bQ H' r T au (bq T s).2:=by
  intro he;rw[he];refine aO (kr k 2) ?_;rintro _ x ⟨rfl,m4,u⟩;refine⟨m4.1,?_⟩
  try simp only[qH,mj]
  exact bb.2 ⟨rfl,(i.mut _).trans m4,u⟩
 by_cases c:s.ak=0
 ·by_cases j:(al T s.at_).kind=1
  ·have d:(s.ak==0)=true:=by simpa using c
   have e:((al T s.at_).kind==1)=true:=by simpa using j
   rw[show bq T s=((al T s.at_).text,av s) by simp[bq,c,j]];simp-implicitDefEqProofs(disch:=try exact aj)only[qH,mj,reduceAdd,reduceLeDiff,reduceIte,ax,d,e,o,q];obtain⟨m,p⟩:=e6 k.rd (av s);exact bb.2 ⟨rfl,(i.mut _).trans m,a.mut ((i.mut _).trans m) p⟩
  ·have e:((al T s.at_).kind==1)=false:=by simpa using j
   simp-implicitDefEqProofs(disch:=try exact aj)only[mj,reduceAdd,reduceLeDiff,reduceIte,ax,c,e,beq_self_eq_true];exact l (by simp[bq,e])
 ·have d:(s.ak==0)=false:=by simpa using c
  simp-implicitDefEqProofs(disch:=try exact aj)only[mj,reduceAdd,reduceLeDiff,reduceIte,ax,d];exact l (by simp[bq,d])
def Ph(l:Nat)(a c dH ff d:Nat):b6 P l 131 5 [(0,.aD a 0 1 1 (D 1)),(1,.aD c 0 1 1 (D 1)),(2,.aD dH 0 4 1 (D 4)),(3,.aD ff 0 2 1 (D 2)),(4,.aD d 0 3 1 (D 3))]=
 D (.aD l 0 5 1 (D 5),.row U 1 [[.aD a 0 1 1 (D 1)],[.aD c 0 1 1 (D 1)],[.aD dH 0 4 1 (D 4)],[.aD ff 0 2 1 (D 2)],[.aD d 0 3 1 (D 3)]]):=ah
def Pj(l:Nat)(a c dH ff d:Nat):b6 P l 132 5 [(0,.aD a 0 1 1 (D 1)),(1,.aD c 0 1 1 (D 1)),(2,.aD dH 0 4 1 (D 4)),(3,.aD ff 0 2 1 (D 2)),(4,.aD d 0 3 1 (D 3))]=
 D (.aD l 0 5 1 (D 5),.row U 1 [[.aD a 0 1 1 (D 1)],[.aD c 0 1 1 (D 1)],[.aD dH 0 4 1 (D 4)],[.aD ff 0 2 1 (D 2)],[.aD d 0 3 1 (D 3)]]):=ah
def KO{H0 H:ae}(B:aP H0 H){b S K d c:Nat}{t:Tok}(w:H.get b=D (.row U 4 [[I J t.kind,Y t.text,I J t.n,I J t.pos]])){E A:List (List ad)}(i:H.get S=D (.row U 1 E))(F:H.get K=D (.row U 1 A)){lev:Nat}(Q:lev<5)(all:List (aG×Int))(O:all.length<=1000){cs j:Option Nat}
  (aB:E[lev]? =D [.aD d 0 all.length 1 cs]) (L:A[lev]? =D [.aD c 0 all.length 1 j]) (u:H.get d=D (.row U 1 (all.map λp=>[ad.str p.1]))) (G:H.get c=D (.row U 1 (all.map λp=>[ad.int J p.2]))) (N:Nat):
  ∀(rest pre:List (aG×Int)),all=pre++rest->∀(n:Nat),rest.length<n->
   W (lx (aE P aA) N n (I J lev) (.ptr b 0 0) (.aD S 0 5 1 (D 5)) (.aD K 0 5 1 (D 5)) (I J pre.length) H) λv H'=>v= I J (k3 t.text rest)/\aP H0 H':=by
 have o:(0:Int)<=(lev:Int):=af;have s:(lev:Int)<((5:Nat):Int):=af;have z:((lev:Int)).toNat=lev:=af;have i1:cl P 131 (.aD S 0 5 1 (D 5)) (I J (lev:Int))=D (.ptr S lev 0):=by rw[wK o s,z,Nat.zero_add]
 have i2:cl P 132 (.aD K 0 5 1 (D 5)) (I J (lev:Int))=D (.ptr K lev 0):=by rw[wL o s,z,Nat.zero_add]
 intro rest
 induction rest with
 |nil=>
  intro pre aC n e;obtain⟨n,rfl⟩:∃k,n=k+1:=⟨n-1,by simp at e;omega⟩;have a:¬((pre.length:Int)<(all.length:Int)):=by rw[aC];simp
  simp-implicitDefEqProofs(disch:=try exact aj)only[lx,lv,pc,nJ,reduceAdd,reduceLeDiff,reduceIte,ax,sF,sG,i1,i,aB,a,decide_false];exact bb.2 ⟨rfl,B⟩
 |cons q rest M=>
  intro pre aC n e;obtain⟨x,k⟩:=q;obtain⟨n,rfl⟩:∃k,n=k+1:=⟨n-1,by simp at e;omega⟩;have a:(pre.length:Int)<(all.length:Int):=by rw[aC];simp;omega
  have y:(0:Int)<=(pre.length:Int):=af;have l:((pre.length:Int)).toNat=pre.length:=af;have m:all[pre.length]? =D (x,k):=by rw[aC];simp
  have i3:cl P 50 (.aD d 0 all.length 1 cs) (I J (pre.length:Int))=D (.ptr d pre.length 0):=by rw[wN y a,l,Nat.zero_add]
  have i4:cl P 51 (.aD c 0 all.length 1 j) (I J (pre.length:Int))=D (.ptr c pre.length 0):=by rw[wO y a,l,Nat.zero_add]
  have g1:(all.map λp=>[ad.str p.1])[pre.length]? =D [Y x]:=by rw[List.getElem?_map,m];rfl
  have g2:(all.map λp=>[ad.int J p.2])[pre.length]? =D [I J k]:=by rw[List.getElem?_map,m];rfl
  cases h:x==t.text with
  |true=>
   simp-implicitDefEqProofs(disch:=try exact aj)only[lx,lv,pc,nJ,reduceAdd,reduceLeDiff,reduceIte,ax,sF,sG,i1,i2,i3,i4,i,F,aB,L,u,G,g1,g2,w,a,decide_true,h];exact bb.2 ⟨by simp[k3,h],B⟩
  |false=>
   have hw:IntKind.i64.wrap ((pre.length:Int)+1)=((pre++[(x,k)]).length:Int):=by
    have R:pre.length<all.length:=af;rw[wrap_i64 af af];simp
   simp-implicitDefEqProofs(disch:=try exact aj)only[lx,lv,pc,nJ,reduceAdd,reduceLeDiff,reduceIte,ax,sF,sG,i1,i3,i,aB,u,g1,w,a,decide_true,h,hw];refine(M (pre++[(x,k)]) (by simp[aC]) n (by simp at e;omega)).mono ?_;rintro v H' ⟨rfl,q⟩;exact⟨by simp[k3,h],q⟩
set_option maxHeartbeats 1000000 in
def Db{H:ae}(lev:Nat)(s:lev<5)(t:Tok):W (aE P aA 70 [I J lev,t.v] H) λv H'=>v= I J (eO lev t)/\aP H H':=by
 refine cG (λ_=>MO 10) ?_;have o:∀l,d_ l t.v=D (.ptr l 0 0,.row U 4 [[I J t.kind,Y t.text,I J t.n,I J t.pos]]):=λl=>hA l _ rfl
 cases d:t.kind != 4 with
 |true=>
  simp-implicitDefEqProofs(disch:=try exact aj)only[lv,pc,nJ,reduceAdd,reduceLeDiff,reduceIte,ax,o,d];exact bb.2 ⟨by simp[eO,d],aP.push _ _⟩
 |false=>
  simp-implicitDefEqProofs(disch:=try exact aj)only[lv,nJ,reduceAdd,reduceLeDiff,reduceIte,ax,o,d,Ph,Pj];obtain⟨all,c⟩:∃all,ko[lev]? =D all:=⟨ko[lev]'(by simpa [ko]using s),by simp[ko]⟩;have B:all.length<10:=by
   have:∀a∈ko,a.length<10:=bk;exact this all (List.mem_of_getElem? c)
  have key:∀(bP:ae),aP H bP->bP.get H.next=D (.row U 4 [[I J t.kind,Y t.text,I J t.n,I J t.pos]])->∀(S K h e:Nat) (k j:List (List ad)) (cs m:Option Nat),bP.get S=D (.row U 1 k)->bP.get K=D (.row U 1 j)->k[lev]? =D [.aD h 0 all.length 1 cs]->j[lev]? =D [.aD e 0 all.length 1 m]->
    bP.get h=D (.row U 1 (all.map λp=>[ad.str p.1]))->bP.get e=D (.row U 1 (all.map λp=>[ad.int J p.2]))->
    W (lx (aE P aA) 10 10 (I J lev) (.ptr H.next 0 0) (.aD S 0 5 1 (D 5)) (.aD K 0 5 1 (D 5)) (I J 0) bP) λv H'=>v= I J (eO lev t)/\aP H H':=by
   intro bP p A S K h e k j cs m u w x y i z;refine(KO p A u w s all af x y i z 10 all [] rfl 10 B).mono ?_;rintro v H' ⟨rfl,q⟩;exact⟨by simp[eO,d,c],q⟩
  have i:lev=0\/lev=1\/lev=2\/lev=3\/lev=4:=af;rcases i with rfl|rfl|rfl|rfl|rfl<;>(simp only[ko,List.getElem?_cons_zero,List.getElem?_cons_succ,aS]at c;subst c)
  ·refine key _ ?_ ?_ (H.next+1+1+1+1+1+1) (H.next+1+1+1+1+1+1+1+1+1+1+1+1) (H.next+1) (H.next+1+1+1+1+1+1+1) [[.aD (H.next+1) 0 1 1 (D 1)],[.aD (H.next+1+1) 0 1 1 (D 1)],[.aD (H.next+1+1+1) 0 4 1 (D 4)],[.aD (H.next+1+1+1+1) 0 2 1 (D 2)],[.aD (H.next+1+1+1+1+1) 0 3 1 (D 3)]] [[.aD (H.next+1+1+1+1+1+1+1) 0 1 1 (D 1)],[.aD (H.next+1+1+1+1+1+1+1+1) 0 1 1 (D 1)],[.aD (H.next+1+1+1+1+1+1+1+1+1) 0 4 1 (D 4)],[.aD (H.next+1+1+1+1+1+1+1+1+1+1) 0 2 1 (D 2)],[.aD (H.next+1+1+1+1+1+1+1+1+1+1+1) 0 3 1 (D 3)]] (D 1) (D 1) ?_ ?_ rfl rfl ?_ ?_
   ·exact((((((((((((aP.push H _).bI _).bI _).bI _).bI _).bI _).bI _).bI _).bI _).bI _).bI _).bI _).bI _
   all_goals (simp-implicitDefEqProofs(disch:=try exact aj)only[dO];try rfl)
  ·refine key _ ?_ ?_ (H.next+1+1+1+1+1+1) (H.next+1+1+1+1+1+1+1+1+1+1+1+1) (H.next+1+1) (H.next+1+1+1+1+1+1+1+1) [[.aD (H.next+1) 0 1 1 (D 1)],[.aD (H.next+1+1) 0 1 1 (D 1)],[.aD (H.next+1+1+1) 0 4 1 (D 4)],[.aD (H.next+1+1+1+1) 0 2 1 (D 2)],[.aD (H.next+1+1+1+1+1) 0 3 1 (D 3)]] [[.aD (H.next+1+1+1+1+1+1+1) 0 1 1 (D 1)],[.aD (H.next+1+1+1+1+1+1+1+1) 0 1 1 (D 1)],[.aD (H.next+1+1+1+1+1+1+1+1+1) 0 4 1 (D 4)],[.aD (H.next+1+1+1+1+1+1+1+1+1+1) 0 2 1 (D 2)],[.aD (H.next+1+1+1+1+1+1+1+1+1+1+1) 0 3 1 (D 3)]] (D 1) (D 1) ?_ ?_ rfl rfl ?_ ?_
   ·exact((((((((((((aP.push H _).bI _).bI _).bI _).bI _).bI _).bI _).bI _).bI _).bI _).bI _).bI _).bI _
   all_goals (simp-implicitDefEqProofs(disch:=try exact aj)only[dO];try rfl)
  ·refine key _ ?_ ?_ (H.next+1+1+1+1+1+1) (H.next+1+1+1+1+1+1+1+1+1+1+1+1) (H.next+1+1+1) (H.next+1+1+1+1+1+1+1+1+1) [[.aD (H.next+1) 0 1 1 (D 1)],[.aD (H.next+1+1) 0 1 1 (D 1)],[.aD (H.next+1+1+1) 0 4 1 (D 4)],[.aD (H.next+1+1+1+1) 0 2 1 (D 2)],[.aD (H.next+1+1+1+1+1) 0 3 1 (D 3)]] [[.aD (H.next+1+1+1+1+1+1+1) 0 1 1 (D 1)],[.aD (H.next+1+1+1+1+1+1+1+1) 0 1 1 (D 1)],[.aD (H.next+1+1+1+1+1+1+1+1+1) 0 4 1 (D 4)],[.aD (H.next+1+1+1+1+1+1+1+1+1+1) 0 2 1 (D 2)],[.aD (H.next+1+1+1+1+1+1+1+1+1+1+1) 0 3 1 (D 3)]] (D 4) (D 4) ?_ ?_ rfl rfl ?_ ?_
   ·exact((((((((((((aP.push H _).bI _).bI _).bI _).bI _).bI _).bI _).bI _).bI _).bI _).bI _).bI _).bI _
   all_goals (simp-implicitDefEqProofs(disch:=try exact aj)only[dO];try rfl)
  ·refine key _ ?_ ?_ (H.next+1+1+1+1+1+1) (H.next+1+1+1+1+1+1+1+1+1+1+1+1) (H.next+1+1+1+1) (H.next+1+1+1+1+1+1+1+1+1+1) [[.aD (H.next+1) 0 1 1 (D 1)],[.aD (H.next+1+1) 0 1 1 (D 1)],[.aD (H.next+1+1+1) 0 4 1 (D 4)],[.aD (H.next+1+1+1+1) 0 2 1 (D 2)],[.aD (H.next+1+1+1+1+1) 0 3 1 (D 3)]] [[.aD (H.next+1+1+1+1+1+1+1) 0 1 1 (D 1)],[.aD (H.next+1+1+1+1+1+1+1+1) 0 1 1 (D 1)],[.aD (H.next+1+1+1+1+1+1+1+1+1) 0 4 1 (D 4)],[.aD (H.next+1+1+1+1+1+1+1+1+1+1) 0 2 1 (D 2)],[.aD (H.next+1+1+1+1+1+1+1+1+1+1+1) 0 3 1 (D 3)]] (D 2) (D 2) ?_ ?_ rfl rfl ?_ ?_
   ·exact((((((((((((aP.push H _).bI _).bI _).bI _).bI _).bI _).bI _).bI _).bI _).bI _).bI _).bI _).bI _
   all_goals (simp-implicitDefEqProofs(disch:=try exact aj)only[dO];try rfl)
  ·refine key _ ?_ ?_ (H.next+1+1+1+1+1+1) (H.next+1+1+1+1+1+1+1+1+1+1+1+1) (H.next+1+1+1+1+1) (H.next+1+1+1+1+1+1+1+1+1+1+1) [[.aD (H.next+1) 0 1 1 (D 1)],[.aD (H.next+1+1) 0 1 1 (D 1)],[.aD (H.next+1+1+1) 0 4 1 (D 4)],[.aD (H.next+1+1+1+1) 0 2 1 (D 2)],[.aD (H.next+1+1+1+1+1) 0 3 1 (D 3)]] [[.aD (H.next+1+1+1+1+1+1+1) 0 1 1 (D 1)],[.aD (H.next+1+1+1+1+1+1+1+1) 0 1 1 (D 1)],[.aD (H.next+1+1+1+1+1+1+1+1+1) 0 4 1 (D 4)],[.aD (H.next+1+1+1+1+1+1+1+1+1+1) 0 2 1 (D 2)],[.aD (H.next+1+1+1+1+1+1+1+1+1+1+1) 0 3 1 (D 3)]] (D 3) (D 3) ?_ ?_ rfl rfl ?_ ?_
   ·exact((((((((((((aP.push H _).bI _).bI _).bI _).bI _).bI _).bI _).bI _).bI _).bI _).bI _).bI _).bI _
   all_goals (simp-implicitDefEqProofs(disch:=try exact aj)only[dO];try rfl)
def xQ{r:Nat}{T:List Tok}{au:ad}{H0:ae}{s0:an}(h:bQ H0 r T au s0){b t:Nat}(l:H0.next<=b)(u:H0.next<=t)(p:b≠t){x:aG}(d:Nat)(q:d<=1000)(N:Nat):
  ∀(j i:Nat),i+j=d->∀(m:Nat) (H:ae) (s:an),j<m->ca r H0 H->bJ H r au s->H.get b=D (.row U 2 [[Y [],I J 0]])->H.get t=D (.row U 2 [[Y x,I J d]])->
   W (nD (aE P aA) N m (.ptr r 0 0) (.ptr b 0 0) (I J d) (.ptr t 0 0) (I J i) H) λv H'=>v= .agg [Y x,I J d]/\ca r H0 H'/\bQ H' r T au (takeN T [93] j s)
 |0,i,n,0,H,s,hm,mt,a,c,e=>af
 |0,i,n,m+1,H,s,hm,mt,a,c,e=>by
  have k:¬((i:Int)<(d:Int)):=af;have z:=ae.aV c;simp-implicitDefEqProofs(disch:=try exact aj)only[nD,fK,gL,hq,gY,hK,gX,gK,reduceAdd,reduceLeDiff,reduceIte,ax,k,decide_false,c,e];exact bb.2 ⟨rfl,mt.cW (.inr l) _,h.mut (mt.cW (.inr l) _) (by
   have:=h.rd.lt;unfold bJ at a ⊢;rw[ae.get_set_other af];exact a)⟩
 |j+1,i,n,0,H,s,hm,mt,a,c,e=>af
 |j+1,i,n,m+1,H,s,hm,mt,a,c,e=>by
  have k:((i:Int)<(d:Int)):=af;have A:=h.rd.lt;simp-implicitDefEqProofs(disch:=try exact aj)only[nD,fK,gL,hq,gY,hK,gX,gK,reduceAdd,reduceLeDiff,reduceIte,ax,k,decide_true];refine aO (gN (h.mut mt a) [93] (by simp)) ?_;rintro _ o ⟨rfl,m2,w⟩;refine⟨m2.1,?_⟩;have hw:IntKind.i64.wrap ((i:Int)+1)=((i+1:Nat):Int):=by rw[wrap_i64 af af];simp
  simp-implicitDefEqProofs(disch:=try exact aj)only[fK,gL,hq,gY,hK,gX,gK,reduceAdd,reduceLeDiff,reduceIte,ax,hw];refine(xQ h l u p d q N j (i+1) af m o _ af (mt.trans m2) w.rd (m2.get c af) (m2.get e af)).mono ?_;rintro v H' ⟨rfl,aT,y⟩;exact⟨rfl,aT,y⟩
def E8{r:Nat}{T:List Tok}{au:ad}{H0:ae}{s0:an}(i:bQ H0 r T au s0){b t:Nat}(q:H0.next<=b)(h:H0.next<=t)(u:b≠t)(d:Nat)(x:d<=1000)(N:Nat)(p:d<N){H:ae}{s:an}(mt:ca r H0 H)(n:bJ H r au s)(j:H.get b=D (.row U 2 [[Y [],I J 0]]))
  (k:H.get t=D (.row U 2 [[Y [],I J d]])) {c:Bool} (w:(aZ T s [105,110,116]||aZ T s [98,111,111,108])=c):
  W (gY (aE P aA) N (.ptr r 0 0) (.ptr b 0 0) (I J d) (.ptr t 0 0) (C c) H) λv H'=>v= .agg [Y (fm T d s).1.1,I J (fm T d s).1.2]/\ca r H0 H'/\bQ H' r T au (fm T d s).2:=by
 have G:=i.rd.lt;have F:=ae.aV j;have L:=ae.aV k;have hle:=mt.1;have o:=i.mut mt n;have A:=o.bL.one;cases c with
 |true=>
  rw[show fm T d s=(((al T s.at_).text,(d:Int)),takeN T [93] d (av s)) by simp[fm,w]];simp-implicitDefEqProofs(disch:=try exact aj)only[fK,gL,gY,hK,gX,gK,reduceAdd,reduceLeDiff,reduceIte,ax];refine aO (h3 n o.bL) ?_;rintro _ H1 ⟨rfl,e⟩;refine⟨e.1,?_⟩;have a:=e.get k;have l:=ae.aV a;have y:=n.aL e;have m:=y;unfold bJ at m;have K:=y.lt;simp-implicitDefEqProofs(disch:=try exact aj)only[fK,gL,gY,hK,gX,gK,reduceAdd,reduceLeDiff,reduceIte,ax,Tok.v,a,m,A];simp only[hq];have m2:ca r H0 (H1.set t (.row U 2 [[Y (al T s.at_).text,I J d]])):=(mt.trans (e.mut _)).cW (.inr h) _;have B:bJ (H1.set t (.row U 2 [[Y (al T s.at_).text,I J d]])) r au s:=by
   unfold bJ;rw[ae.get_set_other af];exact m
  obtain⟨m3,z⟩:=e6 B (av s);refine xQ i q h u d x N d 0 af N _ _ p (m2.trans m3) z (m3.get ?_ af) (m3.get (ae.get_set_same l) af);rw[ae.get_set_other af];exact e.get j
 |false=>
  rw[show fm T d s=(((bq T s).1,(d:Int)),takeN T [93] d (bq T s).2) by simp[fm,w]];simp-implicitDefEqProofs(disch:=try exact aj)only[fK,gL,gY,hK,gX,gK,reduceAdd,reduceLeDiff,reduceIte,ax];refine aO (nh o) ?_;rintro _ H1 ⟨rfl,m1,E⟩;refine⟨m1.1,?_⟩;have a:=m1.get k af;have l:=ae.aV a;simp-implicitDefEqProofs(disch:=try exact aj)only[fK,gL,gY,hK,gX,gK,reduceAdd,reduceLeDiff,reduceIte,ax,a];simp only[hq];refine xQ i q h u d x N d 0 af N _ _ p ((mt.trans m1).cW (.inr h) _) ?_ ?_ (ae.get_set_same l)
  ·have:=E.rd;unfold bJ at this ⊢;rw[ae.get_set_other af];exact this
  ·rw[ae.get_set_other af];exact m1.get j af
def E7{r:Nat}{T:List Tok}{au:ad}{H0:ae}{s0:an}(e:bQ H0 r T au s0){b:Nat}(n:H0.next<=b)(d:Nat)(o:d<=1000)(N:Nat)(m:d<N){H:ae}{s:an}(mt:ca r H0 H)(c:bJ H r au s)(i:H.get b=D (.row U 2 [[Y [],I J 0]])):
  W (hK (aE P aA) N (.ptr r 0 0) (.ptr b 0 0) (I J d) H) λv H'=>v= .agg [Y (fm T d s).1.1,I J (fm T d s).1.2]/\ca r H0 H'/\bQ H' r T au (fm T d s).2:=by
 have z:=e.rd.lt;have y:=ae.aV i;have hle:=mt.1;have u:=e.mut mt c;simp-implicitDefEqProofs(disch:=try exact aj)only[fK,gL,hK,gX,gK,reduceAdd,reduceLeDiff,reduceIte,ax];have j:=aP.push H (.row U 2 [[Y [],I J d]]);have p:=ae.bM H (.row U 2 [[Y [],I J d]]);refine aO (dA (c.aL j) (u.bL.aL j) _ (by simp)) ?_;rintro _ w ⟨rfl,h⟩;refine⟨h.1,?_⟩;have a:=j.trans h;cases q:aZ T s [105,110,116]with
 |true=>
  simp-implicitDefEqProofs(disch:=try exact aj)only[fK,gL,hK,gX,gK,reduceAdd,reduceLeDiff,reduceIte,ax];exact E8 e n af af d o N m (mt.trans (a.mut _)) (c.aL a) (a.get i) (h.get p) (by simp[q])
 |false=>
  simp-implicitDefEqProofs(disch:=try exact aj)only[fK,gL,hK,gX,gK,reduceAdd,reduceLeDiff,reduceIte,ax];refine aO (dA (c.aL a) (u.bL.aL a) _ (by simp)) ?_;rintro _ x ⟨rfl,k⟩;refine⟨k.1,?_⟩;have l:=a.trans k
  try simp only[fK,gL,hK,gX,gK]
  exact E8 e n af af d o N m (mt.trans (l.mut _)) (c.aL l) (l.get i) ((h.trans k).get p) (by simp[q])
def LY{r:Nat}{T:List Tok}{au:ad}{H0:ae}{s0:an}(e:bQ H0 r T au s0){b:Nat}(q:H0.next<=b)(N:Nat)(z:3<N):
  ∀(n d:Nat),n+d=3->∀(m:Nat) (H:ae) (s:an),n<m->ca r H0 H->bJ H r au s->H.get b=D (.row U 2 [[Y [],I J 0]])->
   W (nE (aE P aA) N m (.ptr r 0 0) (.ptr b 0 0) (I J d) H) λv H'=>∃p:(aG×Int)×an,p=(match gH T n d s with| .inr s'=>(([],0),s')| .inl (d,s')=>fm T d s')/\v= .agg [Y p.1.1,I J p.1.2]/\ca r H0 H'/\bQ H' r T au p.2:=by
 intro n
 induction n with
 |zero=>
  intro d A m H s hm mt c h;obtain⟨m,rfl⟩:∃k,m=k+1:=⟨m-1,af⟩;have E:d=3:=af;subst E;have l:=e.mut mt c;have G:=e.rd.lt;have F:=ae.aV h;simp only[nE];rw[gX];refine aO (dA c l.bL [91] (by simp)) ?_;rintro _ H1 ⟨rfl,a⟩;refine⟨a.1,?_⟩;have i:=a.get h;cases j:aZ T s [91]with
  |true=>
   simp-implicitDefEqProofs(disch:=try exact aj)only[fK,gL,hq,gY,gX,gK,reduceAdd,reduceLeDiff,reduceIte,ax,beq_self_eq_true,Int.cast_ofNat_Int];refine aO (kr (l.aL a) 4) ?_;rintro _ O ⟨rfl,m2,L⟩;refine⟨m2.1,?_⟩;have u:=m2.get i af;have Q:=ae.aV u;simp-implicitDefEqProofs(disch:=try exact aj)only[fK,gL,hq,gY,gX,gK,reduceAdd,reduceLeDiff,reduceIte,ax,u];have m3:=((mt.trans (a.mut _)).trans m2).cW (.inr q) (.row U 2 [[Y [],I J 0]]);refine bb.2 ⟨(([],0),bE T 4 s),by simp[gH,j],rfl,m3,e.mut m3 ?_⟩;have:=L.rd;unfold bJ at this ⊢;rw[ae.get_set_other af];exact this
  |false=>
   simp-implicitDefEqProofs(disch:=try exact aj)only[fK,gL,hq,gY,gX,gK,reduceAdd,reduceLeDiff,reduceIte,ax];refine(E7 e q 3 af N z (mt.trans (a.mut _)) (c.aL a) i).mono ?_;rintro v H' ⟨rfl,aT,o⟩;exact⟨fm T 3 s,by simp[gH,j],rfl,aT,o⟩
 |succ n M=>
  intro d A m H s hm mt c h;obtain⟨m,rfl⟩:∃k,m=k+1:=⟨m-1,af⟩;have l:=e.mut mt c;have G:=e.rd.lt;have F:=ae.aV h;have K:=l.bL.one;simp only[nE];rw[gX];refine aO (dA c l.bL [91] (by simp)) ?_;rintro _ H1 ⟨rfl,a⟩;refine⟨a.1,?_⟩;have i:=a.get h;have w:=c.aL a;have x:=w;unfold bJ at x;cases j:aZ T s [91]with
  |true=>
   have y:((d:Int)==3)=false:=by simp;omega
   have hw:IntKind.i64.wrap ((d:Int)+1)=((d+1:Nat):Int):=by rw[wrap_i64 af af];simp
   obtain⟨m2,B⟩:=e6 w (av s);simp-implicitDefEqProofs(disch:=try exact aj)only[fK,gL,hq,gY,gK,reduceAdd,reduceLeDiff,reduceIte,ax,y,hw,x,K];refine(M (d+1) af m _ _ af ((mt.trans (a.mut _)).trans m2) B (m2.get i af)).mono ?_;rintro v H' ⟨p,aC,rfl,aT,o⟩;exact⟨p,by rw[aC];simp[gH,j],rfl,aT,o⟩
  |false=>
   simp-implicitDefEqProofs(disch:=try exact aj)only[fK,gL,hq,gY,gK,reduceAdd,reduceLeDiff,reduceIte,ax];refine(E7 e q d af N af (mt.trans (a.mut _)) (c.aL a) i).mono ?_;rintro v H' ⟨rfl,aT,o⟩;exact⟨fm T d s,by simp[gH,j],rfl,aT,o⟩
def si{H:ae}{r:Nat}{T:List Tok}{au:ad}{s:an}(a:bQ H r T au s):W (aE P aA 53 [.ptr r 0 0] H) λv H'=>v= .agg [Y (cO T s).1.1,I J (cO T s).1.2]/\ca r H H'/\bQ H' r T au (cO T s).2:=by
 refine cG (λ_=>Mz 10) ?_;simp only[fK,gL,hq,gY,gK,cT];have p:=aP.push H (.row U 2 [[Y [],I J 0]]);refine(LY a (bm _) 10 af 3 0 rfl 10 _ s af (p.mut _) (a.rd.aL p) (ae.bM _ _)).mono ?_;rintro v H' ⟨q,c,rfl,aT,d⟩;have:q=cO T s:=by rw[c];rfl
 subst this;exact⟨rfl,aT,d⟩
def kP(ok:Nat->Prop)(H:ae)(r:Nat)(T:List Tok)(au:ad)(e:aJ)(s':an)(v:ad)(H':ae):Prop:=ca r H H'/\bQ H' r T au s'/\cJ H' ok e v
abbrev dS(H:ae):=kP (bn H.next) H
def dS.box{H c:ae}{r:Nat}{T:List Tok}{au:ad}{s s':an}{a:bK}{ks:List aJ}{kv:ad}{b:Nat}{lo:Nat}(h:bQ H r T au s)(m:ca r H c)(e:bJ c r au s')(i:H.next<=b)(n:b<lo)(j:ck c (bn lo) ks kv)(d:bW):
  dS H r T au (.mk a ks) s' (.agg (a.cells kv)) (c.set b d):=by
 have k:=h.rd.lt;have m':=m.cW (.inr i) d;refine⟨m',h.mut m' ?_,?_⟩
 ·unfold bJ at e ⊢;rw[ae.get_set_other af];exact e
 ·rw[hQ];exact⟨kv,rfl,j.aW (dp.set _ (by unfold bn;omega) λl k=>by unfold bn at*;omega)⟩
def kP.fin{ok:Nat->Prop}{H bP:ae}{r:Nat}{T:List Tok}{au:ad}{s s':an}{a:bK}{ks:List aJ}{kv:ad}(e:bQ H r T au s)(m:ca r H bP)(c:bJ bP r au s')(d:ck bP ok ks kv):kP ok H r T au (.mk a ks) s' (.agg (a.cells kv)) bP:=
 ⟨m,e.mut m c,hQ.2 ⟨kv,rfl,d⟩⟩
def dS.ret{H a:ae}{r:Nat}{T:List Tok}{au:ad}{s s':an}{e:aJ}{v:ad}{b n:Nat}(i:bQ H r T au s)(m:ca r H a)(d:bJ a r au s')(j:H.next<=b)(he:cJ a (bn n) e v)(k:b<n)(c:bW):dS H r T au e s' v (a.set b c):=by
 have o:=i.rd.lt;have m':=m.cW (.inr j) c;refine⟨m',i.mut m' ?_,he.new (c7.cW (S:=(· <n)) (c7.refl _ _) (.inl k) _) λl h=>by unfold bn;omega⟩;unfold bJ at d ⊢;rw[ae.get_set_other af];exact d
def j9(n:Nat):Prop:=∀{H:ae} {r:Nat} {T:List Tok} {au:ad} {s:an},bQ H r T au s->∀(lev:Nat),lev<=5->∀(e:aJ) (s':an),eA T n lev s=D (e,s')->W (aE P aA 40 [.ptr r 0 0,I J lev] H) (dS H r T au e s')
def vA(n:Nat):Prop:=∀{H:ae} {r:Nat} {T:List Tok} {au:ad} {s:an},bQ H r T au s->∀(e:aJ) (s':an),j4 T n s=D (e,s')->W (aE P aA 69 [.ptr r 0 0] H) (dS H r T au e s')
def vg(n:Nat):Prop:=∀{ok:Nat->Prop} {H:ae} {r:Nat} {T:List Tok} {au:ad} {s:an} {e:aJ} {v:ad},bQ H r T au s->cJ H ok e v->¬ok r->(∀l,H.next<=l->ok l)->∀(a:aJ) (s':an),fC T n e s=D (a,s')->W (aE P aA 82 [.ptr r 0 0,v] H) (kP ok H r T au a s')
def nZ(n:Nat):Prop:=∀{H:ae} {r:Nat} {T:List Tok} {au:ad} {s:an},bQ H r T au s->∀(e:aJ) (s':an),hC T n s=D (e,s')->W (aE P aA 92 [.ptr r 0 0] H) (dS H r T au e s')
def vk(n:Nat):Prop:=∀{H:ae} {r:Nat} {T:List Tok} {au:ad} {s:an},bQ H r T au s->∀(e:aJ) (s':an),ih T n s=D (e,s')->W (aE P aA 83 [.ptr r 0 0] H) (dS H r T au e s')
def q3(n:Nat):Prop:=∀{H:ae} {r:Nat} {T:List Tok} {au:ad} {s:an},bQ H r T au s->∀(pos:Int) (e:aJ) (s':an),kY T n pos s=D (e,s')->W (aE P aA 91 [.ptr r 0 0,I J pos] H) (dS H r T au e s')
def qZ(n:Nat):Prop:=∀{H:ae} {r:Nat} {T:List Tok} {au:ad} {s:an},bQ H r T au s->∀(l:List aJ) (s':an),iH T n s=D (l,s')->W (aE P aA 93 [.ptr r 0 0] H) λv H'=>ca r H H'/\bQ H' r T au s'/\ck H' (bn H.next) l v
structure Hp(n:Nat):Prop where
 expr:j9 n
 unary:vA n
 behind:vg n
 inner:nZ n
 first:vk n
 fresh:q3 n
 args:qZ n
def Kj{n:Nat}(K:j9 n):nZ (n+1):=by
 intro H r T au s a e s' h;refine cG (λ_=>MY 0) ?_;have O:=a.rd.lt;have q:=aP.push H (.row U 11 [[I J 0,I J 0,Y [],Y [],I J 0,.az,I J 0,I J 0,I J 0,I J 0,I J 0]]);simp only[hC,c1]at h;obtain⟨⟨w,s1⟩,x,i⟩:=h;simp only[aS,b5]at i;obtain⟨rfl,rfl⟩:=i;simp-implicitDefEqProofs(disch:=try exact aj)only[ph,reduceAdd,reduceLeDiff,reduceIte,ax];refine aO (qi (a.aL q) [40] (by simp)) ?_;rintro _ u ⟨rfl,m2,E⟩;refine⟨m2.1,?_⟩;have y:=m2.get (ae.bM H _) af;have L:=(q.mut (· =r)).trans m2;simp-implicitDefEqProofs(disch:=try exact aj)only[ph,reduceAdd,reduceLeDiff,reduceIte,ax]
 refine aO (K E 0 af w s1 x) ?_;rintro v d ⟨m3,F,m⟩;refine⟨m3.1,?_⟩;have j:=m3.get y af;have P:=ae.aV j;obtain⟨cs,rfl,hlen,o⟩:=m.cells;have p:List.take 11 cs=cs:=List.take_of_length_le af;simp-implicitDefEqProofs(disch:=try exact aj)only[ph,reduceAdd,reduceLeDiff,reduceIte,ax,hlen,o,List.append_nil,p];have c:=aP.push d (.row U 11 [cs]);refine aO (qe (F.aL c) [41] (by simp)) ?_;rintro _ M ⟨rfl,m5,G⟩;refine⟨m5.1,?_⟩;have k:=m5.get (c.get j) af;have Q:=ae.aV k;have z:=m5.get (ae.bM d (.row U 11 [cs])) af;have B:=m2.1;simp only[ae.b8]at B;simp-implicitDefEqProofs(disch:=try exact aj)only[ph,reduceAdd,reduceLeDiff,reduceIte,ax,hlen,o,List.append_nil,p,k,z]
 refine bb.2 (dS.ret a (((L.trans m3).trans (c.mut _)).trans m5) G.rd (bm _) (n:=u.next) (m.new ?_ λ_ h=>h) af _);exact((aP.push _ _).mut _).trans ⟨m5.1,λl A N=>m5.2 l A af⟩
def JT{n:Nat}(ad:nZ n):q3 (n+1):=by
 intro H r T au s c pos e s' h;refine cG (λ_=>MX 0) ?_;have ai:=c.rd.lt;have R:=c.bL.one;have K:=aP.push H (.row U 11 [[I J 0,I J 0,Y [],Y [],I J 0,.az,I J 0,I J 0,I J 0,I J 0,I J 0]]);simp-implicitDefEqProofs(disch:=try exact aj)only[lA,reduceAdd,reduceLeDiff,reduceIte,ax];have q:=c.aL K;refine aO (dA q.rd q.bL [91] (by simp)) ?_;rintro _ ag ⟨rfl,k⟩;refine⟨k.1,?_⟩;have G:=q.aL k;have o:=k.get (ae.bM H (.row U 11 [[I J 0,I J 0,Y [],Y [],I J 0,.az,I J 0,I J 0,I J 0,I J 0,I J 0]]))
 have am:=ae.aV o;have j:=(K.trans k).mut (· =r);simp only[kY]at h;cases B:aZ T s [91]with
 |true=>
  simp only[B,aR,c1]at h;obtain⟨⟨M,s1⟩,N,x⟩:=h;simp only[aS,b5]at x;obtain⟨rfl,rfl⟩:=x;have i:=G.rd;have F:=i;unfold bJ at F;obtain⟨m3,O⟩:=e6 i (av s);simp-implicitDefEqProofs(disch:=try exact aj)only[lA,reduceAdd,reduceLeDiff,reduceIte,ax,F,R,Bool.not_true];refine aO (si (c.mut (j.trans m3) O)) ?_;rintro _ m ⟨rfl,m5,u⟩;refine⟨m5.1,?_⟩;have d:=m5.get (m3.get o af) af;have Q:=ae.aV d;simp-implicitDefEqProofs(disch:=try exact aj)only[lA,reduceAdd,reduceLeDiff,reduceIte,ax];have w:=aP.push m (.row U 2 [[Y (cO T (av s)).1.1,I J (cO T (av s)).1.2]]);have W:=ae.bM m (.row U 2 [[Y (cO T (av s)).1.1,I J (cO T (av s)).1.2]])
  refine aO (gN (u.aL w) [93] (by simp)) ?_;rintro _ ah ⟨rfl,m8,aa⟩;refine⟨m8.1,?_⟩;have y:=m8.get (w.get d) af;have p:=m8.get W af;have ak:=ae.aV y;have an:=ae.aV p;simp-implicitDefEqProofs(disch:=try exact aj)only[lA,reduceAdd,reduceLeDiff,reduceIte,ax];refine aO (ad aa M s1 N) ?_;rintro v L ⟨m9,ab,A⟩;refine⟨m9.1,?_⟩;have z:=m9.get y af;have E:=m9.get p af;have al:=ae.aV z;have ao:=ae.aV E;have ap:=m9.1;obtain⟨cs,rfl,hlen,V⟩:=A.cells;have aB:∀l,b6 P l 41 1 [(0,.agg cs)]=D (.aD l 0 1 11 (D 1),.row U 11 [cs]):=λl=>j1 l cs hlen V
  replace j:=((((j.trans m3).trans m5).trans (w.mut _)).trans m8).trans m9;have i:=ab.rd;unfold bJ at i;simp-implicitDefEqProofs(disch:=try exact aj)only[lA,reduceAdd,reduceLeDiff,reduceIte,ax,aB,z,E,p];refine bb.2 ?_;refine kP.fin (ok:=bn H.next) (a:={kind:=9,cp:=(cO T (av s)).1.1,c2:=(cO T (av s)).1.2,pos:=pos}) (kv:= .aD L.next 0 1 11 (D 1)) (s':=s1) c ?_ ?_ (ck.oH (ro:=false) ?_ (by unfold bn;omega) (A.new ?_ λl h=>by unfold bn;omega))
  ·(repeat (first|exact j|refine c7.bI ?_ _|refine c7.cW (S:=(· =r)) ?_ (.inl rfl) _|refine c7.cW ?_ (.inr (by(first|omega|(simp only[ae.b8,ae.dz];omega)))) _))
  ·(unfold bJ;simp-implicitDefEqProofs(disch:=try exact aj)only[dO,i,av,dQ,eB])
  ·simp-implicitDefEqProofs(disch:=try exact aj)only[dO]
  ·exact c7.cW (S:=λl=>l<_) ((c7.refl _ _).bI _) (.inl af) _
 |false=>
  simp only[B,aK,aS,b5]at h;obtain⟨rfl,rfl⟩:=h;simp-implicitDefEqProofs(disch:=try exact aj)only[lA,reduceAdd,reduceLeDiff,reduceIte,ax,Bool.not_false];refine aO (nh G) ?_;rintro _ m ⟨rfl,m5,u⟩;refine⟨m5.1,?_⟩;have d:=m5.get o af;have Q:=ae.aV d;simp-implicitDefEqProofs(disch:=try exact aj)only[lA,reduceAdd,reduceLeDiff,reduceIte,ax,d];refine bb.2 ?_;exact dS.box (a:={kind:=8,cp:=(bq T s).1,pos:=pos}) (kv:= .az) (lo:=H.next+1) c (j.trans m5) u.rd (bm _) (Nat.lt_succ_self _) (ck.nil _ _) _
def ze{N:Nat}(R:∀k,k<N->j9 k){H0:ae}{r:Nat}{T:List Tok}{au:ad}{s0:an}(p:bQ H0 r T au s0):
  ∀(n m:Nat),n<N->n<m->∀(H:ae) (s:an) (l:List aJ) (L:Nat) (els:List (List ad)),ca r H0 H->bJ H r au s->l.length+n<=1000000000->H.get L=D (.row U 11 els)->H0.next<=L->els.length=l.length->
   dv H (λk=>H0.next<=k/\k≠L) l els->∀(l':List aJ) (s':an),hz T n l s=D (l',s')->
   W (pk (aE P aA) N m (.ptr r 0 0) (.aD L 0 l.length 11 Z) H) λv H'=>ca r H0 H'/\bQ H' r T au s'/\ck H' (bn H0.next) l' v
 |0,m,E,hm,H,s,l,L,els,d,w,hlen,u,q,j,z,l',s',h=>by simp[hz]at h
 |n+1,0,E,hm,H,s,l,L,els,d,w,hlen,u,q,j,z,l',s',h=>af
 |n+1,m+1,E,hm,H,s,l,L,els,d,w,hlen,u,q,j,z,l',s',h=>by
  have aC:=p.rd.lt;have al:=p.bL.one;have aF:=ae.aV u;have hle:=d.1;have O:=p.mut d w;simp only[hz]at h;simp only[pk];rw[pj];refine aO (dA w O.bL [44] (by simp)) ?_;rintro _ H1 ⟨rfl,a⟩;refine⟨a.1,?_⟩;have Q:=O.aL a;have A:=a.get u;have aG:=ae.aV A;have F:=z.aW (dp.aL a λ_ h=>h) l els;cases M:aZ T s [44]with
  |false=>
   simp only[M,aK,aS,b5]at h;obtain⟨rfl,rfl⟩:=h;simp-implicitDefEqProofs(disch:=try exact aj)only[h6,pj,iA,reduceAdd,reduceLeDiff,reduceIte,ax];refine aO (qe Q [41] (by simp)) ?_;rintro _ aw ⟨rfl,m2,ao⟩;refine⟨m2.1,?_⟩
   try simp only[h6,pj,iA]
   refine bb.2 ⟨(d.trans (a.mut _)).trans m2,ao,.inr (.inl ⟨L,0,Z,U,els,rfl,q,m2.get A af,?_⟩)⟩;rw[List.drop_zero];exact F.aW (dp.mut m2 af λ_ h=>h.1) l els
  |true=>
   simp only[M,aR,c1]at h;obtain⟨⟨i,s1⟩,S,V⟩:=h;have B:=Q.rd;have K:=B;unfold bJ at K;have aI:=B.lt;obtain⟨m2,ab⟩:=e6 B (av s);simp-implicitDefEqProofs(disch:=try exact aj)only[h6,pj,iA,reduceAdd,reduceLeDiff,reduceIte,ax,K,al];refine aO (R n af (p.mut ((d.trans (a.mut _)).trans m2) ab) 0 af i s1 S) ?_;rintro v c ⟨m3,ap,y⟩;refine⟨m3.1,?_⟩;have G:=m3.get (m2.get A af) af;have aH:=ae.aV G;have aM:=a.1;have ak:=m3.1;simp only[ae.dz]at ak y;have ag:=F.aW (dp.mut (m2.trans m3) af λ_ h=>h) l els;obtain⟨cs,rfl,ah,am⟩:=y.cells;have aB:∀l,b6 P l 41 1 [(0,.agg cs)]=D (.aD l 0 1 11 (D 1),.row U 11 [cs]):=λl=>j1 l cs ah am
   simp-implicitDefEqProofs(disch:=try exact aj)only[h6,iA,reduceAdd,reduceLeDiff,reduceIte,ax,aB];have ar:=aP.push c (.row U 11 [cs]);rw[Ir (ae.bM c (.row U 11 [cs])) (ar.get G) j af,e2 (by simp only[ae.b8,ae.dz];omega)];simp only[ae.b8,ae.dz,h6,iA];have ai:l.length+1=(l++[i]).length:=by simp
   rw[ai];have x:∀k,k<c.next->k≠L->(((c.push (.row U 11 [cs])).set L .dead).push (.row U 11 (els++[cs]))).get k=c.get k:=λk o ay=>by
    rw[ae.dC (by simp only[ae.b8,ae.dz];omega),ae.get_set_other af,ae.dC af]
   have aq:ca r H0 (((c.push (.row U 11 [cs])).set L .dead).push (.row U 11 (els++[cs]))):=((((d.trans (a.mut _)).trans m2).trans m3).bI _|>.cW (.inr q) _).bI _;refine ze R p n m af af _ s1 (l++[i]) (c.next+1) (els++[cs]) aq ?_ (by simp;omega) ?_ af (by simp[j]) ?_ l' s' V
   ·have:=ap.rd;unfold bJ at this ⊢;rw[x r af af];exact this
   ·exact ae.tg (by simp only[ae.b8,ae.dz];omega) (by simp only[ae.b8,ae.dz];omega)
   ·refine dv.append l els i cs ?_ j ?_
    ·exact ag.aW (λk ro es o e=>⟨⟨o.1,by have:=ae.aV e;omega⟩,by rw[x k (ae.aV e) o.2];exact e⟩) l els
    ·exact y.aW (λk ro es o e=>by
      have aa:=ae.aV e;unfold bn at o;exact⟨⟨af,af⟩,by rw[x k aa af];exact e⟩) i _
def IE{n:Nat}(Q:n<=900000000)(x:∀k,k<=n->j9 k):qZ (n+1):=by
 intro H r T au s e l s' h;refine cG (λ_=>MZ (n+1)) ?_;have K:=e.rd.lt;simp only[iH]at h;rw[iA];refine aO (qi e [40] (by simp)) ?_;rintro _ H1 ⟨rfl,m1,i⟩;refine⟨m1.1,?_⟩;simp-implicitDefEqProofs(disch:=try exact aj)only[h6,iA,reduceAdd,reduceLeDiff,reduceIte,ax];refine aO (dA i.rd i.bL [41] (by simp)) ?_;rintro _ F ⟨rfl,c⟩;refine⟨c.1,?_⟩;have w:=i.aL c;have y:=m1.trans (c.mut _);cases q:aZ T (ct T [40] s) [41]with
 |true=>
  simp only[q,aR,aS,b5]at h;obtain⟨rfl,rfl⟩:=h;simp-implicitDefEqProofs(disch:=try exact aj)only[h6,iA,reduceAdd,reduceLeDiff,reduceIte,ax];refine aO (qe w [41] (by simp)) ?_;rintro _ a ⟨rfl,m3,j⟩;refine⟨m3.1,?_⟩
  try simp only[h6,iA]
  exact bb.2 ⟨y.trans m3,j,ck.nil _ _⟩
 |false=>
  simp only[q,aK,c1]at h;obtain⟨⟨d,s1⟩,z,A⟩:=h;simp-implicitDefEqProofs(disch:=try exact aj)only[h6,iA,reduceAdd,reduceLeDiff,reduceIte,ax];refine aO (x n (bm _) w 0 af d s1 z) ?_;rintro v a ⟨m3,j,o⟩;refine⟨m3.1,?_⟩;have L:=m1.1;have M:=c.1;have O:=m3.1;obtain⟨cs,rfl,B,E⟩:=o.cells;have aB:∀l,b6 P l 41 1 [(0,.agg cs)]=D (.aD l 0 1 11 (D 1),.row U 11 [cs]):=λl=>j1 l cs B E
  simp-implicitDefEqProofs(disch:=try exact aj)only[h6,iA,reduceAdd,reduceLeDiff,reduceIte,ax,aB];have m:=(aP.push a (.row U 11 [cs])).bI (.row U 11 [cs]);rw[Iq (ae.bM a (.row U 11 [cs])),e2 (by simp only[ae.b8];omega)];simp only[ae.b8,h6,iA];refine ze (N:=n+1) (λk u=>x k af) e n (n+1) af af _ s1 [d] (a.next+1) [cs] ((y.trans m3).trans (m.mut _)) (j.rd.aL m) (by simp;omega) ?_ af rfl ?_ l s' A
  ·exact ae.tg (by simp only[ae.b8];omega) (by simp only[ae.b8];omega)
  ·rw[dv,dv];exact⟨o.aW (λk ro es u p=>by
    have G:=ae.aV p;unfold bn at u;exact⟨⟨af,af⟩,m.get p⟩) d _,trivial⟩
def vW{N B:Nat}(ar:∀k,k<B->j9 k){ok:Nat->Prop}{H0:ae}{r:Nat}{T:List Tok}{au:ad}{s0:an}(x:bQ H0 r T au s0)(R:¬ok r)(F:∀l,H0.next<=l->ok l):
  ∀(n m:Nat),n<=B->n<m->∀(H:ae) (s:an) (e:aJ) (cs o:List ad),ca r H0 H->bJ H r au s->H.get (H0.next+1)=D (.row U 11 [o])->o.length=11->H.get H0.next=D (.row U 11 [cs])->
   cJ H (λl=>ok l/\l≠H0.next/\l≠H0.next+1) e (.agg cs)->∀(a:aJ) (s':an),fC T n e s=D (a,s')->
   W (nK (aE P aA) N m (.ptr r 0 0) (.ptr H0.next 0 0) (.ptr (H0.next+1) 0 0) H) (kP ok H0 r T au a s')
 |0,m,aU,hm,H,s,e,cs,o,y,j,E,S,A,he,a,s',h=>by simp[fC]at h
 |n+1,0,aU,hm,H,s,e,cs,o,y,j,E,S,A,he,a,s',h=>af
 |n+1,m+1,aU,hm,H,s,e,cs,o,y,j,E,S,A,he,a,s',h=>by
  have bG:=x.rd.lt;have bt:=x.bL.one;have G:=x.mut y j;have bH:=ae.aV A;have bN:=ae.aV E;have hle:=y.1;obtain⟨bF,bi,hlen,ai⟩:=he.cells;cases bi;have ap:List.take 11 cs=cs:=List.take_of_length_le af;have bl:List.drop 11 o=[]:=List.drop_of_length_le af;have a6:List.drop 11 cs=[]:=List.drop_of_length_le af;have bu:=he.same;simp only[fC]at h;simp only[nK];rw[sv];refine aO (dA j G.bL [46] (by simp)) ?_;rintro _ H1 ⟨rfl,z⟩;refine⟨z.1,?_⟩;have fin:∀bP,aP H bP->(a,s')=(e,s)->W (pf (aE P aA) N (.ptr H0.next 0 0) (.ptr (H0.next+1) 0 0) bP) (kP ok H0 r T au a s'):=by
   intro bP p bp;cases bp;have aX:=p.get A;have a2:=p.get E;have dH:=ae.aV aX;have ff:=ae.aV a2;simp-implicitDefEqProofs(disch:=try exact aj)only[pf,jY,ly,iS,iT,iU,kE,sv,iV,iW,iz,reduceAdd,reduceLeDiff,reduceIte,ax,aX,a2,hlen,ai,List.append_nil,ap,bl];have m':=(y.trans (p.mut _)).cW (.inr (Nat.le_succ _)) (.row U 11 [cs]);refine bb.2 ⟨m',x.mut m' ?_,(he.aW (dp.aL p λ_ h=>h) e _).aW (dp.set _ af λl h=>h.1) e _⟩;have:=j.aL p;unfold bJ at this ⊢;rw[ae.get_set_other af];exact this
  have go:∀(aa:ae),aP H aa->(bif aZ T s [46]then fC T n (.mk {kind:=5,name:=(bq T (av s)).1,pos:=(al T s.at_).pos} [e]) (bq T (av s)).2 else(eA T n 0 (ct T [91] s)).bind λp=>fC T n (.mk {kind:=6,pos:=(al T s.at_).pos} [e,p.1]) (dm T [93] p.2))=D (a,s')->
    W (kE (aE P aA) (nK (aE P aA) N m) aa (.ptr r 0 0) (.ptr H0.next 0 0) (.ptr (H0.next+1) 0 0)) (kP ok H0 r T au a s'):=by
   intro aa V O;simp only[kE];refine aO (h3 (j.aL V) (G.bL.aL V)) ?_;rintro _ ab ⟨rfl,aG⟩;refine⟨aG.1,?_⟩;simp-implicitDefEqProofs(disch:=try exact aj)only[iU,iT,iS,reduceAdd,reduceLeDiff,reduceIte,ax,Tok.v];have aH:=(V.trans aG).bI (.row U 4 [[I J (al T s.at_).kind,Y (al T s.at_).text,I J (al T s.at_).n,I J (al T s.at_).pos]]);have bv:=ae.bM ab (.row U 4 [[I J (al T s.at_).kind,Y (al T s.at_).text,I J (al T s.at_).n,I J (al T s.at_).pos]]);refine aO (dA (j.aL aH) (G.bL.aL aH) [46] (by simp)) ?_;rintro _ aN ⟨rfl,aI⟩;refine⟨aI.1,?_⟩;have L:=aH.trans aI
   have am:=aI.get bv;have bO:=ae.aV am;have ag:=L.get A;have ah:=L.get E;have bg:=G.aL L;have ay:=y.trans (L.mut _);have a7:=he.aW (dp.aL L λ_ h=>h) e _;have bU:H.next<=ab.next:=(V.trans aG).1
   have bW:=ae.aV ag;cases a5:aZ T s [46]with
   |true=>
    simp only[a5,aR]at O;have ao:=bg.rd;have bf:=ao;unfold bJ at bf;have bR:=ao.lt;obtain⟨m8,bk⟩:=e6 ao (av s);simp-implicitDefEqProofs(disch:=try exact aj)only[ly,iS,iT,iU,kE,iV,iW,iz,reduceAdd,reduceLeDiff,reduceIte,ax,bf,bt];refine aO (nh (x.mut (ay.trans m8) bk)) ?_;rintro _ c ⟨rfl,m9,aq⟩;refine⟨m9.1,?_⟩;have aw:=m8.trans m9;have a0:=m8.get ag af;have a1:=m9.get a0 af;have a4:=aw.get ah af;have bd:=m8.get am af;have be:=m9.get bd af;have bX:=ae.aV a1;have b1:=ae.aV a4;have b3:=ae.aV be;have bh:(aN.set r (.row U 5 [[au,I J (IntKind.i64.wrap (s.at_+1)),I J s.a8,I J s.ak,I J s.bD]])).get H0.next=D (.row U 11 [cs]):=a0
    have bw:(aN.set r (.row U 5 [[au,I J (IntKind.i64.wrap (s.at_+1)),I J s.a8,I J s.ak,I J s.bD]])).get ab.next=D (.row U 4 [[I J (al T s.at_).kind,Y (al T s.at_).text,I J (al T s.at_).n,I J (al T s.at_).pos]]):=bd
    have aB:∀l,b6 P l 41 1 [(0,.agg cs)]=D (.aD l 0 1 11 (D 1),.row U 11 [cs]):=λl=>j1 l cs hlen ai
    simp-implicitDefEqProofs(disch:=try exact aj)only[ly,iS,iT,iU,kE,iV,iW,iz,reduceAdd,reduceLeDiff,reduceIte,ax,a1,bh,be,bw,aB,ap,a6,bu,Bool.and_true,Bool.and_self];simp only[jY];have bB:ca r H0 ((c.push (.row U 11 [cs])).set H0.next (.row U 11 [[I J 5,I J 0,Y (bq T (av s)).1,Y [],I J 0,.aD c.next 0 1 11 (D 1),I J (al T s.at_).pos,I J 0,I J 0,I J 0,I J 0]])):=((ay.trans aw).bI _).cW (.inr (bm _)) _;have i:∀k,k<c.next->k≠H0.next->((c.push (.row U 11 [cs])).set H0.next (.row U 11 [[I J 5,I J 0,Y (bq T (av s)).1,Y [],I J 0,.aD c.next 0 1 11 (D 1),I J (al T s.at_).pos,I J 0,I J 0,I J 0,I J 0]])).get k=c.get k:=λk br bs=>by
     rw[ae.get_set_other af,ae.dC af]
    refine vW ar x R F n m af af _ _ _ (bK.cells {kind:=5,name:=(bq T (av s)).1,pos:=(al T s.at_).pos} (.aD c.next 0 1 11 (D 1))) o bB ?_ ?_ S (ae.get_set_same (by simp only[ae.b8];omega)) ?_ a s' O
    ·have:=aq.rd;unfold bJ at this ⊢;rw[i r af af];exact this
    ·rw[i _ af af];exact a4
    ·rw[hQ];have Q:=a7.mut aw (by rintro⟨h,_⟩;exact R h) λ_ h=>h
     refine⟨_,rfl,ck.oH (ro:=false) ?_ ⟨F _ af,af,af⟩ (Q.aW (λl ro els w u=>⟨w,by rw[i l (ae.aV u) w.2.1];exact u⟩) e _)⟩;rw[ae.get_set_other af];exact ae.bM _ _
   |false=>
    simp only[a5,aK,c1]at O;obtain⟨⟨aQ,s1⟩,g1,g2⟩:=O;simp-implicitDefEqProofs(disch:=try exact aj)only[jY,iS,iT,iU,kE,iV,iW,iz,reduceAdd,reduceLeDiff,reduceIte,ax];refine aO (qi bg [91] (by simp)) ?_;rintro _ bE ⟨rfl,m8,bA⟩;refine⟨m8.1,?_⟩;simp-implicitDefEqProofs(disch:=try exact aj)only[jY,iS,iT,iU,kE,iV,iW,iz,reduceAdd,reduceLeDiff,reduceIte,ax];refine aO (ar n af bA 0 af aQ s1 g1) ?_;rintro v c ⟨m9,aq,Q⟩;refine⟨m9.1,?_⟩;obtain⟨d,rfl,a_,ba⟩:=Q.cells;have bx:List.take 11 d=d:=List.take_of_length_le af;simp-implicitDefEqProofs(disch:=try exact aj)only[jY,iS,iT,iU,kE,iV,iW,iz,reduceAdd,reduceLeDiff,reduceIte,ax,a_,ba,List.append_nil]
    have aC:=aP.push c (.row U 11 [d]);refine aO (qe (aq.aL aC) [93] (by simp)) ?_;rintro _ q ⟨rfl,m12,bz⟩;refine⟨m12.1,?_⟩;have K:=((m8.trans m9).trans (aC.mut _)).trans m12;have aY:=K.get ag af;have a3:=K.get ah af;have bc:=K.get am af;have bj:=m12.get (ae.bM c (.row U 11 [d])) (by have:=m8.1;have:=m9.1;omega);have bV:=ae.aV aY;have bY:=ae.aV a3;have b2:=ae.aV bc;have aB:∀l,b6 P l 41 2 [(0,.agg cs),(1,.agg d)]=D (.aD l 0 2 11 (D 2),.row U 11 [cs,d]):=λl=>x6 l cs d hlen ai a_ ba
    simp-implicitDefEqProofs(disch:=try exact aj)only[jY,iS,iT,iU,kE,iV,iW,iz,reduceAdd,reduceLeDiff,reduceIte,ax,aY,bj,bc,aB,ap,bx,a6];simp only[ly];have bC:ca r H0 ((q.push (.row U 11 [cs,d])).set H0.next (.row U 11 [[I J 6,I J 0,Y [],Y [],I J 0,.aD q.next 0 2 11 (D 2),I J (al T s.at_).pos,I J 0,I J 0,I J 0,I J 0]])):=((ay.trans K).bI _).cW (.inr (bm _)) _;have i:∀k,k<q.next->k≠H0.next->((q.push (.row U 11 [cs,d])).set H0.next (.row U 11 [[I J 6,I J 0,Y [],Y [],I J 0,.aD q.next 0 2 11 (D 2),I J (al T s.at_).pos,I J 0,I J 0,I J 0,I J 0]])).get k=q.get k:=λk br bs=>by
     rw[ae.get_set_other af,ae.dC af]
    refine vW ar x R F n m af af _ _ _ (bK.cells {kind:=6,pos:=(al T s.at_).pos} (.aD q.next 0 2 11 (D 2))) o bC ?_ ?_ S (ae.get_set_same (by simp only[ae.b8];omega)) ?_ a s' g2
    ·have:=bz.rd;unfold bJ at this ⊢;rw[i r af af];exact this
    ·rw[i _ af af];exact a3
    ·rw[hQ];have bo:=a7.mut K (by rintro⟨h,_⟩;exact R h) λ_ h=>h
     have bZ:=ae.aV ah;have bS:=m8.1;have bT:=m9.1;refine⟨_,rfl,ck.yq (ro:=false) ?_ ⟨F _ af,af,af⟩ (bo.aW (λl ro els w u=>⟨w,by rw[i l (ae.aV u) w.2.1];exact u⟩) e _) (Q.aW (λl ro els w u=> ?_) aQ _)⟩
     ·rw[ae.get_set_other af];exact ae.bM _ _
     ·unfold bn at w;have a9:=m12.get (aC.get u) af;exact⟨⟨F _ af,af,af⟩,by rw[i l (ae.aV a9) af];exact a9⟩
  cases M:aZ T s [46]with
  |true=>
   simp only[M,aR]at h;simp-implicitDefEqProofs(disch:=try exact aj)only[jY,ly,iS,iT,iU,iV,iW,iz,reduceAdd,reduceLeDiff,reduceIte,ax];exact go H1 z (by rw[M];exact h)
  |false=>
   simp only[M,aK]at h;simp-implicitDefEqProofs(disch:=try exact aj)only[jY,ly,iS,iT,iU,iV,iW,iz,reduceAdd,reduceLeDiff,reduceIte,ax];refine kb (dA (j.aL z) (G.bL.aL z) [91] (by simp)) ?_;rintro _ aM ⟨rfl,aF⟩;refine⟨aF.1,?_⟩;cases aT:aZ T s [91]with
   |true=>
    simp only[aT,aR]at h;simp-implicitDefEqProofs(disch:=try exact aj)only[jY,ly,iS,iT,iU,iV,iW,iz,reduceAdd,reduceLeDiff,reduceIte,ax];exact go aM (z.trans aF) (by rw[M];exact h)
   |false=>
    simp only[aT,aK,aS]at h;simp-implicitDefEqProofs(disch:=try exact aj)only[jY,ly,iS,iT,iU,iV,iW,iz,reduceAdd,reduceLeDiff,reduceIte,ax];exact fin aM (z.trans aF) h.symm
def IS{n:Nat}(u:∀k,k<=n->j9 k):vg (n+1):=by
 intro ok H r T au s e v d he p o i s' h;refine cG (λ_=>MT (n+2)) ?_;obtain⟨cs,rfl,hlen,q⟩:=he.cells;have j:∀l,d_ l (.agg cs)=D (.ptr l 0 0,.row U 11 [cs]):=λl=>by rw[hA l cs q,hlen]
 simp-implicitDefEqProofs(disch:=try exact aj)only[iz,iW,iV,reduceAdd,reduceLeDiff,reduceIte,ax,j];have c:=(aP.push H (.row U 11 [cs])).bI (.row U 11 [[I J 0,I J 0,Y [],Y [],I J 0,.az,I J 0,I J 0,I J 0,I J 0,I J 0]]);refine vW (N:=n+2) (B:=n+1) (λk w=>u k af) d p o (n+1) (n+2) af af _ s e cs [I J 0,I J 0,Y [],Y [],I J 0,.az,I J 0,I J 0,I J 0,I J 0,I J 0] (c.mut _) (d.rd.aL c) ?_ rfl ?_ ?_ i s' h
 ·simp-implicitDefEqProofs(disch:=try exact aj)only[dO]
 ·simp-implicitDefEqProofs(disch:=try exact aj)only[dO]
 ·exact he.aW (λl ro els m a=>⟨⟨m,by have:=ae.aV a;omega,by have:=ae.aV a;omega⟩,c.get a⟩) e _
def CK{T:List Tok}{s:an}{x:aG}(h:aZ T s x=X)(a:x≠[]):(al T s.at_).text≠[]:=by
 simp only[aZ,bo,Bool.and_eq_true,beq_iff_eq]at h;rw[h.2.2];exact a
def Fy{n:Nat}(L:j9 n){H0 H:ae}{r:Nat}{T:List Tok}{au:ad}{s:an}(c:bQ H0 r T au s)(i:aP H0 H)(o:H.get H0.next=D (.row U 11 [[I J 0,I J 0,Y [],Y [],I J 0,.az,I J 0,I J 0,I J 0,I J 0,I J 0]])){b:Nat}(N:H0.next<b)(d:H.get b=D (.row U 4 [[I J (al T s.at_).kind,Y (al T s.at_).text,I J (al T s.at_).n,I J (al T s.at_).pos]]))(B:(al T s.at_).text≠[]){k:Int}
  {j:aJ} {s':an} (h:lC T (n+1) k s=D (j,s')):W (mr (aE P aA) (.ptr r 0 0) (.ptr H0.next 0 0) (.ptr b 0 0) (I J k) H) (dS H0 r T au j s'):=by
 have O:=c.rd.lt;have E:=c.bL.one;have G:=c.aL i;have hle:=i.1;have R:=ae.aV d;have aa:=ae.aV o;simp only[lC,c1]at h;obtain⟨⟨z,s1⟩,A,m⟩:=h;simp only[aS,b5]at m;obtain⟨rfl,rfl⟩:=m;simp-implicitDefEqProofs(disch:=try exact aj)only[mr,jz,iR,reduceAdd,reduceLeDiff,reduceIte,ax,d];refine aO (qi G _ B) ?_;rintro _ H1 ⟨rfl,m1,K⟩;refine⟨m1.1,?_⟩;simp-implicitDefEqProofs(disch:=try exact aj)only[mr,jz,iR,reduceAdd,reduceLeDiff,reduceIte,ax];refine aO (L K 5 af z s1 A) ?_;rintro v y ⟨m2,x,q⟩;refine⟨m2.1,?_⟩;have ag:=m1.1;have ah:=m2.1;have m12:=m1.trans m2;have p:=m12.get o af;have w:=m12.get d af;have Q:=ae.aV p
 have V:=ae.aV w;obtain⟨cs,rfl,hlen,u⟩:=q.cells;have F:List.take 11 cs=cs:=List.take_of_length_le af;have aB:∀l,b6 P l 41 1 [(0,.agg cs)]=D (.aD l 0 1 11 (D 1),.row U 11 [cs]):=λl=>j1 l cs hlen u
 have e:=x.rd;unfold bJ at e;have ab:=x.rd.lt;have M:=(i.mut (· =r)).trans m12;simp-implicitDefEqProofs(disch:=try exact aj)only[mr,jz,iR,reduceAdd,reduceLeDiff,reduceIte,ax,hlen,u,List.append_nil,F,aB,e,E,p,w];refine bb.2 ?_;refine kP.fin (ok:=bn H0.next) (a:={kind:=k,pos:=(al T s.at_).pos}) (kv:= .aD (y.next+1) 0 1 11 (D 1)) (s':=dQ s1) c ?_ ?_ (ck.oH (ro:=false) ?_ (by unfold bn;omega) (q.new ?_ λl h=>by unfold bn;omega))
 ·(repeat (first|exact M|refine c7.bI ?_ _|refine c7.cW (S:=(· =r)) ?_ (.inl rfl) _|refine c7.cW ?_ (.inr (by(first|omega|(simp only[ae.b8,ae.dz];omega)))) _))
 ·(unfold bJ;simp-implicitDefEqProofs(disch:=try exact aj)only[dO,e,av,dQ,eB])
 ·simp-implicitDefEqProofs(disch:=try exact aj)only[dO]
 ·exact c7.cW (S:=λl=>l<_) ((c7.cW (S:=λl=>l<_) ((c7.refl _ _).bI _) (.inl af) _).bI _) (.inl af) _
def PX{n:Nat}(F:∀k,k<=n->j9 k)(ab:vk n)(aa:vg n):vA (n+1):=by
 intro H r T au s a e s' h;refine cG (λ_=>MM 0) ?_;have ak:=a.rd.lt;simp only[j4]at h;have u:=aP.push H (.row U 11 [[I J 0,I J 0,Y [],Y [],I J 0,.az,I J 0,I J 0,I J 0,I J 0,I J 0]]);simp-implicitDefEqProofs(disch:=try exact aj)only[iR,jz,reduceAdd,reduceLeDiff,reduceIte,ax];refine aO (h3 (a.rd.aL u) (a.bL.aL u)) ?_;rintro _ K ⟨rfl,x⟩;refine⟨x.1,?_⟩;have L:=x.get (ae.bM H _);have am:=ae.aV L;simp-implicitDefEqProofs(disch:=try exact aj)only[jz,iR,reduceAdd,reduceLeDiff,reduceIte,ax,Tok.v];have G:=x.bI (.row U 4 [[I J (al T s.at_).kind,Y (al T s.at_).text,I J (al T s.at_).n,I J (al T s.at_).pos]])
 have Q:=ae.bM K (.row U 4 [[I J (al T s.at_).kind,Y (al T s.at_).text,I J (al T s.at_).n,I J (al T s.at_).pos]]);have w:=u.trans G;refine aO (dA (a.rd.aL w) (a.bL.aL w) [45] (by simp)) ?_;rintro _ ad ⟨rfl,i⟩;refine⟨i.1,?_⟩;have c:=w.trans i;have E:=i.get Q;have z:=(G.trans i).get (ae.bM H _);cases m:aZ T s [45]with
 |true=>
  simp only[m,aR]at h;have q:(al T s.at_).text≠[]:=CK m (by simp);simp-implicitDefEqProofs(disch:=try exact aj)only[jz,iR,reduceAdd,reduceLeDiff,reduceIte,ax];cases n with
  |zero=>simp[lC]at h
  |succ n=>exact Fy (F n af) a c z af E q h
 |false=>
  simp only[m,aK]at h;simp-implicitDefEqProofs(disch:=try exact aj)only[jz,iR,reduceAdd,reduceLeDiff,reduceIte,ax];refine aO (dA (a.rd.aL c) (a.bL.aL c) [33] (by simp)) ?_;rintro _ ag ⟨rfl,j⟩;refine⟨j.1,?_⟩;have d:=c.trans j;have R:=j.get E;have p:=j.get z;cases o:aZ T s [33]with
  |true=>
   simp only[o,aR]at h;have q:(al T s.at_).text≠[]:=CK o (by simp);simp-implicitDefEqProofs(disch:=try exact aj)only[jz,iR,reduceAdd,reduceLeDiff,reduceIte,ax];cases n with
   |zero=>simp[lC]at h
   |succ n=>exact Fy (F n af) a d p af R q h
  |false=>
   simp only[o,aK,c1]at h;obtain⟨⟨y,s1⟩,g1,g2⟩:=h;simp-implicitDefEqProofs(disch:=try exact aj)only[jz,iR,reduceAdd,reduceLeDiff,reduceIte,ax];refine aO (ab (a.aL d) y s1 g1) ?_;rintro v ah ⟨m6,V,N⟩;refine⟨m6.1,?_⟩;have aq:=d.1;have ap:=m6.1;have M:=m6.get p af;simp-implicitDefEqProofs(disch:=try exact aj)only[jz,iR,reduceAdd,reduceLeDiff,reduceIte,ax];have an:=ae.aV p;refine aO (aa (ok:=bn (H.next+1)) V (N.aW (dp.aL (aP.refl _) λl O=>by unfold bn at*;omega) y _) (by unfold bn;omega) (λl O=>by unfold bn;omega) e s' g2) ?_;rintro v ai ⟨m7,W,B⟩;refine⟨m7.1,?_⟩;have A:=m7.get M af;have ao:=ae.aV A
   obtain⟨cs,rfl,hlen,P⟩:=B.cells;have S:List.take 11 cs=cs:=List.take_of_length_le af;simp-implicitDefEqProofs(disch:=try exact aj)only[jz,iR,reduceAdd,reduceLeDiff,reduceIte,ax,A,hlen,P,List.append_nil,S];exact bb.2 (dS.ret a (((d.mut _).trans m6).trans m7) W.rd (bm _) B (Nat.lt_succ_self _) _)
def Au{N:Nat}{H0 H:ae}{r:Nat}{T:List Tok}{au:ad}{s0 s:an}(j:bQ H0 r T au s0)(p:ca r H0 H)(i:bJ H r au s){b3:Nat}{cs a:List ad}{e:aJ}(c:H.get H0.next=D (.row U 11 [a]))(y:a.length=11)(d:H.get b3=D (.row U 11 [cs]))(u:H0.next<b3)
  (he:cJ H (λl=>H0.next<l/\l≠b3) e (.agg cs)):W (o0 (aE P aA) N (.ptr H0.next 0 0) (.ptr b3 0 0) H) (dS H0 r T au e s):=by
 have v:=j.rd.lt;have w:=ae.aV c;have x:=ae.aV d;obtain⟨q,k,hlen,n⟩:=he.cells;cases k;have o:List.take 11 cs=cs:=List.take_of_length_le af;have m:List.drop 11 a=[]:=List.drop_of_length_le af;simp-implicitDefEqProofs(disch:=try exact aj)only[o0,iQ,so,iv,iw,ix,iu,reduceAdd,reduceLeDiff,reduceIte,ax,c,d,hlen,n,List.append_nil,o,m];have m':=p.cW (.inr (bm _)) (.row U 11 [cs]);refine bb.2 ⟨m',j.mut m' ?_,he.aW (dp.set _ af λl h=>by unfold bn;omega) e _⟩;unfold bJ at i ⊢;rw[ae.get_set_other af];exact i
def Av{N B:Nat}(aH:∀k,k<B->j9 k){H0:ae}{r:Nat}{T:List Tok}{au:ad}{s0:an}(o:bQ H0 r T au s0){lev:Nat}(S:lev<5){b3:Nat}(F:H0.next<b3):
  ∀(n m:Nat),n<=B->n<m->∀(H:ae) (s:an) (e:aJ) (cs x:List ad),ca r H0 H->bJ H r au s->H.get H0.next=D (.row U 11 [x])->x.length=11->H.get b3=D (.row U 11 [cs])->
   cJ H (λl=>H0.next<l/\l≠b3) e (.agg cs)->∀(p:aJ) (s':an),ig T n lev e s=D (p,s')->
   W (o1 (aE P aA) N m (.ptr r 0 0) (I J lev) (.ptr H0.next 0 0) (.ptr b3 0 0) H) (dS H0 r T au p s')
 |0,m,ai,hm,H,s,e,cs,x,u,c,y,A,q,he,p,s',h=>by simp[ig]at h
 |n+1,0,ai,hm,H,s,e,cs,x,u,c,y,A,q,he,p,s',h=>af
 |n+1,m+1,ai,hm,H,s,e,cs,x,u,c,y,A,q,he,p,s',h=>by
  have bp:=o.rd.lt;have aG:=o.mut u c;have br:=ae.aV q;obtain⟨bl,aZ,hlen,a6⟩:=he.cells;cases aZ;have bd:List.take 11 cs=cs:=List.take_of_length_le af;have a0:List.drop 11 cs=[]:=List.drop_of_length_le af;have a5:=o.bL.one;simp only[ig]at h;simp only[o1];rw[so];refine aO (k9 c) ?_;rintro _ H1 ⟨rfl,rfl⟩;refine⟨bm _,?_⟩;cases aq:s.ak==0 with
  |false=>
   simp only[aq,Bool.false_and,aK,aS,b5]at h;obtain⟨rfl,rfl⟩:=h;simp-implicitDefEqProofs(disch:=try exact aj)only[iQ,iv,iw,ix,iu,reduceAdd,reduceLeDiff,reduceIte,ax];exact Au o u c y A q F he
  |true=>
   simp only[aq,Bool.true_and]at h;simp-implicitDefEqProofs(disch:=try exact aj)only[iQ,iv,iw,ix,iu,reduceAdd,reduceLeDiff,reduceIte,ax];refine kb (h3 c aG.bL) ?_;rintro _ H1 ⟨rfl,aM⟩;refine⟨aM.1,?_⟩;simp-implicitDefEqProofs(disch:=try exact aj)only[iQ,iv,iw,ix,iu,reduceAdd,reduceLeDiff,reduceIte,ax];refine kb (Db lev S (al T s.at_)) ?_;rintro _ bk ⟨rfl,aN⟩;refine⟨aN.1,?_⟩;have d:=aM.trans aN;cases z:eO lev (al T s.at_) != 0 with
   |false=>
    simp only[z,aK,aS,b5]at h;obtain⟨rfl,rfl⟩:=h;simp-implicitDefEqProofs(disch:=try exact aj)only[iQ,iv,iw,ix,iu,reduceAdd,reduceLeDiff,reduceIte,ax,z];exact Au o (u.trans (d.mut _)) (c.aL d) (d.get y) A (d.get q) F (he.aW (dp.aL d λ_ h=>h) e _)
   |true=>
    simp only[z,aR,c1]at h;obtain⟨⟨ah,s1⟩,aT,aU⟩:=h;simp-implicitDefEqProofs(disch:=try exact aj)only[iQ,iv,iw,ix,iu,reduceAdd,reduceLeDiff,reduceIte,ax,z];refine aO (h3 (c.aL d) (aG.bL.aL d)) ?_;rintro _ aQ ⟨rfl,aa⟩;refine⟨aa.1,?_⟩;have w:=(d.trans aa).bI (.row U 4 [[I J (al T s.at_).kind,Y (al T s.at_).text,I J (al T s.at_).n,I J (al T s.at_).pos]]);have a7:=ae.bM aQ (.row U 4 [[I J (al T s.at_).kind,Y (al T s.at_).text,I J (al T s.at_).n,I J (al T s.at_).pos]]);have O:=c.aL (d.trans aa);have bc:=c.aL w;have aF:=O;unfold bJ at aF;have bx:=O.lt
    obtain⟨m6,a1⟩:=e6 bc (av s);have hw:IntKind.i64.wrap ((lev:Int)+1)=((lev+1:Nat):Int):=by rw[wrap_i64 af af];simp
    simp-implicitDefEqProofs(disch:=try exact aj)only[iQ,iv,iw,ix,iu,reduceAdd,reduceLeDiff,reduceIte,ax,Tok.v,aF,a5,hw];have aI:=(u.trans (w.mut _)).trans m6;have bf:=o.mut aI a1;refine aO (aH n af bf (lev+1) af ah s1 aT) ?_;rintro v Q ⟨m7,bg,G⟩;refine⟨m7.1,?_⟩;have aX:=m6.get (w.get q) af;have R:=m7.get aX af;have bs:=ae.aV R;have a8:=m6.get a7 (by have:=ae.aV O;omega);have M:=m7.get a8 (by have:=ae.aV O;omega);have bv:=ae.aV M;have a4:=m7.1;have a3:=w.1;simp only[ae.dz,ae.b8]at a4 a3 G;obtain⟨a,rfl,aw,ay⟩:=G.cells;have be:List.take 11 a=a:=List.take_of_length_le af;simp-implicitDefEqProofs(disch:=try exact aj)only[iQ,iv,iw,ix,iu,reduceAdd,reduceLeDiff,reduceIte,ax,aw,ay,List.append_nil,M]
    have ab:=aP.push Q (.row U 11 [a]);refine aO (Db (H:=Q.push (.row U 11 [a])) lev S (al T s.at_)) ?_;rintro _ i ⟨rfl,ag⟩;refine⟨ag.1,?_⟩;have j:=ab.trans ag;have ap:=ag.get (ae.bM Q (.row U 11 [a]));have ao:=j.get R;have aC:=j.get M;have bA:=ae.aV ap;have bt:=ae.aV ao;have bw:=ae.aV aC;have aB:∀l,b6 P l 41 2 [(0,.agg cs),(1,.agg a)]=D (.aD l 0 2 11 (D 2),.row U 11 [cs,a]):=λl=>x6 l cs a hlen a6 aw ay
    have a_:=he.same;have ba:=G.same;have bb:bh (D (.agg [I J (al T s.at_).kind,Y (al T s.at_).text,I J (al T s.at_).n,I J (al T s.at_).pos])) (.agg [I J (al T s.at_).kind,Y (al T s.at_).text,I J (al T s.at_).n,I J (al T s.at_).pos])=true:=by simp[bh,ad.beq,gA.beq]
    have aY:=ab.get R;have a9:=ab.get M;simp-implicitDefEqProofs(disch:=try exact aj)only[iv,iw,ix,iu,reduceAdd,reduceLeDiff,reduceIte,ax,ao,ap,aC,bd,be,a0,aB,a_,ba,bb,aY,a9,Bool.and_true,Bool.and_self];rw[iQ];have bj:=((aI.trans m7).trans (j.mut _));have bi:ca r H0 ((i.push (.row U 11 [cs,a])).set b3 (.row U 11 [[I J (eO lev (al T s.at_)),I J 0,Y [],Y [],I J 0,.aD i.next 0 2 11 (D 2),I J (al T s.at_).pos,I J 0,I J 0,I J 0,I J 0]])):=(bj.bI _).cW (.inr (Nat.le_of_lt F)) _;have E:∀k,k<i.next->k≠b3->((i.push (.row U 11 [cs,a])).set b3 (.row U 11 [[I J (eO lev (al T s.at_)),I J 0,Y [],Y [],I J 0,.aD i.next 0 2 11 (D 2),I J (al T s.at_).pos,I J 0,I J 0,I J 0,I J 0]])).get k=i.get k:=λk z bo=>by
     rw[ae.get_set_other af,ae.dC af]
    have am:=j.get (m7.get (m6.get (w.get y) af) af);have bq:=ae.aV am;have V:=bg.rd.aL j;have bu:=V.lt;have bz:=j.1;refine Av aH o S F n m af af _ s1 _ (bK.cells {kind:=eO lev (al T s.at_),pos:=(al T s.at_).pos} (.aD i.next 0 2 11 (D 2))) x bi ?_ ?_ A (ae.get_set_same (by simp only[ae.b8];omega)) ?_ p s' aU
    ·unfold bJ at V ⊢;rw[E r af af];exact V
    ·rw[E _ af af];exact am
    ·rw[hQ];have a2:cJ i (λl=>H0.next<l/\l≠b3) e (.agg cs):=he.mut (((w.mut _).trans m6).trans m7|>.trans (j.mut _)) af λ_ h=>h
     refine⟨_,rfl,ck.yq (ro:=false) ?_ ⟨af,af⟩ (a2.aW (λl ro els L K=>⟨L,by rw[E l (ae.aV K) L.2];exact K⟩) e _) (G.aW (λl ro els L K=> ?_) ah _)⟩
     ·rw[ae.get_set_other af];exact ae.bM _ _
     ·unfold bn at L;have ar:=j.get K;exact⟨⟨af,af⟩,by rw[E l (ae.aV ar) af];exact ar⟩
def Jr{n:Nat}(z:∀k,k<=n->j9 k)(K:vA n):j9 (n+1):=by
 intro H r T au s c lev hle e s' h;refine cG (λ_=>Mr (n+2)) ?_;have M:=c.rd.lt;have i:=aP.push H (.row U 11 [[I J 0,I J 0,Y [],Y [],I J 0,.az,I J 0,I J 0,I J 0,I J 0,I J 0]]);simp only[eA]at h;by_cases w:lev=5
 ·rw[if_pos w]at h;have p:((lev:Int)==5)=true:=by simp;omega
  simp-implicitDefEqProofs(disch:=try exact aj)only[iQ,iv,iw,ix,iu,reduceAdd,reduceLeDiff,reduceIte,ax,p];refine aO (K (c.aL i) e s' h) ?_;rintro v m ⟨m2,u,a⟩;refine⟨m2.1,?_⟩;have d:=m2.get (ae.bM H (.row U 11 [[I J 0,I J 0,Y [],Y [],I J 0,.az,I J 0,I J 0,I J 0,I J 0,I J 0]])) af;have O:=ae.aV d;obtain⟨cs,rfl,hlen,q⟩:=a.cells;have G:List.take 11 cs=cs:=List.take_of_length_le af;simp-implicitDefEqProofs(disch:=try exact aj)only[iQ,iv,iw,ix,iu,reduceAdd,reduceLeDiff,reduceIte,ax,d,hlen,q,List.append_nil,G];exact bb.2 (dS.ret c ((i.mut _).trans m2) u.rd (bm _) a (Nat.lt_succ_self _) _)
 ·rw[if_neg w,c1]at h;obtain⟨⟨o,s1⟩,A,E⟩:=h;have p:((lev:Int)==5)=false:=by simp;omega
  have hw:IntKind.i64.wrap ((lev:Int)+1)=((lev+1:Nat):Int):=by rw[wrap_i64 af af];simp
  simp-implicitDefEqProofs(disch:=try exact aj)only[iQ,iv,iw,ix,iu,reduceAdd,reduceLeDiff,reduceIte,ax,p,hw];refine aO (z n (bm _) (c.aL i) (lev+1) af o s1 A) ?_;rintro v m ⟨m2,u,a⟩;refine⟨m2.1,?_⟩;have d:=m2.get (ae.bM H (.row U 11 [[I J 0,I J 0,Y [],Y [],I J 0,.az,I J 0,I J 0,I J 0,I J 0,I J 0]])) af;have F:=m2.1;simp only[ae.b8]at F;obtain⟨cs,rfl,hlen,q⟩:=a.cells;simp-implicitDefEqProofs(disch:=try exact aj)only[ix,iw,iv,reduceAdd,reduceLeDiff,reduceIte,ax,hlen,q,List.append_nil];have j:=aP.push m (.row U 11 [cs]);refine Av (N:=n+2) (B:=n) (λk L=>z k af) c af (b3:=m.next) af n (n+2) af af _ s1 o cs _ (((i.mut _).trans m2).trans (j.mut _)) (u.rd.aL j) (j.get d) rfl (ae.bM _ _) ?_ e s' E
  exact a.aW (λl ro els y x=>by
   have:=ae.aV x;unfold bn at y;simp only[ae.b8]at y;exact⟨⟨af,af⟩,j.get x⟩) o _
