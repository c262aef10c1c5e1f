/-
  Texts of one proof, laid together: Y1 Y2 Y3 Y4 Y5 Y6 Y7.
-/
import Derived.Test.YtghmbpmaafnodaaDoorMJ
set_option linter.unusedVariables false
set_option linter.unusedSimpArgs false
set_option linter.defProp false
open Option renaming some→D,none→C
open Bool renaming true→X,false→U
open Go.bn.aa renaming int→I,str→Z,bool→Y
open Go.IntKind renaming i64→J
namespace Go.Proofs.YtghmbpmaafnodaaDoor
open Go.bn
open Nat (reduceAdd reduceLeDiff)
def bX(H:af)(r:Nat)(ax:aa)(s:al):Prop:=H.get r=D (.row U 5 [[ax,I J s.at_,I J s.bk,I J s.an,I J s.bN]])
structure b6(H:af)(r:Nat)(T:List Tok)(ax:aa)(s:al):Prop where
 rd:bX H r ax s
 bW:ga H ax T
def bX.aR{H H':af}{r:Nat}{ax:aa}{s:al}(a:bX H r ax s)(p:aU H H'):bX H' r ax s:=p.get a
def bX.lt{H:af}{r:Nat}{ax:aa}{s:al}(a:bX H r ax s):r<H.next:=af.a6 a
def b6.mut{H H':af}{r:Nat}{T:List Tok}{ax:aa}{s s':al}(h:b6 H r T ax s)(m:cv r H H')(a:bX H' r ax s'):b6 H' r T ax s':=
 ⟨a,h.bW.a1 λl ro els e=>m.get e (by
  rintro rfl;rw[h.rd]at e;simp only[aZ,cb.row.injEq]at e;omega)⟩
def b6.aR{H H':af}{r:Nat}{T:List Tok}{ax:aa}{s:al}(h:b6 H r T ax s)(p:aU H H'):b6 H' r T ax s:=h.mut (p.mut _) (h.rd.aR p)
def fR{H:af}{r:Nat}{ax:aa}{s:al}(a:bX H r ax s)(s':al):cv r H (H.set r (.row U 5 [[ax,I J s'.at_,I J s'.bk,I J s'.an,I J s'.bN]]))/\bX (H.set r (.row U 5 [[ax,I J s'.at_,I J s'.bk,I J s'.an,I J s'.bN]])) r ax s':=
 ⟨dp.db (S:=(· =r)) (dp.refl _ _) (.inl rfl) _,af.get_set_same a.lt⟩
def jt{H:af}{r:Nat}{ax:aa}{s:al}{T:List Tok}(d:bX H r ax s)(n:ga H ax T):W (aI P aB 22 [.ptr r 0 0] H) λv H'=>v=(aj T s.at_).v/\aU H H':=by
 unfold bX at d;have o:=af.a6 d;refine cO (λ_=>Rb 0) ?_;by_cases a:s.at_<0
 ·simp-implicitDefEqProofs(disch:=try exact ak)only[qD,bg,bG,Nat.reduceAdd,Nat.reduceLeDiff,reduceIte,aa.cells,c8,eu,ao,c2,ba,c2,c3,ed,rM,rN,d,a,decide_true,a_];exact⟨by simp[aj,a,Tok.v,Tok.none],aU.push _ _⟩
 ·rcases n with⟨rfl,rfl⟩|⟨l,i,cap,rfl,k⟩
  ·have c:(0:Int)<=s.at_:=ae;simp-implicitDefEqProofs(disch:=try exact ak)only[qD,bg,bG,Nat.reduceAdd,Nat.reduceLeDiff,reduceIte,aa.cells,c8,eu,ao,c2,ba,c2,c3,ed,rM,rN,d,a,c,decide_true,decide_false,a_,zq];exact⟨by simp[aj,a,Tok.v,Tok.none,c],aU.push _ _⟩
  ·by_cases c:(T.length:Int)<=s.at_
   ·simp-implicitDefEqProofs(disch:=try exact ak)only[qD,bg,bG,Nat.reduceAdd,Nat.reduceLeDiff,reduceIte,aa.cells,c8,eu,ao,c2,ba,c2,c3,ed,rM,rN,d,a,c,decide_true,decide_false,a_,vU];exact⟨by simp[aj,a,Tok.v,Tok.none,c],aU.push _ _⟩
   ·have e:s.at_.toNat<T.length:=ae;obtain⟨ro,els,h,m⟩:=k.resolve_left (by rintro rfl;simp at e);have p:=af.a6 h;have j:=m s.at_.toNat T[s.at_.toNat] (by simp[e]);simp only[Tok.cells]at j;simp-implicitDefEqProofs(disch:=try exact ak)only[qD,bg,bG,Nat.reduceAdd,Nat.reduceLeDiff,reduceIte,aa.cells,c8,eu,ao,c2,ba,c2,c3,ed,rM,rN,d,a,c,decide_true,decide_false,a_,vU,y0,h,j];refine⟨?_,aU.push _ _⟩;simp[aj,a,c,Tok.v,e]
def mA{H:af}{r:Nat}{ax:aa}{s:al}(a:bX H r ax s):W (aI P aB 21 [.ptr r 0 0] H) λv H'=>v= Y (s.an==0)/\H'=H:=by
 unfold bX at a;refine cO (λ_=>Ra 0) ?_;simp-implicitDefEqProofs(disch:=try exact ak)only[wR,reduceAdd,reduceLeDiff,reduceIte,az,a];exact a_.2 ⟨rfl,rfl⟩
def lJ{H:af}{r:Nat}{T:List Tok}{ax:aa}{s:al}(a:b6 H r T ax s)(e:Int):W (aI P aB 24 [.ptr r 0 0,I J e] H) λv H'=>v= .tuple []/\cv r H H'/\b6 H' r T ax (bQ T e s):=by
 refine cO (λ_=>Rd 0) ?_;have h:=a.rd;have o:=a.bW.one;rw[qF];refine aW (mA h) ?_;rintro _ H1 ⟨rfl,rfl⟩;refine⟨bo _,?_⟩;by_cases c:s.an=0
 ·rw[show bQ T e s={s with an:=e,bN:=(aj T s.at_).pos} by simp[bQ,c]];simp-implicitDefEqProofs(disch:=try exact ak)only[qF,bg,bG,c,beq_self_eq_true];refine aW (jt h a.bW) ?_;rintro _ k ⟨rfl,d⟩;refine⟨d.1,?_⟩;have i:bX k r ax s:=h.aR d;have j:=i;unfold bX at j;simp-implicitDefEqProofs(disch:=try exact ak)only[qF,reduceAdd,reduceLeDiff,reduceIte,az,Tok.v,j,o];obtain⟨m,n⟩:=fR i {s with an:=e,bN:=(aj T s.at_).pos};exact a_.2 ⟨rfl,(d.mut _).trans m,a.mut ((d.mut _).trans m) n⟩
 ·have l:(s.an==0)=false:=by simpa using c
  rw[show bQ T e s=s by simp[bQ,c]];simp-implicitDefEqProofs(disch:=try exact ak)only[qF,bg,bG,l];exact a_.2 ⟨rfl,dp.refl _ _,a⟩
def y5(s:aC)(c:UInt8):fC P 9 (Z (c::s)) (I J 0)=D (I .u8 c.toNat):=ah
def Ag{H0 H:af}{r:Nat}{T:List Tok}{ax:aa}{s:al}(p:aU H0 H)(i:bX H r ax s){b:Nat}(d:H.get b=D (.row U 4 [[I J (aj T s.at_).kind,Z (aj T s.at_).text,I J (aj T s.at_).n,I J (aj T s.at_).pos]]))(x:aC)(k:Int):
  W (qE (aI P aB) (.ptr r 0 0) (Z x) (.ptr b 0 0) (I J k) H) λv H'=>v= Y (bz T s k x)/\aU H0 H':=by
 rw[qE];refine aW (mA i) ?_;rintro _ H1 ⟨rfl,rfl⟩;refine⟨bo _,?_⟩;by_cases a:s.an=0
 ·by_cases c:(aj T s.at_).kind=k
  ·simp-implicitDefEqProofs(disch:=try exact ak)only[mG,reduceAdd,reduceLeDiff,reduceIte,az,a,c,d,beq_self_eq_true];exact a_.2 ⟨by simp[bz,a,c],p⟩
  ·have h:((aj T s.at_).kind==k)=false:=by simpa using c
   simp-implicitDefEqProofs(disch:=try exact ak)only[mG,reduceAdd,reduceLeDiff,reduceIte,az,a,h,d,beq_self_eq_true];exact a_.2 ⟨by simp[bz,a,c],p⟩
 ·have e:(s.an==0)=false:=by simpa using a
  simp-implicitDefEqProofs(disch:=try exact ak)only[mG,reduceAdd,reduceLeDiff,reduceIte,az,e,d];exact a_.2 ⟨by simp[bz,a],p⟩
def dP{H:af}{r:Nat}{T:List Tok}{ax:aa}{s:al}(e:bX H r ax s)(m:ga H ax T)(x:aC)(o:x≠[]):W (aI P aB 23 [.ptr r 0 0,Z x] H) λv H'=>v= Y (aV T s x)/\aU H H':=by
 refine cO (λ_=>Rc 0) ?_;obtain⟨c,x,rfl⟩:∃c y,x=c::y:=by cases x with
  |nil=>exact absurd rfl o
  |cons c y=>exact⟨c,y,rfl⟩
 rw[mG];refine aW (jt e m) ?_;rintro _ H1 ⟨rfl,l⟩;refine⟨l.1,?_⟩;have a:=l.bT (.row U 4 [[I J (aj T s.at_).kind,Z (aj T s.at_).text,I J (aj T s.at_).n,I J (aj T s.at_).pos]]);have j:=af.bY H1 (.row U 4 [[I J (aj T s.at_).kind,Z (aj T s.at_).text,I J (aj T s.at_).n,I J (aj T s.at_).pos]]);by_cases h:97<=c.toNat
 ·have d:(97:Int)<=(c.toNat:Int):=ae;by_cases k:c.toNat<=122
  ·have i:(c.toNat:Int)<=122:=ae;rw[show aV T s (c::x)=bz T s 3 (c::x) by simp[aV,kw,h,k]];simp-implicitDefEqProofs(disch:=try exact ak)only[mG,reduceAdd,reduceLeDiff,reduceIte,az,Tok.v,y5,d,i,decide_true];exact Ag a (e.aR a) j _ 3
  ·have i:¬(c.toNat:Int)<=122:=ae;rw[show aV T s (c::x)=bz T s 4 (c::x) by simp[aV,kw,h,k]];simp-implicitDefEqProofs(disch:=try exact ak)only[mG,reduceAdd,reduceLeDiff,reduceIte,az,Tok.v,y5,d,i,decide_true,decide_false];exact Ag a (e.aR a) j _ 4
 ·have d:¬(97:Int)<=(c.toNat:Int):=ae;rw[show aV T s (c::x)=bz T s 4 (c::x) by simp[aV,kw,h]];simp-implicitDefEqProofs(disch:=try exact ak)only[mG,reduceAdd,reduceLeDiff,reduceIte,az,Tok.v,y5,d,decide_false];exact Ag a (e.aR a) j _ 4
def h0{H:af}{r:Nat}{T:List Tok}{ax:aa}{s:al}(a:b6 H r T ax s)(x:aC)(j:x≠[]):W (aI P aB 27 [.ptr r 0 0,Z x] H) λv H'=>v= .tuple []/\cv r H H'/\b6 H' r T ax (bh T x s):=by
 refine cO (λ_=>Rg 0) ?_;have k:=a.bW.one;rw[qG];refine aW (dP a.rd a.bW x j) ?_;rintro _ H1 ⟨rfl,c⟩;refine⟨c.1,?_⟩;have e:=a.rd.aR c;have h:=e;unfold bX at h;cases d:aV T s x with
 |false=>
  rw[show bh T x s=bQ T 2 s by simp[bh,d]];simp-implicitDefEqProofs(disch:=try exact ak)only[qG,reduceAdd,reduceLeDiff,reduceIte,az,Bool.not_false];refine aW (lJ (a.aR c) 2) ?_;rintro _ n ⟨rfl,m2,l⟩;refine⟨m2.1,?_⟩
  try simp only[qG]
  exact a_.2 ⟨rfl,(c.mut _).trans m2,l⟩
 |true=>
  rw[show bh T x s=aw s by simp[bh,d]];simp-implicitDefEqProofs(disch:=try exact ak)only[qG,reduceAdd,reduceLeDiff,reduceIte,az,h,k,Bool.not_true];obtain⟨m,i⟩:=fR e (aw s);exact a_.2 ⟨rfl,(c.mut _).trans m,a.mut ((c.mut _).trans m) i⟩
def sq{H:af}{r:Nat}{T:List Tok}{ax:aa}{s:al}(a:b6 H r T ax s)(x:aC)(k:x≠[]):W (aI P aB 77 [.ptr r 0 0,Z x] H) λv H'=>v= .tuple []/\cv r H H'/\b6 H' r T ax (cB T x s):=by
 refine cO (λ_=>RP 0) ?_;have q:=a.bW.one;rw[n4];refine aW (dP a.rd a.bW x k) ?_;rintro _ H1 ⟨rfl,c⟩;refine⟨c.1,?_⟩;have i:=a.aR c;have h:=i.rd;unfold bX at h;have more:cB T x s=e0 (bh T x s)->W (aO H1 (aI P aB 27 [.ptr r 0 0,Z x] H1) (xf (.ptr r 0 0))) λv H'=>v= .tuple []/\cv r H H'/\b6 H' r T ax (cB T x s):=by
  intro he;rw[he];refine aW (h0 i x k) ?_;rintro _ o ⟨rfl,m2,j⟩;refine⟨m2.1,?_⟩;have l:=j.rd;have n:=l;unfold bX at n;simp-implicitDefEqProofs(disch:=try exact ak)only[xf,n4,reduceAdd,reduceLeDiff,reduceIte,az,n,q];obtain⟨m,p⟩:=fR l (e0 (bh T x s));exact a_.2 ⟨rfl,((c.mut _).trans m2).trans m,a.mut (((c.mut _).trans m2).trans m) p⟩
 cases e:aV T s x with
 |false=>
  simp-implicitDefEqProofs(disch:=try exact ak)only[n4,reduceAdd,reduceLeDiff,reduceIte,az];exact more (by simp[cB,e])
 |true=>
  by_cases d:50<=s.bk
  ·rw[show cB T x s=bQ T 4 s by simp[cB,e,d]];simp-implicitDefEqProofs(disch:=try exact ak)only[n4,reduceAdd,reduceLeDiff,reduceIte,az,h,d,decide_true];refine aW (lJ i 4) ?_;rintro _ o ⟨rfl,m2,j⟩;refine⟨m2.1,?_⟩
   try simp only[n4]
   exact a_.2 ⟨rfl,(c.mut _).trans m2,j⟩
  ·simp-implicitDefEqProofs(disch:=try exact ak)only[n4,reduceAdd,reduceLeDiff,reduceIte,az,h,d,decide_false];exact more (by simp[cB,e,d])
def sk{H:af}{r:Nat}{T:List Tok}{ax:aa}{s:al}(a:b6 H r T ax s)(x:aC)(h:x≠[]):W (aI P aB 79 [.ptr r 0 0,Z x] H) λv H'=>v= .tuple []/\cv r H H'/\b6 H' r T ax (dh T x s):=by
 refine cO (λ_=>RR 0) ?_;have i:=a.bW.one;rw[uJ];refine aW (h0 a x h) ?_;rintro _ k ⟨rfl,m2,j⟩;refine⟨m2.1,?_⟩;have c:=j.rd;have d:=c;unfold bX at d;simp-implicitDefEqProofs(disch:=try exact ak)only[uJ,reduceAdd,reduceLeDiff,reduceIte,az,d,i];obtain⟨m,e⟩:=fR c (dU (bh T x s));exact a_.2 ⟨rfl,m2.trans m,a.mut (m2.trans m) e⟩
def o8{H:af}{r:Nat}{T:List Tok}{ax:aa}{s:al}(a:b6 H r T ax s):W (aI P aB 55 [.ptr r 0 0] H) λv H'=>v= Z (bA T s).1/\cv r H H'/\b6 H' r T ax (bA T s).2:=by
 refine cO (λ_=>RA 0) ?_;have q:=a.bW.one;have z:=a.rd.lt;rw[nW];refine aW (jt a.rd a.bW) ?_;rintro _ H1 ⟨rfl,h⟩;refine⟨h.1,?_⟩;have i:=h.bT (.row U 4 [[I J (aj T s.at_).kind,Z (aj T s.at_).text,I J (aj T s.at_).n,I J (aj T s.at_).pos]]);have y:=af.bY H1 (.row U 4 [[I J (aj T s.at_).kind,Z (aj T s.at_).text,I J (aj T s.at_).n,I J (aj T s.at_).pos]]);simp-implicitDefEqProofs(disch:=try exact ak)only[sM,nW,reduceAdd,reduceLeDiff,reduceIte,az,Tok.v];have k:=a.aR i;refine aW (mA k.rd) ?_;rintro _ w ⟨rfl,rfl⟩;refine⟨bo _,?_⟩;have A:=h.1;have o:=a.rd.aR h
 unfold bX at o;have l:bA T s=([],bQ T 2 s)->W (aO (H1.push (.row U 4 [[I J (aj T s.at_).kind,Z (aj T s.at_).text,I J (aj T s.at_).n,I J (aj T s.at_).pos]])) (aI P aB 24 [.ptr r 0 0,I J 2] (H1.push (.row U 4 [[I J (aj T s.at_).kind,Z (aj T s.at_).text,I J (aj T s.at_).n,I J (aj T s.at_).pos]]))) sM) λv H'=>v= Z (bA T s).1/\cv r H H'/\b6 H' r T ax (bA T s).2:=by
  intro he;rw[he];refine aW (lJ k 2) ?_;rintro _ x ⟨rfl,m4,u⟩;refine⟨m4.1,?_⟩
  try simp only[sM,nW]
  exact a_.2 ⟨rfl,(i.mut _).trans m4,u⟩
 by_cases c:s.an=0
 ·by_cases j:(aj T s.at_).kind=1
  ·have d:(s.an==0)=true:=by simpa using c
   have e:((aj T s.at_).kind==1)=true:=by simpa using j
   rw[show bA T s=((aj T s.at_).text,aw s) by simp[bA,c,j]];simp-implicitDefEqProofs(disch:=try exact ak)only[sM,nW,reduceAdd,reduceLeDiff,reduceIte,az,d,e,o,q];obtain⟨m,p⟩:=fR k.rd (aw s);exact a_.2 ⟨rfl,(i.mut _).trans m,a.mut ((i.mut _).trans m) p⟩
  ·have e:((aj T s.at_).kind==1)=false:=by simpa using j
   simp-implicitDefEqProofs(disch:=try exact ak)only[nW,reduceAdd,reduceLeDiff,reduceIte,az,c,e,beq_self_eq_true];exact l (by simp[bA,e])
 ·have d:(s.an==0)=false:=by simpa using c
  simp-implicitDefEqProofs(disch:=try exact ak)only[nW,reduceAdd,reduceLeDiff,reduceIte,az,d];exact l (by simp[bA,d])
def Un(l:Nat)(a c ea gi d:Nat):cl P l 131 5 [(0,.aG a 0 1 1 (D 1)),(1,.aG c 0 1 1 (D 1)),(2,.aG ea 0 4 1 (D 4)),(3,.aG gi 0 2 1 (D 2)),(4,.aG d 0 3 1 (D 3))]=
 D (.aG l 0 5 1 (D 5),.row U 1 [[.aG a 0 1 1 (D 1)],[.aG c 0 1 1 (D 1)],[.aG ea 0 4 1 (D 4)],[.aG gi 0 2 1 (D 2)],[.aG d 0 3 1 (D 3)]]):=ah
def Uo(l:Nat)(a c ea gi d:Nat):cl P l 132 5 [(0,.aG a 0 1 1 (D 1)),(1,.aG c 0 1 1 (D 1)),(2,.aG ea 0 4 1 (D 4)),(3,.aG gi 0 2 1 (D 2)),(4,.aG d 0 3 1 (D 3))]=
 D (.aG l 0 5 1 (D 5),.row U 1 [[.aG a 0 1 1 (D 1)],[.aG c 0 1 1 (D 1)],[.aG ea 0 4 1 (D 4)],[.aG gi 0 2 1 (D 2)],[.aG d 0 3 1 (D 3)]]):=ah
def O_{H0 H:af}(A:aU H0 H){b S K d c:Nat}{t:Tok}(u:H.get b=D (.row U 4 [[I J t.kind,Z t.text,I J t.n,I J t.pos]])){B z:List (List aa)}(i:H.get S=D (.row U 1 B))(E:H.get K=D (.row U 1 z)){lev:Nat}(O:lev<5)(all:List (aC×Int))(M:all.length<=1000){cs j:Option Nat}
  (ar:B[lev]? =D [.aG d 0 all.length 1 cs]) (G:z[lev]? =D [.aG c 0 all.length 1 j]) (s:H.get d=D (.row U 1 (all.map λp=>[aa.str p.1]))) (F:H.get c=D (.row U 1 (all.map λp=>[aa.int J p.2]))) (N:Nat):
  ∀(rest pre:List (aC×Int)),all=pre++rest->∀(n:Nat),rest.length<n->
   W (mS (aI P aB) N n (I J lev) (.ptr b 0 0) (.aG S 0 5 1 (D 5)) (.aG K 0 5 1 (D 5)) (I J pre.length) H) λv H'=>v= I J (mm t.text rest)/\aU H0 H':=by
 have m:(0:Int)<=(lev:Int):=ae;have o:(lev:Int)<((5:Nat):Int):=ae;have y:((lev:Int)).toNat=lev:=ae;have i1:cF P 131 (.aG S 0 5 1 (D 5)) (I J (lev:Int))=D (.ptr S lev 0):=by rw[yY m o,y,Nat.zero_add]
 have i2:cF P 132 (.aG K 0 5 1 (D 5)) (I J (lev:Int))=D (.ptr K lev 0):=by rw[yZ m o,y,Nat.zero_add]
 intro rest
 induction rest with
 |nil=>
  intro pre aF n e;obtain⟨n,rfl⟩:∃k,n=k+1:=⟨n-1,by simp at e;omega⟩;have a:¬((pre.length:Int)<(all.length:Int)):=by rw[aF];simp
  simp-implicitDefEqProofs(disch:=try exact ak)only[mS,mR,qZ,pA,reduceAdd,reduceLeDiff,reduceIte,az,uW,uX,i1,i,ar,a,decide_false];exact a_.2 ⟨rfl,A⟩
 |cons q rest L=>
  intro pre aF n e;obtain⟨x,k⟩:=q;obtain⟨n,rfl⟩:∃k,n=k+1:=⟨n-1,by simp at e;omega⟩;have a:(pre.length:Int)<(all.length:Int):=by rw[aF];simp;omega
  have w:(0:Int)<=(pre.length:Int):=ae;have aq:((pre.length:Int)).toNat=pre.length:=ae;have l:all[pre.length]? =D (x,k):=by rw[aF];simp
  have i3:cF P 50 (.aG d 0 all.length 1 cs) (I J (pre.length:Int))=D (.ptr d pre.length 0):=by rw[y1 w a,aq,Nat.zero_add]
  have i4:cF P 51 (.aG c 0 all.length 1 j) (I J (pre.length:Int))=D (.ptr c pre.length 0):=by rw[y2 w a,aq,Nat.zero_add]
  have g1:(all.map λp=>[aa.str p.1])[pre.length]? =D [Z x]:=by rw[List.getElem?_map,l];rfl
  have g2:(all.map λp=>[aa.int J p.2])[pre.length]? =D [I J k]:=by rw[List.getElem?_map,l];rfl
  cases h:x==t.text with
  |true=>
   simp-implicitDefEqProofs(disch:=try exact ak)only[mS,mR,qZ,pA,reduceAdd,reduceLeDiff,reduceIte,az,uW,uX,i1,i2,i3,i4,i,E,ar,G,s,F,g1,g2,u,a,decide_true,h];exact a_.2 ⟨by simp[mm,h],A⟩
  |false=>
   have hw:IntKind.i64.wrap ((pre.length:Int)+1)=((pre++[(x,k)]).length:Int):=by
    have Q:pre.length<all.length:=ae;rw[wrap_i64 ae ae];simp
   simp-implicitDefEqProofs(disch:=try exact ak)only[mS,mR,qZ,pA,reduceAdd,reduceLeDiff,reduceIte,az,uW,uX,i1,i3,i,ar,s,g1,u,a,decide_true,h,hw];refine(L (pre++[(x,k)]) (by simp[aF]) n (by simp at e;omega)).mono ?_;rintro v H' ⟨rfl,q⟩;exact⟨by simp[mm,h],q⟩
set_option maxHeartbeats 1000000 in
def F_{H:af}(lev:Nat)(s:lev<5)(t:Tok):W (aI P aB 70 [I J lev,t.v] H) λv H'=>v= I J (eM lev t)/\aU H H':=by
 refine cO (λ_=>RO 10) ?_;have o:∀l,dR l t.v=D (.ptr l 0 0,.row U 4 [[I J t.kind,Z t.text,I J t.n,I J t.pos]]):=λl=>hn l _ rfl
 cases d:t.kind != 4 with
 |true=>
  simp-implicitDefEqProofs(disch:=try exact ak)only[mR,qZ,pA,reduceAdd,reduceLeDiff,reduceIte,az,o,d];exact a_.2 ⟨by simp[eM,d],aU.push _ _⟩
 |false=>
  simp-implicitDefEqProofs(disch:=try exact ak)only[mR,pA,reduceAdd,reduceLeDiff,reduceIte,az,o,d,Un,Uo];obtain⟨all,c⟩:∃all,lD[lev]? =D all:=⟨lD[lev]'(by simpa [lD]using s),by simp[lD]⟩;have B:all.length<10:=by
   have:∀a∈lD,a.length<10:=aK;exact this all (List.mem_of_getElem? c)
  have key:∀(b5:af),aU H b5->b5.get H.next=D (.row U 4 [[I J t.kind,Z t.text,I J t.n,I J t.pos]])->∀(S K h e:Nat) (k j:List (List aa)) (cs m:Option Nat),b5.get S=D (.row U 1 k)->b5.get K=D (.row U 1 j)->k[lev]? =D [.aG h 0 all.length 1 cs]->j[lev]? =D [.aG e 0 all.length 1 m]->
    b5.get h=D (.row U 1 (all.map λp=>[aa.str p.1]))->b5.get e=D (.row U 1 (all.map λp=>[aa.int J p.2]))->
    W (mS (aI P aB) 10 10 (I J lev) (.ptr H.next 0 0) (.aG S 0 5 1 (D 5)) (.aG K 0 5 1 (D 5)) (I J 0) b5) λv H'=>v= I J (eM lev t)/\aU H H':=by
   intro b5 p A S K h e k j cs m u w x y i z;refine(O_ p A u w s all ae x y i z 10 all [] rfl 10 B).mono ?_;rintro v H' ⟨rfl,q⟩;exact⟨by simp[eM,d,c],q⟩
  have i:lev=0\/lev=1\/lev=2\/lev=3\/lev=4:=ae;rcases i with rfl|rfl|rfl|rfl|rfl<;>(simp only[lD,List.getElem?_cons_zero,List.getElem?_cons_succ,aZ]at c;subst c)
  ·refine key _ ?_ ?_ (H.next+1+1+1+1+1+1) (H.next+1+1+1+1+1+1+1+1+1+1+1+1) (H.next+1) (H.next+1+1+1+1+1+1+1) [[.aG (H.next+1) 0 1 1 (D 1)],[.aG (H.next+1+1) 0 1 1 (D 1)],[.aG (H.next+1+1+1) 0 4 1 (D 4)],[.aG (H.next+1+1+1+1) 0 2 1 (D 2)],[.aG (H.next+1+1+1+1+1) 0 3 1 (D 3)]] [[.aG (H.next+1+1+1+1+1+1+1) 0 1 1 (D 1)],[.aG (H.next+1+1+1+1+1+1+1+1) 0 1 1 (D 1)],[.aG (H.next+1+1+1+1+1+1+1+1+1) 0 4 1 (D 4)],[.aG (H.next+1+1+1+1+1+1+1+1+1+1) 0 2 1 (D 2)],[.aG (H.next+1+1+1+1+1+1+1+1+1+1+1) 0 3 1 (D 3)]] (D 1) (D 1) ?_ ?_ rfl rfl ?_ ?_
   ·exact((((((((((((aU.push H _).bT _).bT _).bT _).bT _).bT _).bT _).bT _).bT _).bT _).bT _).bT _).bT _
   all_goals (simp-implicitDefEqProofs(disch:=try exact ak)only[ed];try rfl)
  ·refine key _ ?_ ?_ (H.next+1+1+1+1+1+1) (H.next+1+1+1+1+1+1+1+1+1+1+1+1) (H.next+1+1) (H.next+1+1+1+1+1+1+1+1) [[.aG (H.next+1) 0 1 1 (D 1)],[.aG (H.next+1+1) 0 1 1 (D 1)],[.aG (H.next+1+1+1) 0 4 1 (D 4)],[.aG (H.next+1+1+1+1) 0 2 1 (D 2)],[.aG (H.next+1+1+1+1+1) 0 3 1 (D 3)]] [[.aG (H.next+1+1+1+1+1+1+1) 0 1 1 (D 1)],[.aG (H.next+1+1+1+1+1+1+1+1) 0 1 1 (D 1)],[.aG (H.next+1+1+1+1+1+1+1+1+1) 0 4 1 (D 4)],[.aG (H.next+1+1+1+1+1+1+1+1+1+1) 0 2 1 (D 2)],[.aG (H.next+1+1+1+1+1+1+1+1+1+1+1) 0 3 1 (D 3)]] (D 1) (D 1) ?_ ?_ rfl rfl ?_ ?_
   ·exact((((((((((((aU.push H _).bT _).bT _).bT _).bT _).bT _).bT _).bT _).bT _).bT _).bT _).bT _).bT _
   all_goals (simp-implicitDefEqProofs(disch:=try exact ak)only[ed];try rfl)
  ·refine key _ ?_ ?_ (H.next+1+1+1+1+1+1) (H.next+1+1+1+1+1+1+1+1+1+1+1+1) (H.next+1+1+1) (H.next+1+1+1+1+1+1+1+1+1) [[.aG (H.next+1) 0 1 1 (D 1)],[.aG (H.next+1+1) 0 1 1 (D 1)],[.aG (H.next+1+1+1) 0 4 1 (D 4)],[.aG (H.next+1+1+1+1) 0 2 1 (D 2)],[.aG (H.next+1+1+1+1+1) 0 3 1 (D 3)]] [[.aG (H.next+1+1+1+1+1+1+1) 0 1 1 (D 1)],[.aG (H.next+1+1+1+1+1+1+1+1) 0 1 1 (D 1)],[.aG (H.next+1+1+1+1+1+1+1+1+1) 0 4 1 (D 4)],[.aG (H.next+1+1+1+1+1+1+1+1+1+1) 0 2 1 (D 2)],[.aG (H.next+1+1+1+1+1+1+1+1+1+1+1) 0 3 1 (D 3)]] (D 4) (D 4) ?_ ?_ rfl rfl ?_ ?_
   ·exact((((((((((((aU.push H _).bT _).bT _).bT _).bT _).bT _).bT _).bT _).bT _).bT _).bT _).bT _).bT _
   all_goals (simp-implicitDefEqProofs(disch:=try exact ak)only[ed];try rfl)
  ·refine key _ ?_ ?_ (H.next+1+1+1+1+1+1) (H.next+1+1+1+1+1+1+1+1+1+1+1+1) (H.next+1+1+1+1) (H.next+1+1+1+1+1+1+1+1+1+1) [[.aG (H.next+1) 0 1 1 (D 1)],[.aG (H.next+1+1) 0 1 1 (D 1)],[.aG (H.next+1+1+1) 0 4 1 (D 4)],[.aG (H.next+1+1+1+1) 0 2 1 (D 2)],[.aG (H.next+1+1+1+1+1) 0 3 1 (D 3)]] [[.aG (H.next+1+1+1+1+1+1+1) 0 1 1 (D 1)],[.aG (H.next+1+1+1+1+1+1+1+1) 0 1 1 (D 1)],[.aG (H.next+1+1+1+1+1+1+1+1+1) 0 4 1 (D 4)],[.aG (H.next+1+1+1+1+1+1+1+1+1+1) 0 2 1 (D 2)],[.aG (H.next+1+1+1+1+1+1+1+1+1+1+1) 0 3 1 (D 3)]] (D 2) (D 2) ?_ ?_ rfl rfl ?_ ?_
   ·exact((((((((((((aU.push H _).bT _).bT _).bT _).bT _).bT _).bT _).bT _).bT _).bT _).bT _).bT _).bT _
   all_goals (simp-implicitDefEqProofs(disch:=try exact ak)only[ed];try rfl)
  ·refine key _ ?_ ?_ (H.next+1+1+1+1+1+1) (H.next+1+1+1+1+1+1+1+1+1+1+1+1) (H.next+1+1+1+1+1) (H.next+1+1+1+1+1+1+1+1+1+1+1) [[.aG (H.next+1) 0 1 1 (D 1)],[.aG (H.next+1+1) 0 1 1 (D 1)],[.aG (H.next+1+1+1) 0 4 1 (D 4)],[.aG (H.next+1+1+1+1) 0 2 1 (D 2)],[.aG (H.next+1+1+1+1+1) 0 3 1 (D 3)]] [[.aG (H.next+1+1+1+1+1+1+1) 0 1 1 (D 1)],[.aG (H.next+1+1+1+1+1+1+1+1) 0 1 1 (D 1)],[.aG (H.next+1+1+1+1+1+1+1+1+1) 0 4 1 (D 4)],[.aG (H.next+1+1+1+1+1+1+1+1+1+1) 0 2 1 (D 2)],[.aG (H.next+1+1+1+1+1+1+1+1+1+1+1) 0 3 1 (D 3)]] (D 3) (D 3) ?_ ?_ rfl rfl ?_ ?_
   ·exact((((((((((((aU.push H _).bT _).bT _).bT _).bT _).bT _).bT _).bT _).bT _).bT _).bT _).bT _).bT _
   all_goals (simp-implicitDefEqProofs(disch:=try exact ak)only[ed];try rfl)
def Ah{r:Nat}{T:List Tok}{ax:aa}{H0:af}{s0:al}(h:b6 H0 r T ax s0){b t:Nat}(l:H0.next<=b)(u:H0.next<=t)(p:b≠t){x:aC}(d:Nat)(q:d<=1000)(N:Nat):
  ∀(j i:Nat),i+j=d->∀(m:Nat) (H:af) (s:al),j<m->cv r H0 H->bX H r ax s->H.get b=D (.row U 2 [[Z [],I J 0]])->H.get t=D (.row U 2 [[Z x,I J d]])->
   W (ps (aI P aB) N m (.ptr r 0 0) (.ptr b 0 0) (I J d) (.ptr t 0 0) (I J i) H) λv H'=>v= .agg [Z x,I J d]/\cv r H0 H'/\b6 H' r T ax (takeN T [93] j s)
 |0,i,n,0,H,s,hm,mt,a,c,e=>ae
 |0,i,n,m+1,H,s,hm,mt,a,c,e=>by
  have k:¬((i:Int)<(d:Int)):=ae;have z:=af.a6 c;simp-implicitDefEqProofs(disch:=try exact ak)only[ps,gQ,hX,iH,ie,i_,ic,hW,reduceAdd,reduceLeDiff,reduceIte,az,k,decide_false,c,e];exact a_.2 ⟨rfl,mt.db (.inr l) _,h.mut (mt.db (.inr l) _) (by
   have:=h.rd.lt;unfold bX at a ⊢;rw[af.get_set_other ae];exact a)⟩
 |j+1,i,n,0,H,s,hm,mt,a,c,e=>ae
 |j+1,i,n,m+1,H,s,hm,mt,a,c,e=>by
  have k:((i:Int)<(d:Int)):=ae;have A:=h.rd.lt;simp-implicitDefEqProofs(disch:=try exact ak)only[ps,gQ,hX,iH,ie,i_,ic,hW,reduceAdd,reduceLeDiff,reduceIte,az,k,decide_true];refine aW (h0 (h.mut mt a) [93] (by simp)) ?_;rintro _ o ⟨rfl,m2,w⟩;refine⟨m2.1,?_⟩;have hw:IntKind.i64.wrap ((i:Int)+1)=((i+1:Nat):Int):=by rw[wrap_i64 ae ae];simp
  simp-implicitDefEqProofs(disch:=try exact ak)only[gQ,hX,iH,ie,i_,ic,hW,reduceAdd,reduceLeDiff,reduceIte,az,hw];refine(Ah h l u p d q N j (i+1) ae m o _ ae (mt.trans m2) w.rd (m2.get c ae) (m2.get e ae)).mono ?_;rintro v H' ⟨rfl,bb,y⟩;exact⟨rfl,bb,y⟩
def IB{r:Nat}{T:List Tok}{ax:aa}{H0:af}{s0:al}(i:b6 H0 r T ax s0){b t:Nat}(q:H0.next<=b)(h:H0.next<=t)(u:b≠t)(d:Nat)(x:d<=1000)(N:Nat)(p:d<N){H:af}{s:al}(mt:cv r H0 H)(n:bX H r ax s)(j:H.get b=D (.row U 2 [[Z [],I J 0]]))
  (k:H.get t=D (.row U 2 [[Z [],I J d]])) {c:Bool} (w:(aV T s [105,110,116]||aV T s [98,111,111,108])=c):
  W (ie (aI P aB) N (.ptr r 0 0) (.ptr b 0 0) (I J d) (.ptr t 0 0) (Y c) H) λv H'=>v= .agg [Z (fz T d s).1.1,I J (fz T d s).1.2]/\cv r H0 H'/\b6 H' r T ax (fz T d s).2:=by
 have G:=i.rd.lt;have F:=af.a6 j;have L:=af.a6 k;have hle:=mt.1;have o:=i.mut mt n;have A:=o.bW.one;cases c with
 |true=>
  rw[show fz T d s=(((aj T s.at_).text,(d:Int)),takeN T [93] d (aw s)) by simp[fz,w]];simp-implicitDefEqProofs(disch:=try exact ak)only[gQ,hX,ie,i_,ic,hW,reduceAdd,reduceLeDiff,reduceIte,az];refine aW (jt n o.bW) ?_;rintro _ H1 ⟨rfl,e⟩;refine⟨e.1,?_⟩;have a:=e.get k;have l:=af.a6 a;have y:=n.aR e;have m:=y;unfold bX at m;have K:=y.lt;simp-implicitDefEqProofs(disch:=try exact ak)only[gQ,hX,ie,i_,ic,hW,reduceAdd,reduceLeDiff,reduceIte,az,Tok.v,a,m,A];simp only[iH];have m2:cv r H0 (H1.set t (.row U 2 [[Z (aj T s.at_).text,I J d]])):=(mt.trans (e.mut _)).db (.inr h) _;have B:bX (H1.set t (.row U 2 [[Z (aj T s.at_).text,I J d]])) r ax s:=by
   unfold bX;rw[af.get_set_other ae];exact m
  obtain⟨m3,z⟩:=fR B (aw s);refine Ah i q h u d x N d 0 ae N _ _ p (m2.trans m3) z (m3.get ?_ ae) (m3.get (af.get_set_same l) ae);rw[af.get_set_other ae];exact e.get j
 |false=>
  rw[show fz T d s=(((bA T s).1,(d:Int)),takeN T [93] d (bA T s).2) by simp[fz,w]];simp-implicitDefEqProofs(disch:=try exact ak)only[gQ,hX,ie,i_,ic,hW,reduceAdd,reduceLeDiff,reduceIte,az];refine aW (o8 o) ?_;rintro _ H1 ⟨rfl,m1,E⟩;refine⟨m1.1,?_⟩;have a:=m1.get k ae;have l:=af.a6 a;simp-implicitDefEqProofs(disch:=try exact ak)only[gQ,hX,ie,i_,ic,hW,reduceAdd,reduceLeDiff,reduceIte,az,a];simp only[iH];refine Ah i q h u d x N d 0 ae N _ _ p ((mt.trans m1).db (.inr h) _) ?_ ?_ (af.get_set_same l)
  ·have:=E.rd;unfold bX at this ⊢;rw[af.get_set_other ae];exact this
  ·rw[af.get_set_other ae];exact m1.get j ae
def IA{r:Nat}{T:List Tok}{ax:aa}{H0:af}{s0:al}(e:b6 H0 r T ax s0){b:Nat}(n:H0.next<=b)(d:Nat)(o:d<=1000)(N:Nat)(m:d<N){H:af}{s:al}(mt:cv r H0 H)(c:bX H r ax s)(i:H.get b=D (.row U 2 [[Z [],I J 0]])):
  W (i_ (aI P aB) N (.ptr r 0 0) (.ptr b 0 0) (I J d) H) λv H'=>v= .agg [Z (fz T d s).1.1,I J (fz T d s).1.2]/\cv r H0 H'/\b6 H' r T ax (fz T d s).2:=by
 have z:=e.rd.lt;have y:=af.a6 i;have hle:=mt.1;have u:=e.mut mt c;simp-implicitDefEqProofs(disch:=try exact ak)only[gQ,hX,i_,ic,hW,reduceAdd,reduceLeDiff,reduceIte,az];have j:=aU.push H (.row U 2 [[Z [],I J d]]);have p:=af.bY H (.row U 2 [[Z [],I J d]]);refine aW (dP (c.aR j) (u.bW.aR j) _ (by simp)) ?_;rintro _ w ⟨rfl,h⟩;refine⟨h.1,?_⟩;have a:=j.trans h;cases q:aV T s [105,110,116]with
 |true=>
  simp-implicitDefEqProofs(disch:=try exact ak)only[gQ,hX,i_,ic,hW,reduceAdd,reduceLeDiff,reduceIte,az];exact IB e n ae ae d o N m (mt.trans (a.mut _)) (c.aR a) (a.get i) (h.get p) (by simp[q])
 |false=>
  simp-implicitDefEqProofs(disch:=try exact ak)only[gQ,hX,i_,ic,hW,reduceAdd,reduceLeDiff,reduceIte,az];refine aW (dP (c.aR a) (u.bW.aR a) _ (by simp)) ?_;rintro _ x ⟨rfl,k⟩;refine⟨k.1,?_⟩;have l:=a.trans k
  try simp only[gQ,hX,i_,ic,hW]
  exact IB e n ae ae d o N m (mt.trans (l.mut _)) (c.aR l) (l.get i) ((h.trans k).get p) (by simp[q])
def QV{r:Nat}{T:List Tok}{ax:aa}{H0:af}{s0:al}(e:b6 H0 r T ax s0){b:Nat}(q:H0.next<=b)(N:Nat)(z:3<N):
  ∀(n d:Nat),n+d=3->∀(m:Nat) (H:af) (s:al),n<m->cv r H0 H->bX H r ax s->H.get b=D (.row U 2 [[Z [],I J 0]])->
   W (pt (aI P aB) N m (.ptr r 0 0) (.ptr b 0 0) (I J d) H) λv H'=>∃p:(aC×Int)×al,p=(match fb T n d s with| .inr s'=>(([],0),s')| .inl (d,s')=>fz T d s')/\v= .agg [Z p.1.1,I J p.1.2]/\cv r H0 H'/\b6 H' r T ax p.2:=by
 intro n
 induction n with
 |zero=>
  intro d A m H s hm mt c h;obtain⟨m,rfl⟩:∃k,m=k+1:=⟨m-1,ae⟩;have E:d=3:=ae;subst E;have l:=e.mut mt c;have G:=e.rd.lt;have F:=af.a6 h;simp only[pt];rw[ic];refine aW (dP c l.bW [91] (by simp)) ?_;rintro _ H1 ⟨rfl,a⟩;refine⟨a.1,?_⟩;have i:=a.get h;cases j:aV T s [91]with
  |true=>
   simp-implicitDefEqProofs(disch:=try exact ak)only[gQ,hX,iH,ie,ic,hW,reduceAdd,reduceLeDiff,reduceIte,az,beq_self_eq_true,Int.cast_ofNat_Int];refine aW (lJ (l.aR a) 4) ?_;rintro _ O ⟨rfl,m2,L⟩;refine⟨m2.1,?_⟩;have u:=m2.get i ae;have Q:=af.a6 u;simp-implicitDefEqProofs(disch:=try exact ak)only[gQ,hX,iH,ie,ic,hW,reduceAdd,reduceLeDiff,reduceIte,az,u];have m3:=((mt.trans (a.mut _)).trans m2).db (.inr q) (.row U 2 [[Z [],I J 0]]);refine a_.2 ⟨(([],0),bQ T 4 s),by simp[fb,j],rfl,m3,e.mut m3 ?_⟩;have:=L.rd;unfold bX at this ⊢;rw[af.get_set_other ae];exact this
  |false=>
   simp-implicitDefEqProofs(disch:=try exact ak)only[gQ,hX,iH,ie,ic,hW,reduceAdd,reduceLeDiff,reduceIte,az];refine(IA e q 3 ae N z (mt.trans (a.mut _)) (c.aR a) i).mono ?_;rintro v H' ⟨rfl,bb,o⟩;exact⟨fz T 3 s,by simp[fb,j],rfl,bb,o⟩
 |succ n M=>
  intro d A m H s hm mt c h;obtain⟨m,rfl⟩:∃k,m=k+1:=⟨m-1,ae⟩;have l:=e.mut mt c;have G:=e.rd.lt;have F:=af.a6 h;have K:=l.bW.one;simp only[pt];rw[ic];refine aW (dP c l.bW [91] (by simp)) ?_;rintro _ H1 ⟨rfl,a⟩;refine⟨a.1,?_⟩;have i:=a.get h;have w:=c.aR a;have x:=w;unfold bX at x;cases j:aV T s [91]with
  |true=>
   have y:((d:Int)==3)=false:=by simp;omega
   have hw:IntKind.i64.wrap ((d:Int)+1)=((d+1:Nat):Int):=by rw[wrap_i64 ae ae];simp
   obtain⟨m2,B⟩:=fR w (aw s);simp-implicitDefEqProofs(disch:=try exact ak)only[gQ,hX,iH,ie,hW,reduceAdd,reduceLeDiff,reduceIte,az,y,hw,x,K];refine(M (d+1) ae m _ _ ae ((mt.trans (a.mut _)).trans m2) B (m2.get i ae)).mono ?_;rintro v H' ⟨p,aF,rfl,bb,o⟩;exact⟨p,by rw[aF];simp[fb,j],rfl,bb,o⟩
  |false=>
   simp-implicitDefEqProofs(disch:=try exact ak)only[gQ,hX,iH,ie,hW,reduceAdd,reduceLeDiff,reduceIte,az];refine(IA e q d ae N ae (mt.trans (a.mut _)) (c.aR a) i).mono ?_;rintro v H' ⟨rfl,bb,o⟩;exact⟨fz T d s,by simp[fb,j],rfl,bb,o⟩
def uB{H:af}{r:Nat}{T:List Tok}{ax:aa}{s:al}(a:b6 H r T ax s):W (aI P aB 53 [.ptr r 0 0] H) λv H'=>v= .agg [Z (cM T s).1.1,I J (cM T s).1.2]/\cv r H H'/\b6 H' r T ax (cM T s).2:=by
 refine cO (λ_=>Rz 10) ?_;simp only[gQ,hX,iH,ie,hW,cX];have p:=aU.push H (.row U 2 [[Z [],I J 0]]);refine(QV a (bo _) 10 ae 3 0 rfl 10 _ s ae (p.mut _) (a.rd.aR p) (af.bY _ _)).mono ?_;rintro v H' ⟨q,c,rfl,bb,d⟩;have:q=cM T s:=by rw[c];rfl
 subst this;exact⟨rfl,bb,d⟩
def l6(ok:Nat->Prop)(H:af)(r:Nat)(T:List Tok)(ax:aa)(e:aE)(s':al)(v:aa)(H':af):Prop:=cv r H H'/\b6 H' r T ax s'/\cT H' ok e v
abbrev ew(H:af):=l6 (bx H.next) H
def ew.box{H c:af}{r:Nat}{T:List Tok}{ax:aa}{s s':al}{a:bU}{ks:List aE}{kv:aa}{b:Nat}{lo:Nat}(h:b6 H r T ax s)(m:cv r H c)(e:bX c r ax s')(i:H.next<=b)(n:b<lo)(j:cz c (bx lo) ks kv)(d:cb):
  ew H r T ax (.mk a ks) s' (.agg (a.cells kv)) (c.set b d):=by
 have k:=h.rd.lt;have m':=m.db (.inr i) d;refine⟨m',h.mut m' ?_,?_⟩
 ·unfold bX at e ⊢;rw[af.get_set_other ae];exact e
 ·rw[iO];exact⟨kv,rfl,j.a1 (dA.set _ (by unfold bx;omega) λl k=>by unfold bx at*;omega)⟩
def l6.fin{ok:Nat->Prop}{H b5:af}{r:Nat}{T:List Tok}{ax:aa}{s s':al}{a:bU}{ks:List aE}{kv:aa}(e:b6 H r T ax s)(m:cv r H b5)(c:bX b5 r ax s')(d:cz b5 ok ks kv):l6 ok H r T ax (.mk a ks) s' (.agg (a.cells kv)) b5:=
 ⟨m,e.mut m c,iO.2 ⟨kv,rfl,d⟩⟩
def ew.ret{H a:af}{r:Nat}{T:List Tok}{ax:aa}{s s':al}{e:aE}{v:aa}{b n:Nat}(i:b6 H r T ax s)(m:cv r H a)(d:bX a r ax s')(j:H.next<=b)(he:cT a (bx n) e v)(k:b<n)(c:cb):ew H r T ax e s' v (a.set b c):=by
 have o:=i.rd.lt;have m':=m.db (.inr j) c;refine⟨m',i.mut m' ?_,he.new (dp.db (S:=(· <n)) (dp.refl _ _) (.inl k) _) λl h=>by unfold bx;omega⟩;unfold bX at d ⊢;rw[af.get_set_other ae];exact d
def lj(n:Nat):Prop:=∀{H:af} {r:Nat} {T:List Tok} {ax:aa} {s:al},b6 H r T ax s->∀(lev:Nat),lev<=5->∀(e:aE) (s':al),dF T n lev s=D (e,s')->W (aI P aB 40 [.ptr r 0 0,I J lev] H) (ew H r T ax e s')
def xY(n:Nat):Prop:=∀{H:af} {r:Nat} {T:List Tok} {ax:aa} {s:al},b6 H r T ax s->∀(e:aE) (s':al),gj T n s=D (e,s')->W (aI P aB 69 [.ptr r 0 0] H) (ew H r T ax e s')
def xJ(n:Nat):Prop:=∀{ok:Nat->Prop} {H:af} {r:Nat} {T:List Tok} {ax:aa} {s:al} {e:aE} {v:aa},b6 H r T ax s->cT H ok e v->¬ok r->(∀l,H.next<=l->ok l)->∀(a:aE) (s':al),eU T n e s=D (a,s')->W (aI P aB 82 [.ptr r 0 0,v] H) (l6 ok H r T ax a s')
def pM(n:Nat):Prop:=∀{H:af} {r:Nat} {T:List Tok} {ax:aa} {s:al},b6 H r T ax s->∀(e:aE) (s':al),e4 T n s=D (e,s')->W (aI P aB 92 [.ptr r 0 0] H) (ew H r T ax e s')
def xM(n:Nat):Prop:=∀{H:af} {r:Nat} {T:List Tok} {ax:aa} {s:al},b6 H r T ax s->∀(e:aE) (s':al),dY T n s=D (e,s')->W (aI P aB 83 [.ptr r 0 0] H) (ew H r T ax e s')
def tc(n:Nat):Prop:=∀{H:af} {r:Nat} {T:List Tok} {ax:aa} {s:al},b6 H r T ax s->∀(pos:Int) (e:aE) (s':al),gb T n pos s=D (e,s')->W (aI P aB 91 [.ptr r 0 0,I J pos] H) (ew H r T ax e s')
def s9(n:Nat):Prop:=∀{H:af} {r:Nat} {T:List Tok} {ax:aa} {s:al},b6 H r T ax s->∀(l:List aE) (s':al),fN T n s=D (l,s')->W (aI P aB 93 [.ptr r 0 0] H) λv H'=>cv r H H'/\b6 H' r T ax s'/\cz H' (bx H.next) l v
structure K8(n:Nat):Prop where
 expr:lj n
 unary:xY n
 behind:xJ n
 inner:pM n
 first:xM n
 fresh:tc n
 args:s9 n
def Oy{n:Nat}(G:lj n):pM (n+1):=by
 intro H r T ax s a e s' h;refine cO (λ_=>RZ 0) ?_;have N:=a.rd.lt;have q:=aU.push H (.row U 11 [[I J 0,I J 0,Z [],Z [],I J 0,.aA,I J 0,I J 0,I J 0,I J 0,I J 0]]);simp only[e4,dc]at h;obtain⟨⟨aq,s1⟩,w,i⟩:=h;simp only[aZ,cj]at i;obtain⟨rfl,rfl⟩:=i;simp-implicitDefEqProofs(disch:=try exact ak)only[q4,reduceAdd,reduceLeDiff,reduceIte,az];refine aW (sq (a.aR q) [40] (by simp)) ?_;rintro _ u ⟨rfl,m2,B⟩;refine⟨m2.1,?_⟩;have x:=m2.get (af.bY H _) ae;have K:=(q.mut (· =r)).trans m2;simp-implicitDefEqProofs(disch:=try exact ak)only[q4,reduceAdd,reduceLeDiff,reduceIte,az]
 refine aW (G B 0 ae aq s1 w) ?_;rintro v d ⟨m3,E,m⟩;refine⟨m3.1,?_⟩;have j:=m3.get x ae;have O:=af.a6 j;obtain⟨cs,rfl,hlen,o⟩:=m.cells;have p:List.take 11 cs=cs:=List.take_of_length_le ae;simp-implicitDefEqProofs(disch:=try exact ak)only[q4,reduceAdd,reduceLeDiff,reduceIte,az,hlen,o,List.append_nil,p];have c:=aU.push d (.row U 11 [cs]);refine aW (sk (E.aR c) [41] (by simp)) ?_;rintro _ L ⟨rfl,m5,F⟩;refine⟨m5.1,?_⟩;have k:=m5.get (c.get j) ae;have P:=af.a6 k;have y:=m5.get (af.bY d (.row U 11 [cs])) ae;have A:=m2.1;simp only[af.ch]at A;simp-implicitDefEqProofs(disch:=try exact ak)only[q4,reduceAdd,reduceLeDiff,reduceIte,az,hlen,o,List.append_nil,p,k,y]
 refine a_.2 (ew.ret a (((K.trans m3).trans (c.mut _)).trans m5) F.rd (bo _) (n:=u.next) (m.new ?_ λ_ h=>h) ae _);exact((aU.push _ _).mut _).trans ⟨m5.1,λl z M=>m5.2 l z ae⟩
def NZ{n:Nat}(ab:pM n):tc (n+1):=by
 intro H r T ax s c pos e s' h;refine cO (λ_=>RY 0) ?_;have ah:=c.rd.lt;have Q:=c.bW.one;have K:=aU.push H (.row U 11 [[I J 0,I J 0,Z [],Z [],I J 0,.aA,I J 0,I J 0,I J 0,I J 0,I J 0]]);simp-implicitDefEqProofs(disch:=try exact ak)only[mV,reduceAdd,reduceLeDiff,reduceIte,az];have q:=c.aR K;refine aW (dP q.rd q.bW [91] (by simp)) ?_;rintro _ ad ⟨rfl,k⟩;refine⟨k.1,?_⟩;have G:=q.aR k;have o:=k.get (af.bY H (.row U 11 [[I J 0,I J 0,Z [],Z [],I J 0,.aA,I J 0,I J 0,I J 0,I J 0,I J 0]]))
 have al:=af.a6 o;have j:=(K.trans k).mut (· =r);simp only[gb]at h;cases B:aV T s [91]with
 |true=>
  simp only[B,aS,dc]at h;obtain⟨⟨aq,s1⟩,M,x⟩:=h;simp only[aZ,cj]at x;obtain⟨rfl,rfl⟩:=x;have i:=G.rd;have F:=i;unfold bX at F;obtain⟨m3,N⟩:=fR i (aw s);simp-implicitDefEqProofs(disch:=try exact ak)only[mV,reduceAdd,reduceLeDiff,reduceIte,az,F,Q,Bool.not_true];refine aW (uB (c.mut (j.trans m3) N)) ?_;rintro _ m ⟨rfl,m5,u⟩;refine⟨m5.1,?_⟩;have d:=m5.get (m3.get o ae) ae;have O:=af.a6 d;simp-implicitDefEqProofs(disch:=try exact ak)only[mV,reduceAdd,reduceLeDiff,reduceIte,az];have w:=aU.push m (.row U 2 [[Z (cM T (aw s)).1.1,I J (cM T (aw s)).1.2]]);have V:=af.bY m (.row U 2 [[Z (cM T (aw s)).1.1,I J (cM T (aw s)).1.2]])
  refine aW (h0 (u.aR w) [93] (by simp)) ?_;rintro _ ag ⟨rfl,m8,W⟩;refine⟨m8.1,?_⟩;have y:=m8.get (w.get d) ae;have p:=m8.get V ae;have ai:=af.a6 y;have am:=af.a6 p;simp-implicitDefEqProofs(disch:=try exact ak)only[mV,reduceAdd,reduceLeDiff,reduceIte,az];refine aW (ab W aq s1 M) ?_;rintro v L ⟨m9,aa,A⟩;refine⟨m9.1,?_⟩;have z:=m9.get y ae;have E:=m9.get p ae;have aj:=af.a6 z;have an:=af.a6 E;have ao:=m9.1;obtain⟨cs,rfl,hlen,R⟩:=A.cells;have ar:∀l,cl P l 41 1 [(0,.agg cs)]=D (.aG l 0 1 11 (D 1),.row U 11 [cs]):=λl=>lb l cs hlen R
  replace j:=((((j.trans m3).trans m5).trans (w.mut _)).trans m8).trans m9;have i:=aa.rd;unfold bX at i;simp-implicitDefEqProofs(disch:=try exact ak)only[mV,reduceAdd,reduceLeDiff,reduceIte,az,ar,z,E,p];refine a_.2 ?_;refine l6.fin (ok:=bx H.next) (a:={kind:=9,b4:=(cM T (aw s)).1.1,cy:=(cM T (aw s)).1.2,pos:=pos}) (kv:= .aG L.next 0 1 11 (D 1)) (s':=s1) c ?_ ?_ (cz.qo (ro:=false) ?_ (by unfold bx;omega) (A.new ?_ λl h=>by unfold bx;omega))
  ·(repeat (first|exact j|refine dp.bT ?_ _|refine dp.db (S:=(· =r)) ?_ (.inl rfl) _|refine dp.db ?_ (.inr (by(first|omega|(simp only[af.ch,af.dK];omega)))) _))
  ·(unfold bX;simp-implicitDefEqProofs(disch:=try exact ak)only[ed,i,aw,dU,e0])
  ·simp-implicitDefEqProofs(disch:=try exact ak)only[ed]
  ·exact dp.db (S:=λl=>l<_) ((dp.refl _ _).bT _) (.inl ae) _
 |false=>
  simp only[B,aN,aZ,cj]at h;obtain⟨rfl,rfl⟩:=h;simp-implicitDefEqProofs(disch:=try exact ak)only[mV,reduceAdd,reduceLeDiff,reduceIte,az,Bool.not_false];refine aW (o8 G) ?_;rintro _ m ⟨rfl,m5,u⟩;refine⟨m5.1,?_⟩;have d:=m5.get o ae;have O:=af.a6 d;simp-implicitDefEqProofs(disch:=try exact ak)only[mV,reduceAdd,reduceLeDiff,reduceIte,az,d];refine a_.2 ?_;exact ew.box (a:={kind:=8,b4:=(bA T s).1,pos:=pos}) (kv:= .aA) (lo:=H.next+1) c (j.trans m5) u.rd (bo _) (Nat.lt_succ_self _) (cz.nil _ _) _
def B6{N:Nat}(Q:∀k,k<N->lj k){H0:af}{r:Nat}{T:List Tok}{ax:aa}{s0:al}(o:b6 H0 r T ax s0):
  ∀(n m:Nat),n<N->n<m->∀(H:af) (s:al) (l:List aE) (L:Nat) (els:List (List aa)),cv r H0 H->bX H r ax s->l.length+n<=1000000000->H.get L=D (.row U 11 els)->H0.next<=L->els.length=l.length->
   dz H (λk=>H0.next<=k/\k≠L) l els->∀(l':List aE) (s':al),fi T n l s=D (l',s')->
   W (q6 (aI P aB) N m (.ptr r 0 0) (.aG L 0 l.length 11 C) H) λv H'=>cv r H0 H'/\b6 H' r T ax s'/\cz H' (bx H0.next) l' v
 |0,m,B,hm,H,s,l,L,els,d,u,hlen,q,p,i,y,l',s',h=>by simp[fi]at h
 |n+1,0,B,hm,H,s,l,L,els,d,u,hlen,q,p,i,y,l',s',h=>ae
 |n+1,m+1,B,hm,H,s,l,L,els,d,u,hlen,q,p,i,y,l',s',h=>by
  have aC:=o.rd.lt;have aj:=o.bW.one;have aD:=af.a6 q;have hle:=d.1;have M:=o.mut d u;simp only[fi]at h;simp only[q6];rw[q5];refine aW (dP u M.bW [44] (by simp)) ?_;rintro _ H1 ⟨rfl,a⟩;refine⟨a.1,?_⟩;have O:=M.aR a;have z:=a.get q;have aF:=af.a6 z;have E:=y.a1 (dA.aR a λ_ h=>h) l els;cases K:aV T s [44]with
  |false=>
   simp only[K,aN,aZ,cj]at h;obtain⟨rfl,rfl⟩:=h;simp-implicitDefEqProofs(disch:=try exact ak)only[jw,q5,jQ,reduceAdd,reduceLeDiff,reduceIte,az];refine aW (sk O [41] (by simp)) ?_;rintro _ av ⟨rfl,m2,an⟩;refine⟨m2.1,?_⟩
   try simp only[jw,q5,jQ]
   refine a_.2 ⟨(d.trans (a.mut _)).trans m2,an,.inr (.inl ⟨L,0,C,U,els,rfl,p,m2.get z ae,?_⟩)⟩;rw[List.drop_zero];exact E.a1 (dA.mut m2 ae λ_ h=>h.1) l els
  |true=>
   simp only[K,aS,dc]at h;obtain⟨⟨aq,s1⟩,R,S⟩:=h;have A:=O.rd;have G:=A;unfold bX at G;have aJ:=A.lt;obtain⟨m2,ab⟩:=fR A (aw s);simp-implicitDefEqProofs(disch:=try exact ak)only[jw,q5,jQ,reduceAdd,reduceLeDiff,reduceIte,az,G,aj];refine aW (Q n ae (o.mut ((d.trans (a.mut _)).trans m2) ab) 0 ae aq s1 R) ?_;rintro v c ⟨m3,ao,x⟩;refine⟨m3.1,?_⟩;have F:=m3.get (m2.get z ae) ae;have aH:=af.a6 F;have aK:=a.1;have ai:=m3.1;simp only[af.dK]at ai x;have ad:=E.a1 (dA.mut (m2.trans m3) ae λ_ h=>h) l els;obtain⟨cs,rfl,ag,am⟩:=x.cells;have ar:∀l,cl P l 41 1 [(0,.agg cs)]=D (.aG l 0 1 11 (D 1),.row U 11 [cs]):=λl=>lb l cs ag am
   simp-implicitDefEqProofs(disch:=try exact ak)only[jw,jQ,reduceAdd,reduceLeDiff,reduceIte,az,ar];have au:=aU.push c (.row U 11 [cs]);rw[L8 (af.bY c (.row U 11 [cs])) (au.get F) i ae,fJ (by simp only[af.ch,af.dK];omega)];simp only[af.ch,af.dK,jw,jQ];have ah:l.length+1=(l++[aq]).length:=by simp
   rw[ah];have w:∀k,k<c.next->k≠L->(((c.push (.row U 11 [cs])).set L .dead).push (.row U 11 (els++[cs]))).get k=c.get k:=λk j ay=>by
    rw[af.dS (by simp only[af.ch,af.dK];omega),af.get_set_other ae,af.dS ae]
   have ap:cv r H0 (((c.push (.row U 11 [cs])).set L .dead).push (.row U 11 (els++[cs]))):=((((d.trans (a.mut _)).trans m2).trans m3).bT _|>.db (.inr p) _).bT _;refine B6 Q o n m ae ae _ s1 (l++[aq]) (c.next+1) (els++[cs]) ap ?_ (by simp;omega) ?_ ae (by simp[i]) ?_ l' s' S
   ·have:=ao.rd;unfold bX at this ⊢;rw[w r ae ae];exact this
   ·exact af.vA (by simp only[af.ch,af.dK];omega) (by simp only[af.ch,af.dK];omega)
   ·refine dz.append l els aq cs ?_ i ?_
    ·exact ad.a1 (λk ro es j e=>⟨⟨j.1,by have:=af.a6 e;omega⟩,by rw[w k (af.a6 e) j.2];exact e⟩) l els
    ·exact x.a1 (λk ro es j e=>by
      have V:=af.a6 e;unfold bx at j;exact⟨⟨ae,ae⟩,by rw[w k V ae];exact e⟩) aq _
def Mk{n:Nat}(O:n<=900000000)(w:∀k,k<=n->lj k):s9 (n+1):=by
 intro H r T ax s d l s' h;refine cO (λ_=>R0 (n+1)) ?_;have G:=d.rd.lt;simp only[fN]at h;rw[jQ];refine aW (sq d [40] (by simp)) ?_;rintro _ H1 ⟨rfl,m1,e⟩;refine⟨m1.1,?_⟩;simp-implicitDefEqProofs(disch:=try exact ak)only[jw,jQ,reduceAdd,reduceLeDiff,reduceIte,az];refine aW (dP e.rd e.bW [41] (by simp)) ?_;rintro _ E ⟨rfl,c⟩;refine⟨c.1,?_⟩;have u:=e.aR c;have x:=m1.trans (c.mut _);cases p:aV T (cB T [40] s) [41]with
 |true=>
  simp only[p,aS,aZ,cj]at h;obtain⟨rfl,rfl⟩:=h;simp-implicitDefEqProofs(disch:=try exact ak)only[jw,jQ,reduceAdd,reduceLeDiff,reduceIte,az];refine aW (sk u [41] (by simp)) ?_;rintro _ a ⟨rfl,m3,i⟩;refine⟨m3.1,?_⟩
  try simp only[jw,jQ]
  exact a_.2 ⟨x.trans m3,i,cz.nil _ _⟩
 |false=>
  simp only[p,aN,dc]at h;obtain⟨⟨aq,s1⟩,y,z⟩:=h;simp-implicitDefEqProofs(disch:=try exact ak)only[jw,jQ,reduceAdd,reduceLeDiff,reduceIte,az];refine aW (w n (bo _) u 0 ae aq s1 y) ?_;rintro v a ⟨m3,i,m⟩;refine⟨m3.1,?_⟩;have K:=m1.1;have L:=c.1;have M:=m3.1;obtain⟨cs,rfl,A,B⟩:=m.cells;have ar:∀l,cl P l 41 1 [(0,.agg cs)]=D (.aG l 0 1 11 (D 1),.row U 11 [cs]):=λl=>lb l cs A B
  simp-implicitDefEqProofs(disch:=try exact ak)only[jw,jQ,reduceAdd,reduceLeDiff,reduceIte,az,ar];have j:=(aU.push a (.row U 11 [cs])).bT (.row U 11 [cs]);rw[L7 (af.bY a (.row U 11 [cs])),fJ (by simp only[af.ch];omega)];simp only[af.ch,jw,jQ];refine B6 (N:=n+1) (λk q=>w k ae) d n (n+1) ae ae _ s1 [aq] (a.next+1) [cs] ((x.trans m3).trans (j.mut _)) (i.rd.aR j) (by simp;omega) ?_ ae rfl ?_ l s' z
  ·exact af.vA (by simp only[af.ch];omega) (by simp only[af.ch];omega)
  ·rw[dz,dz];exact⟨m.a1 (λk ro es q o=>by
    have F:=af.a6 o;unfold bx at q;exact⟨⟨ae,ae⟩,j.get o⟩) aq _,trivial⟩
def yk{N B:Nat}(av:∀k,k<B->lj k){ok:Nat->Prop}{H0:af}{r:Nat}{T:List Tok}{ax:aa}{s0:al}(x:b6 H0 r T ax s0)(R:¬ok r)(F:∀l,H0.next<=l->ok l):
  ∀(n m:Nat),n<=B->n<m->∀(H:af) (s:al) (e:aE) (cs o:List aa),cv r H0 H->bX H r ax s->H.get (H0.next+1)=D (.row U 11 [o])->o.length=11->H.get H0.next=D (.row U 11 [cs])->
   cT H (λl=>ok l/\l≠H0.next/\l≠H0.next+1) e (.agg cs)->∀(a:aE) (s':al),eU T n e s=D (a,s')->
   W (pB (aI P aB) N m (.ptr r 0 0) (.ptr H0.next 0 0) (.ptr (H0.next+1) 0 0) H) (l6 ok H0 r T ax a s')
 |0,m,aP,hm,H,s,e,cs,o,y,j,E,S,A,he,a,s',h=>by simp[eU]at h
 |n+1,0,aP,hm,H,s,e,cs,o,y,j,E,S,A,he,a,s',h=>ae
 |n+1,m+1,aP,hm,H,s,e,cs,o,y,j,E,S,A,he,a,s',h=>by
  have bF:=x.rd.lt;have br:=x.bW.one;have G:=x.mut y j;have bG:=af.a6 A;have bH:=af.a6 E;have hle:=y.1;obtain⟨bE,bh,hlen,ai⟩:=he.cells;cases bh;have ap:List.take 11 cs=cs:=List.take_of_length_le ae;have bl:List.drop 11 o=[]:=List.drop_of_length_le ae;have a5:List.drop 11 cs=[]:=List.drop_of_length_le ae;have bs:=he.same;simp only[eU]at h;simp only[pB];rw[uK];refine aW (dP j G.bW [46] (by simp)) ?_;rintro _ H1 ⟨rfl,z⟩;refine⟨z.1,?_⟩;have fin:∀b5,aU H b5->(a,s')=(e,s)->W (q2 (aI P aB) N (.ptr H0.next 0 0) (.ptr (H0.next+1) 0 0) b5) (l6 ok H0 r T ax a s'):=by
   intro b5 p bn;cases bn;have aQ:=p.get A;have a0:=p.get E;have ea:=af.a6 aQ;have gi:=af.a6 a0;simp-implicitDefEqProofs(disch:=try exact ak)only[q2,k9,mT,j7,j8,j9,lR,uK,j_,ka,jP,reduceAdd,reduceLeDiff,reduceIte,az,aQ,a0,hlen,ai,List.append_nil,ap,bl];have m':=(y.trans (p.mut _)).db (.inr (Nat.le_succ _)) (.row U 11 [cs]);refine a_.2 ⟨m',x.mut m' ?_,(he.a1 (dA.aR p λ_ h=>h) e _).a1 (dA.set _ ae λl h=>h.1) e _⟩;have:=j.aR p;unfold bX at this ⊢;rw[af.get_set_other ae];exact this
  have go:∀(ab:af),aU H ab->(bif aV T s [46]then eU T n (.mk {kind:=5,name:=(bA T (aw s)).1,pos:=(aj T s.at_).pos} [e]) (bA T (aw s)).2 else(dF T n 0 (cB T [91] s)).bind λp=>eU T n (.mk {kind:=6,pos:=(aj T s.at_).pos} [e,p.1]) (dh T [93] p.2))=D (a,s')->
    W (lR (aI P aB) (pB (aI P aB) N m) ab (.ptr r 0 0) (.ptr H0.next 0 0) (.ptr (H0.next+1) 0 0)) (l6 ok H0 r T ax a s'):=by
   intro ab V O;simp only[lR];refine aW (jt (j.aR V) (G.bW.aR V)) ?_;rintro _ ad ⟨rfl,aH⟩;refine⟨aH.1,?_⟩;simp-implicitDefEqProofs(disch:=try exact ak)only[j9,j8,j7,reduceAdd,reduceLeDiff,reduceIte,az,Tok.v];have aJ:=(V.trans aH).bT (.row U 4 [[I J (aj T s.at_).kind,Z (aj T s.at_).text,I J (aj T s.at_).n,I J (aj T s.at_).pos]]);have bt:=af.bY ad (.row U 4 [[I J (aj T s.at_).kind,Z (aj T s.at_).text,I J (aj T s.at_).n,I J (aj T s.at_).pos]]);refine aW (dP (j.aR aJ) (G.bW.aR aJ) [46] (by simp)) ?_;rintro _ aM ⟨rfl,aK⟩;refine⟨aK.1,?_⟩;have L:=aJ.trans aK
   have am:=aK.get bt;have bI:=af.a6 am;have ag:=L.get A;have ah:=L.get E;have bf:=G.aR L;have aC:=y.trans (L.mut _);have a7:=he.a1 (dA.aR L λ_ h=>h) e _;have bM:H.next<=ad.next:=(V.trans aH).1
   have bP:=af.a6 ag;cases a4:aV T s [46]with
   |true=>
    simp only[a4,aS]at O;have ao:=bf.rd;have be:=ao;unfold bX at be;have bJ:=ao.lt;obtain⟨m8,bj⟩:=fR ao (aw s);simp-implicitDefEqProofs(disch:=try exact ak)only[mT,j7,j8,j9,lR,j_,ka,jP,reduceAdd,reduceLeDiff,reduceIte,az,be,br];refine aW (o8 (x.mut (aC.trans m8) bj)) ?_;rintro _ c ⟨rfl,m9,au⟩;refine⟨m9.1,?_⟩;have ay:=m8.trans m9;have aX:=m8.get ag ae;have aY:=m9.get aX ae;have a3:=ay.get ah ae;have bc:=m8.get am ae;have bd:=m9.get bc ae;have bQ:=af.a6 aY;have bV:=af.a6 a3;have b0:=af.a6 bd;have bg:(aM.set r (.row U 5 [[ax,I J (IntKind.i64.wrap (s.at_+1)),I J s.bk,I J s.an,I J s.bN]])).get H0.next=D (.row U 11 [cs]):=aX
    have bu:(aM.set r (.row U 5 [[ax,I J (IntKind.i64.wrap (s.at_+1)),I J s.bk,I J s.an,I J s.bN]])).get ad.next=D (.row U 4 [[I J (aj T s.at_).kind,Z (aj T s.at_).text,I J (aj T s.at_).n,I J (aj T s.at_).pos]]):=bc
    have ar:∀l,cl P l 41 1 [(0,.agg cs)]=D (.aG l 0 1 11 (D 1),.row U 11 [cs]):=λl=>lb l cs hlen ai
    simp-implicitDefEqProofs(disch:=try exact ak)only[mT,j7,j8,j9,lR,j_,ka,jP,reduceAdd,reduceLeDiff,reduceIte,az,aY,bg,bd,bu,ar,ap,a5,bs,Bool.and_true,Bool.and_self];simp only[k9];have bB:cv r H0 ((c.push (.row U 11 [cs])).set H0.next (.row U 11 [[I J 5,I J 0,Z (bA T (aw s)).1,Z [],I J 0,.aG c.next 0 1 11 (D 1),I J (aj T s.at_).pos,I J 0,I J 0,I J 0,I J 0]])):=((aC.trans ay).bT _).db (.inr (bo _)) _;have i:∀k,k<c.next->k≠H0.next->((c.push (.row U 11 [cs])).set H0.next (.row U 11 [[I J 5,I J 0,Z (bA T (aw s)).1,Z [],I J 0,.aG c.next 0 1 11 (D 1),I J (aj T s.at_).pos,I J 0,I J 0,I J 0,I J 0]])).get k=c.get k:=λk bp bq=>by
     rw[af.get_set_other ae,af.dS ae]
    refine yk av x R F n m ae ae _ _ _ (bU.cells {kind:=5,name:=(bA T (aw s)).1,pos:=(aj T s.at_).pos} (.aG c.next 0 1 11 (D 1))) o bB ?_ ?_ S (af.get_set_same (by simp only[af.ch];omega)) ?_ a s' O
    ·have:=au.rd;unfold bX at this ⊢;rw[i r ae ae];exact this
    ·rw[i _ ae ae];exact a3
    ·rw[iO];have Q:=a7.mut ay (by rintro⟨h,_⟩;exact R h) λ_ h=>h
     refine⟨_,rfl,cz.qo (ro:=false) ?_ ⟨F _ ae,ae,ae⟩ (Q.a1 (λl ro els w u=>⟨w,by rw[i l (af.a6 u) w.2.1];exact u⟩) e _)⟩;rw[af.get_set_other ae];exact af.bY _ _
   |false=>
    simp only[a4,aN,dc]at O;obtain⟨⟨aq,s1⟩,g1,g2⟩:=O;simp-implicitDefEqProofs(disch:=try exact ak)only[k9,j7,j8,j9,lR,j_,ka,jP,reduceAdd,reduceLeDiff,reduceIte,az];refine aW (sq bf [91] (by simp)) ?_;rintro _ bD ⟨rfl,m8,bz⟩;refine⟨m8.1,?_⟩;simp-implicitDefEqProofs(disch:=try exact ak)only[k9,j7,j8,j9,lR,j_,ka,jP,reduceAdd,reduceLeDiff,reduceIte,az];refine aW (av n ae bz 0 ae aq s1 g1) ?_;rintro v c ⟨m9,au,Q⟩;refine⟨m9.1,?_⟩;obtain⟨d,rfl,a9,ba⟩:=Q.cells;have bv:List.take 11 d=d:=List.take_of_length_le ae;simp-implicitDefEqProofs(disch:=try exact ak)only[k9,j7,j8,j9,lR,j_,ka,jP,reduceAdd,reduceLeDiff,reduceIte,az,a9,ba,List.append_nil]
    have aD:=aU.push c (.row U 11 [d]);refine aW (sk (au.aR aD) [93] (by simp)) ?_;rintro _ q ⟨rfl,m12,bw⟩;refine⟨m12.1,?_⟩;have K:=((m8.trans m9).trans (aD.mut _)).trans m12;have aT:=K.get ag ae;have a2:=K.get ah ae;have bb:=K.get am ae;have bi:=m12.get (af.bY c (.row U 11 [d])) (by have:=m8.1;have:=m9.1;omega);have bO:=af.a6 aT;have bR:=af.a6 a2;have bZ:=af.a6 bb;have ar:∀l,cl P l 41 2 [(0,.agg cs),(1,.agg d)]=D (.aG l 0 2 11 (D 2),.row U 11 [cs,d]):=λl=>AI l cs d hlen ai a9 ba
    simp-implicitDefEqProofs(disch:=try exact ak)only[k9,j7,j8,j9,lR,j_,ka,jP,reduceAdd,reduceLeDiff,reduceIte,az,aT,bi,bb,ar,ap,bv,a5];simp only[mT];have bC:cv r H0 ((q.push (.row U 11 [cs,d])).set H0.next (.row U 11 [[I J 6,I J 0,Z [],Z [],I J 0,.aG q.next 0 2 11 (D 2),I J (aj T s.at_).pos,I J 0,I J 0,I J 0,I J 0]])):=((aC.trans K).bT _).db (.inr (bo _)) _;have i:∀k,k<q.next->k≠H0.next->((q.push (.row U 11 [cs,d])).set H0.next (.row U 11 [[I J 6,I J 0,Z [],Z [],I J 0,.aG q.next 0 2 11 (D 2),I J (aj T s.at_).pos,I J 0,I J 0,I J 0,I J 0]])).get k=q.get k:=λk bp bq=>by
     rw[af.get_set_other ae,af.dS ae]
    refine yk av x R F n m ae ae _ _ _ (bU.cells {kind:=6,pos:=(aj T s.at_).pos} (.aG q.next 0 2 11 (D 2))) o bC ?_ ?_ S (af.get_set_same (by simp only[af.ch];omega)) ?_ a s' g2
    ·have:=bw.rd;unfold bX at this ⊢;rw[i r ae ae];exact this
    ·rw[i _ ae ae];exact a2
    ·rw[iO];have bm:=a7.mut K (by rintro⟨h,_⟩;exact R h) λ_ h=>h
     have bS:=af.a6 ah;have bK:=m8.1;have bL:=m9.1;refine⟨_,rfl,cz.A7 (ro:=false) ?_ ⟨F _ ae,ae,ae⟩ (bm.a1 (λl ro els w u=>⟨w,by rw[i l (af.a6 u) w.2.1];exact u⟩) e _) (Q.a1 (λl ro els w u=> ?_) aq _)⟩
     ·rw[af.get_set_other ae];exact af.bY _ _
     ·unfold bx at w;have a8:=m12.get (aD.get u) ae;exact⟨⟨F _ ae,ae,ae⟩,by rw[i l (af.a6 a8) ae];exact a8⟩
  cases M:aV T s [46]with
  |true=>
   simp only[M,aS]at h;simp-implicitDefEqProofs(disch:=try exact ak)only[k9,mT,j7,j8,j9,j_,ka,jP,reduceAdd,reduceLeDiff,reduceIte,az];exact go H1 z (by rw[M];exact h)
  |false=>
   simp only[M,aN]at h;simp-implicitDefEqProofs(disch:=try exact ak)only[k9,mT,j7,j8,j9,j_,ka,jP,reduceAdd,reduceLeDiff,reduceIte,az];refine hl (dP (j.aR z) (G.bW.aR z) [91] (by simp)) ?_;rintro _ aL ⟨rfl,aF⟩;refine⟨aF.1,?_⟩;cases aO:aV T s [91]with
   |true=>
    simp only[aO,aS]at h;simp-implicitDefEqProofs(disch:=try exact ak)only[k9,mT,j7,j8,j9,j_,ka,jP,reduceAdd,reduceLeDiff,reduceIte,az];exact go aL (z.trans aF) (by rw[M];exact h)
   |false=>
    simp only[aO,aN,aZ]at h;simp-implicitDefEqProofs(disch:=try exact ak)only[k9,mT,j7,j8,j9,j_,ka,jP,reduceAdd,reduceLeDiff,reduceIte,az];exact fin aL (z.trans aF) h.symm
def My{n:Nat}(u:∀k,k<=n->lj k):xJ (n+1):=by
 intro ok H r T ax s e v d he p o i s' h;refine cO (λ_=>RU (n+2)) ?_;obtain⟨cs,rfl,hlen,q⟩:=he.cells;have j:∀l,dR l (.agg cs)=D (.ptr l 0 0,.row U 11 [cs]):=λl=>by rw[hn l cs q,hlen]
 simp-implicitDefEqProofs(disch:=try exact ak)only[jP,ka,j_,reduceAdd,reduceLeDiff,reduceIte,az,j];have c:=(aU.push H (.row U 11 [cs])).bT (.row U 11 [[I J 0,I J 0,Z [],Z [],I J 0,.aA,I J 0,I J 0,I J 0,I J 0,I J 0]]);refine yk (N:=n+2) (B:=n+1) (λk w=>u k ae) d p o (n+1) (n+2) ae ae _ s e cs [I J 0,I J 0,Z [],Z [],I J 0,.aA,I J 0,I J 0,I J 0,I J 0,I J 0] (c.mut _) (d.rd.aR c) ?_ rfl ?_ ?_ i s' h
 ·simp-implicitDefEqProofs(disch:=try exact ak)only[ed]
 ·simp-implicitDefEqProofs(disch:=try exact ak)only[ed]
 ·exact he.a1 (λl ro els m a=>⟨⟨m,by have:=af.a6 a;omega,by have:=af.a6 a;omega⟩,c.get a⟩) e _
def FC{T:List Tok}{s:al}{x:aC}(h:aV T s x=X)(a:x≠[]):(aj T s.at_).text≠[]:=by
 simp only[aV,bz,Bool.and_eq_true,beq_iff_eq]at h;rw[h.2.2];exact a
def I8{n:Nat}(K:lj n){H0 H:af}{r:Nat}{T:List Tok}{ax:aa}{s:al}(c:b6 H0 r T ax s)(i:aU H0 H)(o:H.get H0.next=D (.row U 11 [[I J 0,I J 0,Z [],Z [],I J 0,.aA,I J 0,I J 0,I J 0,I J 0,I J 0]])){b:Nat}(M:H0.next<b)(d:H.get b=D (.row U 4 [[I J (aj T s.at_).kind,Z (aj T s.at_).text,I J (aj T s.at_).n,I J (aj T s.at_).pos]]))(A:(aj T s.at_).text≠[]){k:Int}
  {j:aE} {s':al} (h:hZ T (n+1) k s=D (j,s')):W (n3 (aI P aB) (.ptr r 0 0) (.ptr H0.next 0 0) (.ptr b 0 0) (I J k) H) (ew H0 r T ax j s'):=by
 have N:=c.rd.lt;have B:=c.bW.one;have F:=c.aR i;have hle:=i.1;have Q:=af.a6 d;have V:=af.a6 o;simp only[hZ,dc]at h;obtain⟨⟨aq,s1⟩,z,m⟩:=h;simp only[aZ,cj]at m;obtain⟨rfl,rfl⟩:=m;simp-implicitDefEqProofs(disch:=try exact ak)only[n3,kK,j6,reduceAdd,reduceLeDiff,reduceIte,az,d];refine aW (sq F _ A) ?_;rintro _ H1 ⟨rfl,m1,G⟩;refine⟨m1.1,?_⟩;simp-implicitDefEqProofs(disch:=try exact ak)only[n3,kK,j6,reduceAdd,reduceLeDiff,reduceIte,az];refine aW (K G 5 ae aq s1 z) ?_;rintro v y ⟨m2,x,q⟩;refine⟨m2.1,?_⟩;have ad:=m1.1;have ag:=m2.1;have m12:=m1.trans m2;have p:=m12.get o ae;have w:=m12.get d ae;have O:=af.a6 p
 have R:=af.a6 w;obtain⟨cs,rfl,hlen,u⟩:=q.cells;have E:List.take 11 cs=cs:=List.take_of_length_le ae;have ar:∀l,cl P l 41 1 [(0,.agg cs)]=D (.aG l 0 1 11 (D 1),.row U 11 [cs]):=λl=>lb l cs hlen u
 have e:=x.rd;unfold bX at e;have ab:=x.rd.lt;have L:=(i.mut (· =r)).trans m12;simp-implicitDefEqProofs(disch:=try exact ak)only[n3,kK,j6,reduceAdd,reduceLeDiff,reduceIte,az,hlen,u,List.append_nil,E,ar,e,B,p,w];refine a_.2 ?_;refine l6.fin (ok:=bx H0.next) (a:={kind:=k,pos:=(aj T s.at_).pos}) (kv:= .aG (y.next+1) 0 1 11 (D 1)) (s':=dU s1) c ?_ ?_ (cz.qo (ro:=false) ?_ (by unfold bx;omega) (q.new ?_ λl h=>by unfold bx;omega))
 ·(repeat (first|exact L|refine dp.bT ?_ _|refine dp.db (S:=(· =r)) ?_ (.inl rfl) _|refine dp.db ?_ (.inr (by(first|omega|(simp only[af.ch,af.dK];omega)))) _))
 ·(unfold bX;simp-implicitDefEqProofs(disch:=try exact ak)only[ed,e,aw,dU,e0])
 ·simp-implicitDefEqProofs(disch:=try exact ak)only[ed]
 ·exact dp.db (S:=λl=>l<_) ((dp.db (S:=λl=>l<_) ((dp.refl _ _).bT _) (.inl ae) _).bT _) (.inl ae) _
def Vb{n:Nat}(E:∀k,k<=n->lj k)(aa:xM n)(W:xJ n):xY (n+1):=by
 intro H r T ax s a e s' h;refine cO (λ_=>RN 0) ?_;have ai:=a.rd.lt;simp only[gj]at h;have u:=aU.push H (.row U 11 [[I J 0,I J 0,Z [],Z [],I J 0,.aA,I J 0,I J 0,I J 0,I J 0,I J 0]]);simp-implicitDefEqProofs(disch:=try exact ak)only[j6,kK,reduceAdd,reduceLeDiff,reduceIte,az];refine aW (jt (a.rd.aR u) (a.bW.aR u)) ?_;rintro _ G ⟨rfl,x⟩;refine⟨x.1,?_⟩;have K:=x.get (af.bY H _);have al:=af.a6 K;simp-implicitDefEqProofs(disch:=try exact ak)only[kK,j6,reduceAdd,reduceLeDiff,reduceIte,az,Tok.v];have F:=x.bT (.row U 4 [[I J (aj T s.at_).kind,Z (aj T s.at_).text,I J (aj T s.at_).n,I J (aj T s.at_).pos]])
 have P:=af.bY G (.row U 4 [[I J (aj T s.at_).kind,Z (aj T s.at_).text,I J (aj T s.at_).n,I J (aj T s.at_).pos]]);have w:=u.trans F;refine aW (dP (a.rd.aR w) (a.bW.aR w) [45] (by simp)) ?_;rintro _ ab ⟨rfl,i⟩;refine⟨i.1,?_⟩;have c:=w.trans i;have B:=i.get P;have y:=(F.trans i).get (af.bY H _);cases m:aV T s [45]with
 |true=>
  simp only[m,aS]at h;have q:(aj T s.at_).text≠[]:=FC m (by simp);simp-implicitDefEqProofs(disch:=try exact ak)only[kK,j6,reduceAdd,reduceLeDiff,reduceIte,az];cases n with
  |zero=>simp[hZ]at h
  |succ n=>exact I8 (E n ae) a c y ae B q h
 |false=>
  simp only[m,aN]at h;simp-implicitDefEqProofs(disch:=try exact ak)only[kK,j6,reduceAdd,reduceLeDiff,reduceIte,az];refine aW (dP (a.rd.aR c) (a.bW.aR c) [33] (by simp)) ?_;rintro _ ad ⟨rfl,j⟩;refine⟨j.1,?_⟩;have d:=c.trans j;have Q:=j.get B;have p:=j.get y;cases o:aV T s [33]with
  |true=>
   simp only[o,aS]at h;have q:(aj T s.at_).text≠[]:=FC o (by simp);simp-implicitDefEqProofs(disch:=try exact ak)only[kK,j6,reduceAdd,reduceLeDiff,reduceIte,az];cases n with
   |zero=>simp[hZ]at h
   |succ n=>exact I8 (E n ae) a d p ae Q q h
  |false=>
   simp only[o,aN,dc]at h;obtain⟨⟨aq,s1⟩,g1,g2⟩:=h;simp-implicitDefEqProofs(disch:=try exact ak)only[kK,j6,reduceAdd,reduceLeDiff,reduceIte,az];refine aW (aa (a.aR d) aq s1 g1) ?_;rintro v ag ⟨m6,S,M⟩;refine⟨m6.1,?_⟩;have ap:=d.1;have ao:=m6.1;have L:=m6.get p ae;simp-implicitDefEqProofs(disch:=try exact ak)only[kK,j6,reduceAdd,reduceLeDiff,reduceIte,az];have am:=af.a6 p;refine aW (W (ok:=bx (H.next+1)) S (M.a1 (dA.aR (aU.refl _) λl N=>by unfold bx at*;omega) aq _) (by unfold bx;omega) (λl N=>by unfold bx;omega) e s' g2) ?_;rintro v ah ⟨m7,V,A⟩;refine⟨m7.1,?_⟩;have z:=m7.get L ae;have an:=af.a6 z
   obtain⟨cs,rfl,hlen,O⟩:=A.cells;have R:List.take 11 cs=cs:=List.take_of_length_le ae;simp-implicitDefEqProofs(disch:=try exact ak)only[kK,j6,reduceAdd,reduceLeDiff,reduceIte,az,z,hlen,O,List.append_nil,R];exact a_.2 (ew.ret a (((d.mut _).trans m6).trans m7) V.rd (bo _) A (Nat.lt_succ_self _) _)
def Di{N:Nat}{H0 H:af}{r:Nat}{T:List Tok}{ax:aa}{s0 s:al}(j:b6 H0 r T ax s0)(p:cv r H0 H)(i:bX H r ax s){b3:Nat}{cs a:List aa}{e:aE}(c:H.get H0.next=D (.row U 11 [a]))(y:a.length=11)(d:H.get b3=D (.row U 11 [cs]))(u:H0.next<b3)
  (he:cT H (λl=>H0.next<l/\l≠b3) e (.agg cs)):W (qM (aI P aB) N (.ptr H0.next 0 0) (.ptr b3 0 0) H) (ew H0 r T ax e s):=by
 have v:=j.rd.lt;have w:=af.a6 c;have x:=af.a6 d;obtain⟨q,k,hlen,n⟩:=he.cells;cases k;have o:List.take 11 cs=cs:=List.take_of_length_le ae;have m:List.drop 11 a=[]:=List.drop_of_length_le ae;simp-implicitDefEqProofs(disch:=try exact ak)only[qM,j5,uF,jL,jM,jN,jK,reduceAdd,reduceLeDiff,reduceIte,az,c,d,hlen,n,List.append_nil,o,m];have m':=p.db (.inr (bo _)) (.row U 11 [cs]);refine a_.2 ⟨m',j.mut m' ?_,he.a1 (dA.set _ ae λl h=>by unfold bx;omega) e _⟩;unfold bX at i ⊢;rw[af.get_set_other ae];exact i
def Dj{N B:Nat}(aH:∀k,k<B->lj k){H0:af}{r:Nat}{T:List Tok}{ax:aa}{s0:al}(o:b6 H0 r T ax s0){lev:Nat}(S:lev<5){b3:Nat}(F:H0.next<b3):
  ∀(n m:Nat),n<=B->n<m->∀(H:af) (s:al) (e:aE) (cs x:List aa),cv r H0 H->bX H r ax s->H.get H0.next=D (.row U 11 [x])->x.length=11->H.get b3=D (.row U 11 [cs])->
   cT H (λl=>H0.next<l/\l≠b3) e (.agg cs)->∀(p:aE) (s':al),fV T n lev e s=D (p,s')->
   W (qN (aI P aB) N m (.ptr r 0 0) (I J lev) (.ptr H0.next 0 0) (.ptr b3 0 0) H) (ew H0 r T ax p s')
 |0,m,ah,hm,H,s,e,cs,x,u,c,y,A,q,he,p,s',h=>by simp[fV]at h
 |n+1,0,ah,hm,H,s,e,cs,x,u,c,y,A,q,he,p,s',h=>ae
 |n+1,m+1,ah,hm,H,s,e,cs,x,u,c,y,A,q,he,p,s',h=>by
  have bm:=o.rd.lt;have aF:=o.mut u c;have bq:=af.a6 q;obtain⟨bk,aV,hlen,a5⟩:=he.cells;cases aV;have bd:List.take 11 cs=cs:=List.take_of_length_le ae;have aX:List.drop 11 cs=[]:=List.drop_of_length_le ae;have a4:=o.bW.one;simp only[fV]at h;simp only[qN];rw[uF];refine aW (mA c) ?_;rintro _ H1 ⟨rfl,rfl⟩;refine⟨bo _,?_⟩;cases ap:s.an==0 with
  |false=>
   simp only[ap,Bool.false_and,aN,aZ,cj]at h;obtain⟨rfl,rfl⟩:=h;simp-implicitDefEqProofs(disch:=try exact ak)only[j5,jL,jM,jN,jK,reduceAdd,reduceLeDiff,reduceIte,az];exact Di o u c y A q F he
  |true=>
   simp only[ap,Bool.true_and]at h;simp-implicitDefEqProofs(disch:=try exact ak)only[j5,jL,jM,jN,jK,reduceAdd,reduceLeDiff,reduceIte,az];refine hl (jt c aF.bW) ?_;rintro _ H1 ⟨rfl,aK⟩;refine⟨aK.1,?_⟩;simp-implicitDefEqProofs(disch:=try exact ak)only[j5,jL,jM,jN,jK,reduceAdd,reduceLeDiff,reduceIte,az];refine hl (F_ lev S (aj T s.at_)) ?_;rintro _ bj ⟨rfl,aL⟩;refine⟨aL.1,?_⟩;have d:=aK.trans aL;cases z:eM lev (aj T s.at_) != 0 with
   |false=>
    simp only[z,aN,aZ,cj]at h;obtain⟨rfl,rfl⟩:=h;simp-implicitDefEqProofs(disch:=try exact ak)only[j5,jL,jM,jN,jK,reduceAdd,reduceLeDiff,reduceIte,az,z];exact Di o (u.trans (d.mut _)) (c.aR d) (d.get y) A (d.get q) F (he.a1 (dA.aR d λ_ h=>h) e _)
   |true=>
    simp only[z,aS,dc]at h;obtain⟨⟨aq,s1⟩,aO,aP⟩:=h;simp-implicitDefEqProofs(disch:=try exact ak)only[j5,jL,jM,jN,jK,reduceAdd,reduceLeDiff,reduceIte,az,z];refine aW (jt (c.aR d) (aF.bW.aR d)) ?_;rintro _ aM ⟨rfl,ab⟩;refine⟨ab.1,?_⟩;have w:=(d.trans ab).bT (.row U 4 [[I J (aj T s.at_).kind,Z (aj T s.at_).text,I J (aj T s.at_).n,I J (aj T s.at_).pos]]);have a7:=af.bY aM (.row U 4 [[I J (aj T s.at_).kind,Z (aj T s.at_).text,I J (aj T s.at_).n,I J (aj T s.at_).pos]]);have O:=c.aR (d.trans ab);have bc:=c.aR w;have aD:=O;unfold bX at aD;have bw:=O.lt
    obtain⟨m6,aY⟩:=fR bc (aw s);have hw:IntKind.i64.wrap ((lev:Int)+1)=((lev+1:Nat):Int):=by rw[wrap_i64 ae ae];simp
    simp-implicitDefEqProofs(disch:=try exact ak)only[j5,jL,jM,jN,jK,reduceAdd,reduceLeDiff,reduceIte,az,Tok.v,aD,a4,hw];have aJ:=(u.trans (w.mut _)).trans m6;have bf:=o.mut aJ aY;refine aW (aH n ae bf (lev+1) ae aq s1 aO) ?_;rintro v Q ⟨m7,bg,G⟩;refine⟨m7.1,?_⟩;have aQ:=m6.get (w.get q) ae;have R:=m7.get aQ ae;have br:=af.a6 R;have a8:=m6.get a7 (by have:=af.a6 O;omega);have M:=m7.get a8 (by have:=af.a6 O;omega);have bu:=af.a6 M;have a3:=m7.1;have a2:=w.1;simp only[af.dK,af.ch]at a3 a2 G;obtain⟨a,rfl,av,ay⟩:=G.cells;have be:List.take 11 a=a:=List.take_of_length_le ae;simp-implicitDefEqProofs(disch:=try exact ak)only[j5,jL,jM,jN,jK,reduceAdd,reduceLeDiff,reduceIte,az,av,ay,List.append_nil,M]
    have ad:=aU.push Q (.row U 11 [a]);refine aW (F_ (H:=Q.push (.row U 11 [a])) lev S (aj T s.at_)) ?_;rintro _ i ⟨rfl,ag⟩;refine⟨ag.1,?_⟩;have j:=ad.trans ag;have ao:=ag.get (af.bY Q (.row U 11 [a]));have am:=j.get R;have aC:=j.get M;have bA:=af.a6 ao;have bs:=af.a6 am;have bv:=af.a6 aC;have ar:∀l,cl P l 41 2 [(0,.agg cs),(1,.agg a)]=D (.aG l 0 2 11 (D 2),.row U 11 [cs,a]):=λl=>AI l cs a hlen a5 av ay
    have a_:=he.same;have ba:=G.same;have bb:bp (D (.agg [I J (aj T s.at_).kind,Z (aj T s.at_).text,I J (aj T s.at_).n,I J (aj T s.at_).pos])) (.agg [I J (aj T s.at_).kind,Z (aj T s.at_).text,I J (aj T s.at_).n,I J (aj T s.at_).pos])=true:=by simp[bp,aa.beq,hg.beq]
    have aT:=ad.get R;have a9:=ad.get M;simp-implicitDefEqProofs(disch:=try exact ak)only[jL,jM,jN,jK,reduceAdd,reduceLeDiff,reduceIte,az,am,ao,aC,bd,be,aX,ar,a_,ba,bb,aT,a9,Bool.and_true,Bool.and_self];rw[j5];have bi:=((aJ.trans m7).trans (j.mut _));have bh:cv r H0 ((i.push (.row U 11 [cs,a])).set b3 (.row U 11 [[I J (eM lev (aj T s.at_)),I J 0,Z [],Z [],I J 0,.aG i.next 0 2 11 (D 2),I J (aj T s.at_).pos,I J 0,I J 0,I J 0,I J 0]])):=(bi.bT _).db (.inr (Nat.le_of_lt F)) _;have E:∀k,k<i.next->k≠b3->((i.push (.row U 11 [cs,a])).set b3 (.row U 11 [[I J (eM lev (aj T s.at_)),I J 0,Z [],Z [],I J 0,.aG i.next 0 2 11 (D 2),I J (aj T s.at_).pos,I J 0,I J 0,I J 0,I J 0]])).get k=i.get k:=λk z bl=>by
     rw[af.get_set_other ae,af.dS ae]
    have ai:=j.get (m7.get (m6.get (w.get y) ae) ae);have bn:=af.a6 ai;have V:=bg.rd.aR j;have bt:=V.lt;have bz:=j.1;refine Dj aH o S F n m ae ae _ s1 _ (bU.cells {kind:=eM lev (aj T s.at_),pos:=(aj T s.at_).pos} (.aG i.next 0 2 11 (D 2))) x bh ?_ ?_ A (af.get_set_same (by simp only[af.ch];omega)) ?_ p s' aP
    ·unfold bX at V ⊢;rw[E r ae ae];exact V
    ·rw[E _ ae ae];exact ai
    ·rw[iO];have a0:cT i (λl=>H0.next<l/\l≠b3) e (.agg cs):=he.mut (((w.mut _).trans m6).trans m7|>.trans (j.mut _)) ae λ_ h=>h
     refine⟨_,rfl,cz.A7 (ro:=false) ?_ ⟨ae,ae⟩ (a0.a1 (λl ro els L K=>⟨L,by rw[E l (af.a6 K) L.2];exact K⟩) e _) (G.a1 (λl ro els L K=> ?_) aq _)⟩
     ·rw[af.get_set_other ae];exact af.bY _ _
     ·unfold bx at L;have au:=j.get K;exact⟨⟨ae,ae⟩,by rw[E l (af.a6 au) ae];exact au⟩
def Nl{n:Nat}(y:∀k,k<=n->lj k)(G:xY n):lj (n+1):=by
 intro H r T ax s c lev hle e s' h;refine cO (λ_=>Rq (n+2)) ?_;have L:=c.rd.lt;have i:=aU.push H (.row U 11 [[I J 0,I J 0,Z [],Z [],I J 0,.aA,I J 0,I J 0,I J 0,I J 0,I J 0]]);simp only[dF]at h;by_cases u:lev=5
 ·rw[if_pos u]at h;have o:((lev:Int)==5)=true:=by simp;omega
  simp-implicitDefEqProofs(disch:=try exact ak)only[j5,jL,jM,jN,jK,reduceAdd,reduceLeDiff,reduceIte,az,o];refine aW (G (c.aR i) e s' h) ?_;rintro v m ⟨m2,q,a⟩;refine⟨m2.1,?_⟩;have d:=m2.get (af.bY H (.row U 11 [[I J 0,I J 0,Z [],Z [],I J 0,.aA,I J 0,I J 0,I J 0,I J 0,I J 0]])) ae;have M:=af.a6 d;obtain⟨cs,rfl,hlen,p⟩:=a.cells;have F:List.take 11 cs=cs:=List.take_of_length_le ae;simp-implicitDefEqProofs(disch:=try exact ak)only[j5,jL,jM,jN,jK,reduceAdd,reduceLeDiff,reduceIte,az,d,hlen,p,List.append_nil,F];exact a_.2 (ew.ret c ((i.mut _).trans m2) q.rd (bo _) a (Nat.lt_succ_self _) _)
 ·rw[if_neg u,dc]at h;obtain⟨⟨aq,s1⟩,z,A⟩:=h;have o:((lev:Int)==5)=false:=by simp;omega
  have hw:IntKind.i64.wrap ((lev:Int)+1)=((lev+1:Nat):Int):=by rw[wrap_i64 ae ae];simp
  simp-implicitDefEqProofs(disch:=try exact ak)only[j5,jL,jM,jN,jK,reduceAdd,reduceLeDiff,reduceIte,az,o,hw];refine aW (y n (bo _) (c.aR i) (lev+1) ae aq s1 z) ?_;rintro v m ⟨m2,q,a⟩;refine⟨m2.1,?_⟩;have d:=m2.get (af.bY H (.row U 11 [[I J 0,I J 0,Z [],Z [],I J 0,.aA,I J 0,I J 0,I J 0,I J 0,I J 0]])) ae;have E:=m2.1;simp only[af.ch]at E;obtain⟨cs,rfl,hlen,p⟩:=a.cells;simp-implicitDefEqProofs(disch:=try exact ak)only[jN,jM,jL,reduceAdd,reduceLeDiff,reduceIte,az,hlen,p,List.append_nil];have j:=aU.push m (.row U 11 [cs]);refine Dj (N:=n+2) (B:=n) (λk K=>y k ae) c ae (b3:=m.next) ae n (n+2) ae ae _ s1 aq cs _ (((i.mut _).trans m2).trans (j.mut _)) (q.rd.aR j) (j.get d) rfl (af.bY _ _) ?_ e s' A
  exact a.a1 (λl ro els x w=>by
   have:=af.a6 w;unfold bx at x;simp only[af.ch]at x;exact⟨⟨ae,ae⟩,j.get w⟩) aq _
