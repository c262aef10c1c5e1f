/-
  Texts of one proof, laid together: Y1 Y2 Y3 Y4 Y5 Y6 Y7.
-/
import Derived.Test.YtghmbpmaafnodaaDoorMJ
set_option linter.unusedVariables false
set_option linter.unusedSimpArgs false
set_option linter.defProp false
open Option renaming some→D,none→C
open Bool renaming true→X,false→U
open Go.bs.aa renaming int→I,str→Z,bool→Y
open Go.IntKind renaming i64→J
namespace Go.Proofs.YtghmbpmaafnodaaDoor
open Go.bs
open Nat (reduceAdd reduceLeDiff)
def bH(H:ad)(r:Nat)(ao:aa)(s:au):Prop:=H.get r=D (.row U 5 [[ao,I J s.at_,I J s.bU,I J s.aG,I J s.cP]])
structure bQ(H:ad)(r:Nat)(T:List Tok)(ao:aa)(s:au):Prop where
 rd:bH H r ao s
 bJ:eS H ao T
def bH.aM{H H':ad}{r:Nat}{ao:aa}{s:au}(a:bH H r ao s)(p:aO H H'):bH H' r ao s:=p.get a
def bH.lt{H:ad}{r:Nat}{ao:aa}{s:au}(a:bH H r ao s):r<H.next:=ad.aS a
def bQ.mut{H H':ad}{r:Nat}{T:List Tok}{ao:aa}{s s':au}(h:bQ H r T ao s)(m:cb r H H')(a:bH H' r ao s'):bQ H' r T ao s':=
 ⟨a,h.bJ.a1 λl ro els e=>m.get e (by
  rintro rfl;rw[h.rd]at e;simp only[aV,bW.row.injEq]at e;omega)⟩
def bQ.aM{H H':ad}{r:Nat}{T:List Tok}{ao:aa}{s:au}(h:bQ H r T ao s)(p:aO H H'):bQ H' r T ao s:=h.mut (p.mut _) (h.rd.aM p)
def e7{H:ad}{r:Nat}{ao:aa}{s:au}(a:bH H r ao s)(s':au):cb r H (H.set r (.row U 5 [[ao,I J s'.at_,I J s'.bU,I J s'.aG,I J s'.cP]]))/\bH (H.set r (.row U 5 [[ao,I J s'.at_,I J s'.bU,I J s'.aG,I J s'.cP]])) r ao s':=
 ⟨c0.cE (S:=(· =r)) (c0.refl _ _) (.inl rfl) _,ad.get_set_same a.lt⟩
def hY{H:ad}{r:Nat}{ao:aa}{s:au}{T:List Tok}(d:bH H r ao s)(n:eS H ao T):W (aD P ay 22 [.ptr r 0 0] H) λv H'=>v=(al T s.at_).v/\aO H H':=by
 unfold bH at d;have o:=ad.aS d;refine cF (λ_=>Ma 0) ?_;by_cases a:s.at_<0
 ·simp-implicitDefEqProofs(disch:=try exact aj)only[oo,bh,bx,Nat.reduceAdd,Nat.reduceLeDiff,reduceIte,aa.cells,cW,dL,ak,cO,aU,cO,da,dE,po,pr,d,a,decide_true,ba];exact⟨by simp[al,a,Tok.v,Tok.none],aO.push _ _⟩
 ·rcases n with⟨rfl,rfl⟩|⟨l,i,cap,rfl,k⟩
  ·have c:(0:Int)<=s.at_:=af;simp-implicitDefEqProofs(disch:=try exact aj)only[oo,bh,bx,Nat.reduceAdd,Nat.reduceLeDiff,reduceIte,aa.cells,cW,dL,ak,cO,aU,cO,da,dE,po,pr,d,a,c,decide_true,decide_false,ba,th];exact⟨by simp[al,a,Tok.v,Tok.none,c],aO.push _ _⟩
  ·by_cases c:(T.length:Int)<=s.at_
   ·simp-implicitDefEqProofs(disch:=try exact aj)only[oo,bh,bx,Nat.reduceAdd,Nat.reduceLeDiff,reduceIte,aa.cells,cW,dL,ak,cO,aU,cO,da,dE,po,pr,d,a,c,decide_true,decide_false,ba,rA];exact⟨by simp[al,a,Tok.v,Tok.none,c],aO.push _ _⟩
   ·have e:s.at_.toNat<T.length:=af;obtain⟨ro,els,h,m⟩:=k.resolve_left (by rintro rfl;simp at e);have p:=ad.aS h;have j:=m s.at_.toNat T[s.at_.toNat] (by simp[e]);simp only[Tok.cells]at j;simp-implicitDefEqProofs(disch:=try exact aj)only[oo,bh,bx,Nat.reduceAdd,Nat.reduceLeDiff,reduceIte,aa.cells,cW,dL,ak,cO,aU,cO,da,dE,po,pr,d,a,c,decide_true,decide_false,ba,rA,wb,h,j];refine⟨?_,aO.push _ _⟩;simp[al,a,c,Tok.v,e]
def kf{H:ad}{r:Nat}{ao:aa}{s:au}(a:bH H r ao s):W (aD P ay 21 [.ptr r 0 0] H) λv H'=>v= Y (s.aG==0)/\H'=H:=by
 unfold bH at a;refine cF (λ_=>L_ 0) ?_;simp-implicitDefEqProofs(disch:=try exact aj)only[tR,reduceAdd,reduceLeDiff,reduceIte,aw,a];exact ba.2 ⟨rfl,rfl⟩
def ke{H:ad}{r:Nat}{T:List Tok}{ao:aa}{s:au}(a:bQ H r T ao s)(e:Int):W (aD P ay 24 [.ptr r 0 0,I J e] H) λv H'=>v= .tuple []/\cb r H H'/\bQ H' r T ao (cQ T e s):=by
 refine cF (λ_=>Mc 0) ?_;have h:=a.rd;have o:=a.bJ.one;rw[ou];refine aP (kf h) ?_;rintro _ H1 ⟨rfl,rfl⟩;refine⟨bj _,?_⟩;by_cases c:s.aG=0
 ·rw[show cQ T e s={s with aG:=e,cP:=(al T s.at_).pos} by simp[cQ,c]];simp-implicitDefEqProofs(disch:=try exact aj)only[ou,bh,bx,c,beq_self_eq_true];refine aP (hY h a.bJ) ?_;rintro _ k ⟨rfl,d⟩;refine⟨d.1,?_⟩;have i:bH k r ao s:=h.aM d;have j:=i;unfold bH at j;simp-implicitDefEqProofs(disch:=try exact aj)only[ou,reduceAdd,reduceLeDiff,reduceIte,aw,Tok.v,j,o];obtain⟨m,n⟩:=e7 i {s with aG:=e,cP:=(al T s.at_).pos};exact ba.2 ⟨rfl,(d.mut _).trans m,a.mut ((d.mut _).trans m) n⟩
 ·have l:(s.aG==0)=false:=by simpa using c
  rw[show cQ T e s=s by simp[cQ,c]];simp-implicitDefEqProofs(disch:=try exact aj)only[ou,bh,bx,l];exact ba.2 ⟨rfl,c0.refl _ _,a⟩
def wj(s:aC)(c:UInt8):eU P 9 (Z (c::s)) (I J 0)=D (I .u8 c.toNat):=ah
def xp{H0 H:ad}{r:Nat}{T:List Tok}{ao:aa}{s:au}(p:aO H0 H)(i:bH H r ao s){b:Nat}(d:H.get b=D (.row U 4 [[I J (al T s.at_).kind,Z (al T s.at_).text,I J (al T s.at_).n,I J (al T s.at_).pos]]))(x:aC)(k:Int):
  W (oq (aD P ay) (.ptr r 0 0) (Z x) (.ptr b 0 0) (I J k) H) λv H'=>v= Y (ck T s k x)/\aO H0 H':=by
 rw[oq];refine aP (kf i) ?_;rintro _ H1 ⟨rfl,rfl⟩;refine⟨bj _,?_⟩;by_cases a:s.aG=0
 ·by_cases c:(al T s.at_).kind=k
  ·simp-implicitDefEqProofs(disch:=try exact aj)only[kY,reduceAdd,reduceLeDiff,reduceIte,aw,a,c,d,beq_self_eq_true];exact ba.2 ⟨by simp[ck,a,c],p⟩
  ·have h:((al T s.at_).kind==k)=false:=by simpa using c
   simp-implicitDefEqProofs(disch:=try exact aj)only[kY,reduceAdd,reduceLeDiff,reduceIte,aw,a,h,d,beq_self_eq_true];exact ba.2 ⟨by simp[ck,a,c],p⟩
 ·have e:(s.aG==0)=false:=by simpa using a
  simp-implicitDefEqProofs(disch:=try exact aj)only[kY,reduceAdd,reduceLeDiff,reduceIte,aw,e,d];exact ba.2 ⟨by simp[ck,a],p⟩
def du{H:ad}{r:Nat}{T:List Tok}{ao:aa}{s:au}(e:bH H r ao s)(m:eS H ao T)(x:aC)(o:x≠[]):W (aD P ay 23 [.ptr r 0 0,Z x] H) λv H'=>v= Y (aY T s x)/\aO H H':=by
 refine cF (λ_=>Mb 0) ?_;obtain⟨c,x,rfl⟩:∃c y,x=c::y:=by cases x with
  |nil=>exact absurd rfl o
  |cons c y=>exact⟨c,y,rfl⟩
 rw[kY];refine aP (hY e m) ?_;rintro _ H1 ⟨rfl,l⟩;refine⟨l.1,?_⟩;have a:=l.bE (.row U 4 [[I J (al T s.at_).kind,Z (al T s.at_).text,I J (al T s.at_).n,I J (al T s.at_).pos]]);have j:=ad.bI H1 (.row U 4 [[I J (al T s.at_).kind,Z (al T s.at_).text,I J (al T s.at_).n,I J (al T s.at_).pos]]);by_cases h:97<=c.toNat
 ·have d:(97:Int)<=(c.toNat:Int):=af;by_cases k:c.toNat<=122
  ·have i:(c.toNat:Int)<=122:=af;rw[show aY T s (c::x)=ck T s 3 (c::x) by simp[aY,kw,h,k]];simp-implicitDefEqProofs(disch:=try exact aj)only[kY,reduceAdd,reduceLeDiff,reduceIte,aw,Tok.v,wj,d,i,decide_true];exact xp a (e.aM a) j _ 3
  ·have i:¬(c.toNat:Int)<=122:=af;rw[show aY T s (c::x)=ck T s 4 (c::x) by simp[aY,kw,h,k]];simp-implicitDefEqProofs(disch:=try exact aj)only[kY,reduceAdd,reduceLeDiff,reduceIte,aw,Tok.v,wj,d,i,decide_true,decide_false];exact xp a (e.aM a) j _ 4
 ·have d:¬(97:Int)<=(c.toNat:Int):=af;rw[show aY T s (c::x)=ck T s 4 (c::x) by simp[aY,kw,h]];simp-implicitDefEqProofs(disch:=try exact aj)only[kY,reduceAdd,reduceLeDiff,reduceIte,aw,Tok.v,wj,d,decide_false];exact xp a (e.aM a) j _ 4
def gO{H:ad}{r:Nat}{T:List Tok}{ao:aa}{s:au}(a:bQ H r T ao s)(x:aC)(j:x≠[]):W (aD P ay 27 [.ptr r 0 0,Z x] H) λv H'=>v= .tuple []/\cb r H H'/\bQ H' r T ao (bo T x s):=by
 refine cF (λ_=>Mf 0) ?_;have k:=a.bJ.one;rw[ov];refine aP (du a.rd a.bJ x j) ?_;rintro _ H1 ⟨rfl,c⟩;refine⟨c.1,?_⟩;have e:=a.rd.aM c;have h:=e;unfold bH at h;cases d:aY T s x with
 |false=>
  rw[show bo T x s=cQ T 2 s by simp[bo,d]];simp-implicitDefEqProofs(disch:=try exact aj)only[ov,reduceAdd,reduceLeDiff,reduceIte,aw,Bool.not_false];refine aP (ke (a.aM c) 2) ?_;rintro _ n ⟨rfl,m2,l⟩;refine⟨m2.1,?_⟩
  try simp only[ov]
  exact ba.2 ⟨rfl,(c.mut _).trans m2,l⟩
 |true=>
  rw[show bo T x s=aF s by simp[bo,d]];simp-implicitDefEqProofs(disch:=try exact aj)only[ov,reduceAdd,reduceLeDiff,reduceIte,aw,h,k,Bool.not_true];obtain⟨m,i⟩:=e7 e (aF s);exact ba.2 ⟨rfl,(c.mut _).trans m,a.mut ((c.mut _).trans m) i⟩
def pY{H:ad}{r:Nat}{T:List Tok}{ao:aa}{s:au}(a:bQ H r T ao s)(x:aC)(k:x≠[]):W (aD P ay 77 [.ptr r 0 0,Z x] H) λv H'=>v= .tuple []/\cb r H H'/\bQ H' r T ao (cJ T x s):=by
 refine cF (λ_=>ML 0) ?_;have q:=a.bJ.one;rw[l2];refine aP (du a.rd a.bJ x k) ?_;rintro _ H1 ⟨rfl,c⟩;refine⟨c.1,?_⟩;have i:=a.aM c;have h:=i.rd;unfold bH at h;have more:cJ T x s=eN (bo T x s)->W (aJ H1 (aD P ay 27 [.ptr r 0 0,Z x] H1) (uu (.ptr r 0 0))) λv H'=>v= .tuple []/\cb r H H'/\bQ H' r T ao (cJ T x s):=by
  intro he;rw[he];refine aP (gO i x k) ?_;rintro _ o ⟨rfl,m2,j⟩;refine⟨m2.1,?_⟩;have l:=j.rd;have n:=l;unfold bH at n;simp-implicitDefEqProofs(disch:=try exact aj)only[uu,l2,reduceAdd,reduceLeDiff,reduceIte,aw,n,q];obtain⟨m,p⟩:=e7 l (eN (bo T x s));exact ba.2 ⟨rfl,((c.mut _).trans m2).trans m,a.mut (((c.mut _).trans m2).trans m) p⟩
 cases e:aY T s x with
 |false=>
  simp-implicitDefEqProofs(disch:=try exact aj)only[l2,reduceAdd,reduceLeDiff,reduceIte,aw];exact more (by simp[cJ,e])
 |true=>
  by_cases d:50<=s.bU
  ·rw[show cJ T x s=cQ T 4 s by simp[cJ,e,d]];simp-implicitDefEqProofs(disch:=try exact aj)only[l2,reduceAdd,reduceLeDiff,reduceIte,aw,h,d,decide_true];refine aP (ke i 4) ?_;rintro _ o ⟨rfl,m2,j⟩;refine⟨m2.1,?_⟩
   try simp only[l2]
   exact ba.2 ⟨rfl,(c.mut _).trans m2,j⟩
  ·simp-implicitDefEqProofs(disch:=try exact aj)only[l2,reduceAdd,reduceLeDiff,reduceIte,aw,h,d,decide_false];exact more (by simp[cJ,e,d])
def pV{H:ad}{r:Nat}{T:List Tok}{ao:aa}{s:au}(a:bQ H r T ao s)(x:aC)(h:x≠[]):W (aD P ay 79 [.ptr r 0 0,Z x] H) λv H'=>v= .tuple []/\cb r H H'/\bQ H' r T ao (dc T x s):=by
 refine cF (λ_=>MO 0) ?_;have i:=a.bJ.one;rw[r6];refine aP (gO a x h) ?_;rintro _ k ⟨rfl,m2,j⟩;refine⟨m2.1,?_⟩;have c:=j.rd;have d:=c;unfold bH at d;simp-implicitDefEqProofs(disch:=try exact aj)only[r6,reduceAdd,reduceLeDiff,reduceIte,aw,d,i];obtain⟨m,e⟩:=e7 c (eh (bo T x s));exact ba.2 ⟨rfl,m2.trans m,a.mut (m2.trans m) e⟩
def mM{H:ad}{r:Nat}{T:List Tok}{ao:aa}{s:au}(a:bQ H r T ao s):W (aD P ay 55 [.ptr r 0 0] H) λv H'=>v= Z (bA T s).1/\cb r H H'/\bQ H' r T ao (bA T s).2:=by
 refine cF (λ_=>Mx 0) ?_;have q:=a.bJ.one;have z:=a.rd.lt;rw[lW];refine aP (hY a.rd a.bJ) ?_;rintro _ H1 ⟨rfl,h⟩;refine⟨h.1,?_⟩;have i:=h.bE (.row U 4 [[I J (al T s.at_).kind,Z (al T s.at_).text,I J (al T s.at_).n,I J (al T s.at_).pos]]);have y:=ad.bI H1 (.row U 4 [[I J (al T s.at_).kind,Z (al T s.at_).text,I J (al T s.at_).n,I J (al T s.at_).pos]]);simp-implicitDefEqProofs(disch:=try exact aj)only[qg,lW,reduceAdd,reduceLeDiff,reduceIte,aw,Tok.v];have k:=a.aM i;refine aP (kf k.rd) ?_;rintro _ w ⟨rfl,rfl⟩;refine⟨bj _,?_⟩;have A:=h.1;have o:=a.rd.aM h
 unfold bH at o;have l:bA T s=([],cQ T 2 s)->W (aJ (H1.push (.row U 4 [[I J (al T s.at_).kind,Z (al T s.at_).text,I J (al T s.at_).n,I J (al T s.at_).pos]])) (aD P ay 24 [.ptr r 0 0,I J 2] (H1.push (.row U 4 [[I J (al T s.at_).kind,Z (al T s.at_).text,I J (al T s.at_).n,I J (al T s.at_).pos]]))) qg) λv H'=>v= Z (bA T s).1/\cb r H H'/\bQ H' r T ao (bA T s).2:=by
  intro he;rw[he];refine aP (ke k 2) ?_;rintro _ x ⟨rfl,m4,u⟩;refine⟨m4.1,?_⟩
  try simp only[qg,lW]
  exact ba.2 ⟨rfl,(i.mut _).trans m4,u⟩
 by_cases c:s.aG=0
 ·by_cases j:(al T s.at_).kind=1
  ·have d:(s.aG==0)=true:=by simpa using c
   have e:((al T s.at_).kind==1)=true:=by simpa using j
   rw[show bA T s=((al T s.at_).text,aF s) by simp[bA,c,j]];simp-implicitDefEqProofs(disch:=try exact aj)only[qg,lW,reduceAdd,reduceLeDiff,reduceIte,aw,d,e,o,q];obtain⟨m,p⟩:=e7 k.rd (aF s);exact ba.2 ⟨rfl,(i.mut _).trans m,a.mut ((i.mut _).trans m) p⟩
  ·have e:((al T s.at_).kind==1)=false:=by simpa using j
   simp-implicitDefEqProofs(disch:=try exact aj)only[lW,reduceAdd,reduceLeDiff,reduceIte,aw,c,e,beq_self_eq_true];exact l (by simp[bA,e])
 ·have d:(s.aG==0)=false:=by simpa using c
  simp-implicitDefEqProofs(disch:=try exact aj)only[lW,reduceAdd,reduceLeDiff,reduceIte,aw,d];exact l (by simp[bA,d])
def O2(l:Nat)(a c dV fk d:Nat):b5 P l 131 5 [(0,.aB a 0 1 1 (D 1)),(1,.aB c 0 1 1 (D 1)),(2,.aB dV 0 4 1 (D 4)),(3,.aB fk 0 2 1 (D 2)),(4,.aB d 0 3 1 (D 3))]=
 D (.aB l 0 5 1 (D 5),.row U 1 [[.aB a 0 1 1 (D 1)],[.aB c 0 1 1 (D 1)],[.aB dV 0 4 1 (D 4)],[.aB fk 0 2 1 (D 2)],[.aB d 0 3 1 (D 3)]]):=ah
def O3(l:Nat)(a c dV fk d:Nat):b5 P l 132 5 [(0,.aB a 0 1 1 (D 1)),(1,.aB c 0 1 1 (D 1)),(2,.aB dV 0 4 1 (D 4)),(3,.aB fk 0 2 1 (D 2)),(4,.aB d 0 3 1 (D 3))]=
 D (.aB l 0 5 1 (D 5),.row U 1 [[.aB a 0 1 1 (D 1)],[.aB c 0 1 1 (D 1)],[.aB dV 0 4 1 (D 4)],[.aB fk 0 2 1 (D 2)],[.aB d 0 3 1 (D 3)]]):=ah
def KG{H0 H:ad}(A:aO H0 H){b S K d c:Nat}{t:Tok}(u:H.get b=D (.row U 4 [[I J t.kind,Z t.text,I J t.n,I J t.pos]])){B z:List (List aa)}(i:H.get S=D (.row U 1 B))(E:H.get K=D (.row U 1 z)){lev:Nat}(O:lev<5)(all:List (aC×Int))(M:all.length<=1000){cs j:Option Nat}
  (ax:B[lev]? =D [.aB d 0 all.length 1 cs]) (G:z[lev]? =D [.aB c 0 all.length 1 j]) (s:H.get d=D (.row U 1 (all.map λp=>[aa.str p.1]))) (F:H.get c=D (.row U 1 (all.map λp=>[aa.int J p.2]))) (N:Nat):
  ∀(rest pre:List (aC×Int)),all=pre++rest->∀(n:Nat),rest.length<n->
   W (k8 (aD P ay) N n (I J lev) (.ptr b 0 0) (.aB S 0 5 1 (D 5)) (.aB K 0 5 1 (D 5)) (I J pre.length) H) λv H'=>v= I J (kL t.text rest)/\aO H0 H':=by
 have m:(0:Int)<=(lev:Int):=af;have o:(lev:Int)<((5:Nat):Int):=af;have y:((lev:Int)).toNat=lev:=af;have i1:cM P 131 (.aB S 0 5 1 (D 5)) (I J (lev:Int))=D (.ptr S lev 0):=by rw[v_ m o,y,Nat.zero_add]
 have i2:cM P 132 (.aB K 0 5 1 (D 5)) (I J (lev:Int))=D (.ptr K lev 0):=by rw[wa m o,y,Nat.zero_add]
 intro rest
 induction rest with
 |nil=>
  intro pre aI n e;obtain⟨n,rfl⟩:∃k,n=k+1:=⟨n-1,by simp at e;omega⟩;have a:¬((pre.length:Int)<(all.length:Int)):=by rw[aI];simp
  simp-implicitDefEqProofs(disch:=try exact aj)only[k8,k7,oL,ng,reduceAdd,reduceLeDiff,reduceIte,aw,si,sj,i1,i,ax,a,decide_false];exact ba.2 ⟨rfl,A⟩
 |cons q rest L=>
  intro pre aI n e;obtain⟨x,k⟩:=q;obtain⟨n,rfl⟩:∃k,n=k+1:=⟨n-1,by simp at e;omega⟩;have a:(pre.length:Int)<(all.length:Int):=by rw[aI];simp;omega
  have w:(0:Int)<=(pre.length:Int):=af;have an:((pre.length:Int)).toNat=pre.length:=af;have l:all[pre.length]? =D (x,k):=by rw[aI];simp
  have i3:cM P 50 (.aB d 0 all.length 1 cs) (I J (pre.length:Int))=D (.ptr d pre.length 0):=by rw[wc w a,an,Nat.zero_add]
  have i4:cM P 51 (.aB c 0 all.length 1 j) (I J (pre.length:Int))=D (.ptr c pre.length 0):=by rw[we w a,an,Nat.zero_add]
  have g1:(all.map λp=>[aa.str p.1])[pre.length]? =D [Z x]:=by rw[List.getElem?_map,l];rfl
  have g2:(all.map λp=>[aa.int J p.2])[pre.length]? =D [I J k]:=by rw[List.getElem?_map,l];rfl
  cases h:x==t.text with
  |true=>
   simp-implicitDefEqProofs(disch:=try exact aj)only[k8,k7,oL,ng,reduceAdd,reduceLeDiff,reduceIte,aw,si,sj,i1,i2,i3,i4,i,E,ax,G,s,F,g1,g2,u,a,decide_true,h];exact ba.2 ⟨by simp[kL,h],A⟩
  |false=>
   have hw:IntKind.i64.wrap ((pre.length:Int)+1)=((pre++[(x,k)]).length:Int):=by
    have Q:pre.length<all.length:=af;rw[wrap_i64 af af];simp
   simp-implicitDefEqProofs(disch:=try exact aj)only[k8,k7,oL,ng,reduceAdd,reduceLeDiff,reduceIte,aw,si,sj,i1,i3,i,ax,s,g1,u,a,decide_true,h,hw];refine(L (pre++[(x,k)]) (by simp[aI]) n (by simp at e;omega)).mono ?_;rintro v H' ⟨rfl,q⟩;exact⟨by simp[kL,h],q⟩
set_option maxHeartbeats 1000000 in
def CX{H:ad}(lev:Nat)(s:lev<5)(t:Tok):W (aD P ay 70 [I J lev,t.v] H) λv H'=>v= I J (dW lev t)/\aO H H':=by
 refine cF (λ_=>MK 10) ?_;have o:∀l,dO l t.v=D (.ptr l 0 0,.row U 4 [[I J t.kind,Z t.text,I J t.n,I J t.pos]]):=λl=>hk l _ rfl
 cases d:t.kind != 4 with
 |true=>
  simp-implicitDefEqProofs(disch:=try exact aj)only[k7,oL,ng,reduceAdd,reduceLeDiff,reduceIte,aw,o,d];exact ba.2 ⟨by simp[dW,d],aO.push _ _⟩
 |false=>
  simp-implicitDefEqProofs(disch:=try exact aj)only[k7,ng,reduceAdd,reduceLeDiff,reduceIte,aw,o,d,O2,O3];obtain⟨all,c⟩:∃all,j9[lev]? =D all:=⟨j9[lev]'(by simpa [j9]using s),by simp[j9]⟩;have B:all.length<10:=by
   have:∀a∈j9,a.length<10:=bf;exact this all (List.mem_of_getElem? c)
  have key:∀(bR:ad),aO H bR->bR.get H.next=D (.row U 4 [[I J t.kind,Z t.text,I J t.n,I J t.pos]])->∀(S K h e:Nat) (k j:List (List aa)) (cs m:Option Nat),bR.get S=D (.row U 1 k)->bR.get K=D (.row U 1 j)->k[lev]? =D [.aB h 0 all.length 1 cs]->j[lev]? =D [.aB e 0 all.length 1 m]->
    bR.get h=D (.row U 1 (all.map λp=>[aa.str p.1]))->bR.get e=D (.row U 1 (all.map λp=>[aa.int J p.2]))->
    W (k8 (aD P ay) 10 10 (I J lev) (.ptr H.next 0 0) (.aB S 0 5 1 (D 5)) (.aB K 0 5 1 (D 5)) (I J 0) bR) λv H'=>v= I J (dW lev t)/\aO H H':=by
   intro bR p A S K h e k j cs m u w x y i z;refine(KG p A u w s all af x y i z 10 all [] rfl 10 B).mono ?_;rintro v H' ⟨rfl,q⟩;exact⟨by simp[dW,d,c],q⟩
  have i:lev=0\/lev=1\/lev=2\/lev=3\/lev=4:=af;rcases i with rfl|rfl|rfl|rfl|rfl<;>(simp only[j9,List.getElem?_cons_zero,List.getElem?_cons_succ,aV]at c;subst c)
  ·refine key _ ?_ ?_ (H.next+1+1+1+1+1+1) (H.next+1+1+1+1+1+1+1+1+1+1+1+1) (H.next+1) (H.next+1+1+1+1+1+1+1) [[.aB (H.next+1) 0 1 1 (D 1)],[.aB (H.next+1+1) 0 1 1 (D 1)],[.aB (H.next+1+1+1) 0 4 1 (D 4)],[.aB (H.next+1+1+1+1) 0 2 1 (D 2)],[.aB (H.next+1+1+1+1+1) 0 3 1 (D 3)]] [[.aB (H.next+1+1+1+1+1+1+1) 0 1 1 (D 1)],[.aB (H.next+1+1+1+1+1+1+1+1) 0 1 1 (D 1)],[.aB (H.next+1+1+1+1+1+1+1+1+1) 0 4 1 (D 4)],[.aB (H.next+1+1+1+1+1+1+1+1+1+1) 0 2 1 (D 2)],[.aB (H.next+1+1+1+1+1+1+1+1+1+1+1) 0 3 1 (D 3)]] (D 1) (D 1) ?_ ?_ rfl rfl ?_ ?_
   ·exact((((((((((((aO.push H _).bE _).bE _).bE _).bE _).bE _).bE _).bE _).bE _).bE _).bE _).bE _).bE _
   all_goals (simp-implicitDefEqProofs(disch:=try exact aj)only[dE];try rfl)
  ·refine key _ ?_ ?_ (H.next+1+1+1+1+1+1) (H.next+1+1+1+1+1+1+1+1+1+1+1+1) (H.next+1+1) (H.next+1+1+1+1+1+1+1+1) [[.aB (H.next+1) 0 1 1 (D 1)],[.aB (H.next+1+1) 0 1 1 (D 1)],[.aB (H.next+1+1+1) 0 4 1 (D 4)],[.aB (H.next+1+1+1+1) 0 2 1 (D 2)],[.aB (H.next+1+1+1+1+1) 0 3 1 (D 3)]] [[.aB (H.next+1+1+1+1+1+1+1) 0 1 1 (D 1)],[.aB (H.next+1+1+1+1+1+1+1+1) 0 1 1 (D 1)],[.aB (H.next+1+1+1+1+1+1+1+1+1) 0 4 1 (D 4)],[.aB (H.next+1+1+1+1+1+1+1+1+1+1) 0 2 1 (D 2)],[.aB (H.next+1+1+1+1+1+1+1+1+1+1+1) 0 3 1 (D 3)]] (D 1) (D 1) ?_ ?_ rfl rfl ?_ ?_
   ·exact((((((((((((aO.push H _).bE _).bE _).bE _).bE _).bE _).bE _).bE _).bE _).bE _).bE _).bE _).bE _
   all_goals (simp-implicitDefEqProofs(disch:=try exact aj)only[dE];try rfl)
  ·refine key _ ?_ ?_ (H.next+1+1+1+1+1+1) (H.next+1+1+1+1+1+1+1+1+1+1+1+1) (H.next+1+1+1) (H.next+1+1+1+1+1+1+1+1+1) [[.aB (H.next+1) 0 1 1 (D 1)],[.aB (H.next+1+1) 0 1 1 (D 1)],[.aB (H.next+1+1+1) 0 4 1 (D 4)],[.aB (H.next+1+1+1+1) 0 2 1 (D 2)],[.aB (H.next+1+1+1+1+1) 0 3 1 (D 3)]] [[.aB (H.next+1+1+1+1+1+1+1) 0 1 1 (D 1)],[.aB (H.next+1+1+1+1+1+1+1+1) 0 1 1 (D 1)],[.aB (H.next+1+1+1+1+1+1+1+1+1) 0 4 1 (D 4)],[.aB (H.next+1+1+1+1+1+1+1+1+1+1) 0 2 1 (D 2)],[.aB (H.next+1+1+1+1+1+1+1+1+1+1+1) 0 3 1 (D 3)]] (D 4) (D 4) ?_ ?_ rfl rfl ?_ ?_
   ·exact((((((((((((aO.push H _).bE _).bE _).bE _).bE _).bE _).bE _).bE _).bE _).bE _).bE _).bE _).bE _
   all_goals (simp-implicitDefEqProofs(disch:=try exact aj)only[dE];try rfl)
  ·refine key _ ?_ ?_ (H.next+1+1+1+1+1+1) (H.next+1+1+1+1+1+1+1+1+1+1+1+1) (H.next+1+1+1+1) (H.next+1+1+1+1+1+1+1+1+1+1) [[.aB (H.next+1) 0 1 1 (D 1)],[.aB (H.next+1+1) 0 1 1 (D 1)],[.aB (H.next+1+1+1) 0 4 1 (D 4)],[.aB (H.next+1+1+1+1) 0 2 1 (D 2)],[.aB (H.next+1+1+1+1+1) 0 3 1 (D 3)]] [[.aB (H.next+1+1+1+1+1+1+1) 0 1 1 (D 1)],[.aB (H.next+1+1+1+1+1+1+1+1) 0 1 1 (D 1)],[.aB (H.next+1+1+1+1+1+1+1+1+1) 0 4 1 (D 4)],[.aB (H.next+1+1+1+1+1+1+1+1+1+1) 0 2 1 (D 2)],[.aB (H.next+1+1+1+1+1+1+1+1+1+1+1) 0 3 1 (D 3)]] (D 2) (D 2) ?_ ?_ rfl rfl ?_ ?_
   ·exact((((((((((((aO.push H _).bE _).bE _).bE _).bE _).bE _).bE _).bE _).bE _).bE _).bE _).bE _).bE _
   all_goals (simp-implicitDefEqProofs(disch:=try exact aj)only[dE];try rfl)
  ·refine key _ ?_ ?_ (H.next+1+1+1+1+1+1) (H.next+1+1+1+1+1+1+1+1+1+1+1+1) (H.next+1+1+1+1+1) (H.next+1+1+1+1+1+1+1+1+1+1+1) [[.aB (H.next+1) 0 1 1 (D 1)],[.aB (H.next+1+1) 0 1 1 (D 1)],[.aB (H.next+1+1+1) 0 4 1 (D 4)],[.aB (H.next+1+1+1+1) 0 2 1 (D 2)],[.aB (H.next+1+1+1+1+1) 0 3 1 (D 3)]] [[.aB (H.next+1+1+1+1+1+1+1) 0 1 1 (D 1)],[.aB (H.next+1+1+1+1+1+1+1+1) 0 1 1 (D 1)],[.aB (H.next+1+1+1+1+1+1+1+1+1) 0 4 1 (D 4)],[.aB (H.next+1+1+1+1+1+1+1+1+1+1) 0 2 1 (D 2)],[.aB (H.next+1+1+1+1+1+1+1+1+1+1+1) 0 3 1 (D 3)]] (D 3) (D 3) ?_ ?_ rfl rfl ?_ ?_
   ·exact((((((((((((aO.push H _).bE _).bE _).bE _).bE _).bE _).bE _).bE _).bE _).bE _).bE _).bE _).bE _
   all_goals (simp-implicitDefEqProofs(disch:=try exact aj)only[dE];try rfl)
def xq{r:Nat}{T:List Tok}{ao:aa}{H0:ad}{s0:au}(h:bQ H0 r T ao s0){b t:Nat}(l:H0.next<=b)(u:H0.next<=t)(p:b≠t){x:aC}(d:Nat)(q:d<=1000)(N:Nat):
  ∀(j i:Nat),i+j=d->∀(m:Nat) (H:ad) (s:au),j<m->cb r H0 H->bH H r ao s->H.get b=D (.row U 2 [[Z [],I J 0]])->H.get t=D (.row U 2 [[Z x,I J d]])->
   W (m_ (aD P ay) N m (.ptr r 0 0) (.ptr b 0 0) (I J d) (.ptr t 0 0) (I J i) H) λv H'=>v= .agg [Z x,I J d]/\cb r H0 H'/\bQ H' r T ao (takeN T [93] j s)
 |0,i,n,0,H,s,hm,mt,a,c,e=>af
 |0,i,n,m+1,H,s,hm,mt,a,c,e=>by
  have k:¬((i:Int)<(d:Int)):=af;have z:=ad.aS c;simp-implicitDefEqProofs(disch:=try exact aj)only[m_,fJ,gK,hr,gY,hJ,gX,gJ,reduceAdd,reduceLeDiff,reduceIte,aw,k,decide_false,c,e];exact ba.2 ⟨rfl,mt.cE (.inr l) _,h.mut (mt.cE (.inr l) _) (by
   have:=h.rd.lt;unfold bH at a ⊢;rw[ad.get_set_other af];exact a)⟩
 |j+1,i,n,0,H,s,hm,mt,a,c,e=>af
 |j+1,i,n,m+1,H,s,hm,mt,a,c,e=>by
  have k:((i:Int)<(d:Int)):=af;have A:=h.rd.lt;simp-implicitDefEqProofs(disch:=try exact aj)only[m_,fJ,gK,hr,gY,hJ,gX,gJ,reduceAdd,reduceLeDiff,reduceIte,aw,k,decide_true];refine aP (gO (h.mut mt a) [93] (by simp)) ?_;rintro _ o ⟨rfl,m2,w⟩;refine⟨m2.1,?_⟩;have hw:IntKind.i64.wrap ((i:Int)+1)=((i+1:Nat):Int):=by rw[wrap_i64 af af];simp
  simp-implicitDefEqProofs(disch:=try exact aj)only[fJ,gK,hr,gY,hJ,gX,gJ,reduceAdd,reduceLeDiff,reduceIte,aw,hw];refine(xq h l u p d q N j (i+1) af m o _ af (mt.trans m2) w.rd (m2.get c af) (m2.get e af)).mono ?_;rintro v H' ⟨rfl,a6,y⟩;exact⟨rfl,a6,y⟩
def EV{r:Nat}{T:List Tok}{ao:aa}{H0:ad}{s0:au}(i:bQ H0 r T ao s0){b t:Nat}(q:H0.next<=b)(h:H0.next<=t)(u:b≠t)(d:Nat)(x:d<=1000)(N:Nat)(p:d<N){H:ad}{s:au}(mt:cb r H0 H)(n:bH H r ao s)(j:H.get b=D (.row U 2 [[Z [],I J 0]]))
  (k:H.get t=D (.row U 2 [[Z [],I J d]])) {c:Bool} (w:(aY T s [105,110,116]||aY T s [98,111,111,108])=c):
  W (gY (aD P ay) N (.ptr r 0 0) (.ptr b 0 0) (I J d) (.ptr t 0 0) (Y c) H) λv H'=>v= .agg [Z (eX T d s).1.1,I J (eX T d s).1.2]/\cb r H0 H'/\bQ H' r T ao (eX T d s).2:=by
 have G:=i.rd.lt;have F:=ad.aS j;have L:=ad.aS k;have hle:=mt.1;have o:=i.mut mt n;have A:=o.bJ.one;cases c with
 |true=>
  rw[show eX T d s=(((al T s.at_).text,(d:Int)),takeN T [93] d (aF s)) by simp[eX,w]];simp-implicitDefEqProofs(disch:=try exact aj)only[fJ,gK,gY,hJ,gX,gJ,reduceAdd,reduceLeDiff,reduceIte,aw];refine aP (hY n o.bJ) ?_;rintro _ H1 ⟨rfl,e⟩;refine⟨e.1,?_⟩;have a:=e.get k;have l:=ad.aS a;have y:=n.aM e;have m:=y;unfold bH at m;have K:=y.lt;simp-implicitDefEqProofs(disch:=try exact aj)only[fJ,gK,gY,hJ,gX,gJ,reduceAdd,reduceLeDiff,reduceIte,aw,Tok.v,a,m,A];simp only[hr];have m2:cb r H0 (H1.set t (.row U 2 [[Z (al T s.at_).text,I J d]])):=(mt.trans (e.mut _)).cE (.inr h) _;have B:bH (H1.set t (.row U 2 [[Z (al T s.at_).text,I J d]])) r ao s:=by
   unfold bH;rw[ad.get_set_other af];exact m
  obtain⟨m3,z⟩:=e7 B (aF s);refine xq i q h u d x N d 0 af N _ _ p (m2.trans m3) z (m3.get ?_ af) (m3.get (ad.get_set_same l) af);rw[ad.get_set_other af];exact e.get j
 |false=>
  rw[show eX T d s=(((bA T s).1,(d:Int)),takeN T [93] d (bA T s).2) by simp[eX,w]];simp-implicitDefEqProofs(disch:=try exact aj)only[fJ,gK,gY,hJ,gX,gJ,reduceAdd,reduceLeDiff,reduceIte,aw];refine aP (mM o) ?_;rintro _ H1 ⟨rfl,m1,E⟩;refine⟨m1.1,?_⟩;have a:=m1.get k af;have l:=ad.aS a;simp-implicitDefEqProofs(disch:=try exact aj)only[fJ,gK,gY,hJ,gX,gJ,reduceAdd,reduceLeDiff,reduceIte,aw,a];simp only[hr];refine xq i q h u d x N d 0 af N _ _ p ((mt.trans m1).cE (.inr h) _) ?_ ?_ (ad.get_set_same l)
  ·have:=E.rd;unfold bH at this ⊢;rw[ad.get_set_other af];exact this
  ·rw[ad.get_set_other af];exact m1.get j af
def EU{r:Nat}{T:List Tok}{ao:aa}{H0:ad}{s0:au}(e:bQ H0 r T ao s0){b:Nat}(n:H0.next<=b)(d:Nat)(o:d<=1000)(N:Nat)(m:d<N){H:ad}{s:au}(mt:cb r H0 H)(c:bH H r ao s)(i:H.get b=D (.row U 2 [[Z [],I J 0]])):
  W (hJ (aD P ay) N (.ptr r 0 0) (.ptr b 0 0) (I J d) H) λv H'=>v= .agg [Z (eX T d s).1.1,I J (eX T d s).1.2]/\cb r H0 H'/\bQ H' r T ao (eX T d s).2:=by
 have z:=e.rd.lt;have y:=ad.aS i;have hle:=mt.1;have u:=e.mut mt c;simp-implicitDefEqProofs(disch:=try exact aj)only[fJ,gK,hJ,gX,gJ,reduceAdd,reduceLeDiff,reduceIte,aw];have j:=aO.push H (.row U 2 [[Z [],I J d]]);have p:=ad.bI H (.row U 2 [[Z [],I J d]]);refine aP (du (c.aM j) (u.bJ.aM j) _ (by simp)) ?_;rintro _ w ⟨rfl,h⟩;refine⟨h.1,?_⟩;have a:=j.trans h;cases q:aY T s [105,110,116]with
 |true=>
  simp-implicitDefEqProofs(disch:=try exact aj)only[fJ,gK,hJ,gX,gJ,reduceAdd,reduceLeDiff,reduceIte,aw];exact EV e n af af d o N m (mt.trans (a.mut _)) (c.aM a) (a.get i) (h.get p) (by simp[q])
 |false=>
  simp-implicitDefEqProofs(disch:=try exact aj)only[fJ,gK,hJ,gX,gJ,reduceAdd,reduceLeDiff,reduceIte,aw];refine aP (du (c.aM a) (u.bJ.aM a) _ (by simp)) ?_;rintro _ x ⟨rfl,k⟩;refine⟨k.1,?_⟩;have l:=a.trans k
  try simp only[fJ,gK,hJ,gX,gJ]
  exact EV e n af af d o N m (mt.trans (l.mut _)) (c.aM l) (l.get i) ((h.trans k).get p) (by simp[q])
def LV{r:Nat}{T:List Tok}{ao:aa}{H0:ad}{s0:au}(e:bQ H0 r T ao s0){b:Nat}(q:H0.next<=b)(N:Nat)(z:3<N):
  ∀(n d:Nat),n+d=3->∀(m:Nat) (H:ad) (s:au),n<m->cb r H0 H->bH H r ao s->H.get b=D (.row U 2 [[Z [],I J 0]])->
   W (na (aD P ay) N m (.ptr r 0 0) (.ptr b 0 0) (I J d) H) λv H'=>∃p:(aC×Int)×au,p=(match eF T n d s with| .inr s'=>(([],0),s')| .inl (d,s')=>eX T d s')/\v= .agg [Z p.1.1,I J p.1.2]/\cb r H0 H'/\bQ H' r T ao p.2:=by
 intro n
 induction n with
 |zero=>
  intro d A m H s hm mt c h;obtain⟨m,rfl⟩:∃k,m=k+1:=⟨m-1,af⟩;have E:d=3:=af;subst E;have l:=e.mut mt c;have G:=e.rd.lt;have F:=ad.aS h;simp only[na];rw[gX];refine aP (du c l.bJ [91] (by simp)) ?_;rintro _ H1 ⟨rfl,a⟩;refine⟨a.1,?_⟩;have i:=a.get h;cases j:aY T s [91]with
  |true=>
   simp-implicitDefEqProofs(disch:=try exact aj)only[fJ,gK,hr,gY,gX,gJ,reduceAdd,reduceLeDiff,reduceIte,aw,beq_self_eq_true,Int.cast_ofNat_Int];refine aP (ke (l.aM a) 4) ?_;rintro _ O ⟨rfl,m2,L⟩;refine⟨m2.1,?_⟩;have u:=m2.get i af;have Q:=ad.aS u;simp-implicitDefEqProofs(disch:=try exact aj)only[fJ,gK,hr,gY,gX,gJ,reduceAdd,reduceLeDiff,reduceIte,aw,u];have m3:=((mt.trans (a.mut _)).trans m2).cE (.inr q) (.row U 2 [[Z [],I J 0]]);refine ba.2 ⟨(([],0),cQ T 4 s),by simp[eF,j],rfl,m3,e.mut m3 ?_⟩;have:=L.rd;unfold bH at this ⊢;rw[ad.get_set_other af];exact this
  |false=>
   simp-implicitDefEqProofs(disch:=try exact aj)only[fJ,gK,hr,gY,gX,gJ,reduceAdd,reduceLeDiff,reduceIte,aw];refine(EU e q 3 af N z (mt.trans (a.mut _)) (c.aM a) i).mono ?_;rintro v H' ⟨rfl,a6,o⟩;exact⟨eX T 3 s,by simp[eF,j],rfl,a6,o⟩
 |succ n M=>
  intro d A m H s hm mt c h;obtain⟨m,rfl⟩:∃k,m=k+1:=⟨m-1,af⟩;have l:=e.mut mt c;have G:=e.rd.lt;have F:=ad.aS h;have K:=l.bJ.one;simp only[na];rw[gX];refine aP (du c l.bJ [91] (by simp)) ?_;rintro _ H1 ⟨rfl,a⟩;refine⟨a.1,?_⟩;have i:=a.get h;have w:=c.aM a;have x:=w;unfold bH at x;cases j:aY T s [91]with
  |true=>
   have y:((d:Int)==3)=false:=by simp;omega
   have hw:IntKind.i64.wrap ((d:Int)+1)=((d+1:Nat):Int):=by rw[wrap_i64 af af];simp
   obtain⟨m2,B⟩:=e7 w (aF s);simp-implicitDefEqProofs(disch:=try exact aj)only[fJ,gK,hr,gY,gJ,reduceAdd,reduceLeDiff,reduceIte,aw,y,hw,x,K];refine(M (d+1) af m _ _ af ((mt.trans (a.mut _)).trans m2) B (m2.get i af)).mono ?_;rintro v H' ⟨p,aI,rfl,a6,o⟩;exact⟨p,by rw[aI];simp[eF,j],rfl,a6,o⟩
  |false=>
   simp-implicitDefEqProofs(disch:=try exact aj)only[fJ,gK,hr,gY,gJ,reduceAdd,reduceLeDiff,reduceIte,aw];refine(EU e q d af N af (mt.trans (a.mut _)) (c.aM a) i).mono ?_;rintro v H' ⟨rfl,a6,o⟩;exact⟨eX T d s,by simp[eF,j],rfl,a6,o⟩
def rY{H:ad}{r:Nat}{T:List Tok}{ao:aa}{s:au}(a:bQ H r T ao s):W (aD P ay 53 [.ptr r 0 0] H) λv H'=>v= .agg [Z (cI T s).1.1,I J (cI T s).1.2]/\cb r H H'/\bQ H' r T ao (cI T s).2:=by
 refine cF (λ_=>Mw 10) ?_;simp only[fJ,gK,hr,gY,gJ,cn];have p:=aO.push H (.row U 2 [[Z [],I J 0]]);refine(LV a (bj _) 10 af 3 0 rfl 10 _ s af (p.mut _) (a.rd.aM p) (ad.bI _ _)).mono ?_;rintro v H' ⟨q,c,rfl,a6,d⟩;have:q=cI T s:=by rw[c];rfl
 subst this;exact⟨rfl,a6,d⟩
def kz(ok:Nat->Prop)(H:ad)(r:Nat)(T:List Tok)(ao:aa)(e:aA)(s':au)(v:aa)(H':ad):Prop:=cb r H H'/\bQ H' r T ao s'/\cw H' ok e v
abbrev dM(H:ad):=kz (bk H.next) H
def dM.box{H c:ad}{r:Nat}{T:List Tok}{ao:aa}{s s':au}{a:bG}{ks:List aA}{kv:aa}{b:Nat}{lo:Nat}(h:bQ H r T ao s)(m:cb r H c)(e:bH c r ao s')(i:H.next<=b)(n:b<lo)(j:cg c (bk lo) ks kv)(d:bW):
  dM H r T ao (.mk a ks) s' (.agg (a.cells kv)) (c.set b d):=by
 have k:=h.rd.lt;have m':=m.cE (.inr i) d;refine⟨m',h.mut m' ?_,?_⟩
 ·unfold bH at e ⊢;rw[ad.get_set_other af];exact e
 ·rw[hc];exact⟨kv,rfl,j.a1 (c9.set _ (by unfold bk;omega) λl k=>by unfold bk at*;omega)⟩
def kz.fin{ok:Nat->Prop}{H bR:ad}{r:Nat}{T:List Tok}{ao:aa}{s s':au}{a:bG}{ks:List aA}{kv:aa}(e:bQ H r T ao s)(m:cb r H bR)(c:bH bR r ao s')(d:cg bR ok ks kv):kz ok H r T ao (.mk a ks) s' (.agg (a.cells kv)) bR:=
 ⟨m,e.mut m c,hc.2 ⟨kv,rfl,d⟩⟩
def dM.ret{H a:ad}{r:Nat}{T:List Tok}{ao:aa}{s s':au}{e:aA}{v:aa}{b n:Nat}(i:bQ H r T ao s)(m:cb r H a)(d:bH a r ao s')(j:H.next<=b)(he:cw a (bk n) e v)(k:b<n)(c:bW):dM H r T ao e s' v (a.set b c):=by
 have o:=i.rd.lt;have m':=m.cE (.inr j) c;refine⟨m',i.mut m' ?_,he.new (c0.cE (S:=(· <n)) (c0.refl _ _) (.inl k) _) λl h=>by unfold bk;omega⟩;unfold bH at d ⊢;rw[ad.get_set_other af];exact d
def jQ(n:Nat):Prop:=∀{H:ad} {r:Nat} {T:List Tok} {ao:aa} {s:au},bQ H r T ao s->∀(lev:Nat),lev<=5->∀(e:aA) (s':au),dd T n lev s=D (e,s')->W (aD P ay 40 [.ptr r 0 0,I J lev] H) (dM H r T ao e s')
def u5(n:Nat):Prop:=∀{H:ad} {r:Nat} {T:List Tok} {ao:aa} {s:au},bQ H r T ao s->∀(e:aA) (s':au),fl T n s=D (e,s')->W (aD P ay 69 [.ptr r 0 0] H) (dM H r T ao e s')
def uS(n:Nat):Prop:=∀{ok:Nat->Prop} {H:ad} {r:Nat} {T:List Tok} {ao:aa} {s:au} {e:aA} {v:aa},bQ H r T ao s->cw H ok e v->¬ok r->(∀l,H.next<=l->ok l)->∀(a:aA) (s':au),eg T n e s=D (a,s')->W (aD P ay 82 [.ptr r 0 0,v] H) (kz ok H r T ao a s')
def nx(n:Nat):Prop:=∀{H:ad} {r:Nat} {T:List Tok} {ao:aa} {s:au},bQ H r T ao s->∀(e:aA) (s':au),ep T n s=D (e,s')->W (aD P ay 92 [.ptr r 0 0] H) (dM H r T ao e s')
def uU(n:Nat):Prop:=∀{H:ad} {r:Nat} {T:List Tok} {ao:aa} {s:au},bQ H r T ao s->∀(e:aA) (s':au),dy T n s=D (e,s')->W (aD P ay 83 [.ptr r 0 0] H) (dM H r T ao e s')
def qG(n:Nat):Prop:=∀{H:ad} {r:Nat} {T:List Tok} {ao:aa} {s:au},bQ H r T ao s->∀(pos:Int) (e:aA) (s':au),fj T n pos s=D (e,s')->W (aD P ay 91 [.ptr r 0 0,I J pos] H) (dM H r T ao e s')
def qC(n:Nat):Prop:=∀{H:ad} {r:Nat} {T:List Tok} {ao:aa} {s:au},bQ H r T ao s->∀(l:List aA) (s':au),e2 T n s=D (l,s')->W (aD P ay 93 [.ptr r 0 0] H) λv H'=>cb r H H'/\bQ H' r T ao s'/\cg H' (bk H.next) l v
structure Hj(n:Nat):Prop where
 expr:jQ n
 unary:u5 n
 behind:uS n
 inner:nx n
 first:uU n
 fresh:qG n
 args:qC n
def J7{n:Nat}(G:jQ n):nx (n+1):=by
 intro H r T ao s a e s' h;refine cF (λ_=>MV 0) ?_;have N:=a.rd.lt;have q:=aO.push H (.row U 11 [[I J 0,I J 0,Z [],Z [],I J 0,.ar,I J 0,I J 0,I J 0,I J 0,I J 0]]);simp only[ep,cZ]at h;obtain⟨⟨an,s1⟩,w,i⟩:=h;simp only[aV,b4]at i;obtain⟨rfl,rfl⟩:=i;simp-implicitDefEqProofs(disch:=try exact aj)only[oQ,reduceAdd,reduceLeDiff,reduceIte,aw];refine aP (pY (a.aM q) [40] (by simp)) ?_;rintro _ u ⟨rfl,m2,B⟩;refine⟨m2.1,?_⟩;have x:=m2.get (ad.bI H _) af;have K:=(q.mut (· =r)).trans m2;simp-implicitDefEqProofs(disch:=try exact aj)only[oQ,reduceAdd,reduceLeDiff,reduceIte,aw]
 refine aP (G B 0 af an s1 w) ?_;rintro v d ⟨m3,E,m⟩;refine⟨m3.1,?_⟩;have j:=m3.get x af;have O:=ad.aS j;obtain⟨cs,rfl,hlen,o⟩:=m.cells;have p:List.take 11 cs=cs:=List.take_of_length_le af;simp-implicitDefEqProofs(disch:=try exact aj)only[oQ,reduceAdd,reduceLeDiff,reduceIte,aw,hlen,o,List.append_nil,p];have c:=aO.push d (.row U 11 [cs]);refine aP (pV (E.aM c) [41] (by simp)) ?_;rintro _ L ⟨rfl,m5,F⟩;refine⟨m5.1,?_⟩;have k:=m5.get (c.get j) af;have P:=ad.aS k;have y:=m5.get (ad.bI d (.row U 11 [cs])) af;have A:=m2.1;simp only[ad.bX]at A;simp-implicitDefEqProofs(disch:=try exact aj)only[oQ,reduceAdd,reduceLeDiff,reduceIte,aw,hlen,o,List.append_nil,p,k,y]
 refine ba.2 (dM.ret a (((K.trans m3).trans (c.mut _)).trans m5) F.rd (bj _) (n:=u.next) (m.new ?_ λ_ h=>h) af _);exact((aO.push _ _).mut _).trans ⟨m5.1,λl z M=>m5.2 l z af⟩
def JH{n:Nat}(ab:nx n):qG (n+1):=by
 intro H r T ao s c pos e s' h;refine cF (λ_=>MU 0) ?_;have ah:=c.rd.lt;have Q:=c.bJ.one;have K:=aO.push H (.row U 11 [[I J 0,I J 0,Z [],Z [],I J 0,.ar,I J 0,I J 0,I J 0,I J 0,I J 0]]);simp-implicitDefEqProofs(disch:=try exact aj)only[la,reduceAdd,reduceLeDiff,reduceIte,aw];have q:=c.aM K;refine aP (du q.rd q.bJ [91] (by simp)) ?_;rintro _ ae ⟨rfl,k⟩;refine⟨k.1,?_⟩;have G:=q.aM k;have o:=k.get (ad.bI H (.row U 11 [[I J 0,I J 0,Z [],Z [],I J 0,.ar,I J 0,I J 0,I J 0,I J 0,I J 0]]))
 have al:=ad.aS o;have j:=(K.trans k).mut (· =r);simp only[fj]at h;cases B:aY T s [91]with
 |true=>
  simp only[B,aW,cZ]at h;obtain⟨⟨an,s1⟩,M,x⟩:=h;simp only[aV,b4]at x;obtain⟨rfl,rfl⟩:=x;have i:=G.rd;have F:=i;unfold bH at F;obtain⟨m3,N⟩:=e7 i (aF s);simp-implicitDefEqProofs(disch:=try exact aj)only[la,reduceAdd,reduceLeDiff,reduceIte,aw,F,Q,Bool.not_true];refine aP (rY (c.mut (j.trans m3) N)) ?_;rintro _ m ⟨rfl,m5,u⟩;refine⟨m5.1,?_⟩;have d:=m5.get (m3.get o af) af;have O:=ad.aS d;simp-implicitDefEqProofs(disch:=try exact aj)only[la,reduceAdd,reduceLeDiff,reduceIte,aw];have w:=aO.push m (.row U 2 [[Z (cI T (aF s)).1.1,I J (cI T (aF s)).1.2]]);have V:=ad.bI m (.row U 2 [[Z (cI T (aF s)).1.1,I J (cI T (aF s)).1.2]])
  refine aP (gO (u.aM w) [93] (by simp)) ?_;rintro _ ag ⟨rfl,m8,W⟩;refine⟨m8.1,?_⟩;have y:=m8.get (w.get d) af;have p:=m8.get V af;have ai:=ad.aS y;have am:=ad.aS p;simp-implicitDefEqProofs(disch:=try exact aj)only[la,reduceAdd,reduceLeDiff,reduceIte,aw];refine aP (ab W an s1 M) ?_;rintro v L ⟨m9,aa,A⟩;refine⟨m9.1,?_⟩;have z:=m9.get y af;have E:=m9.get p af;have ak:=ad.aS z;have ap:=ad.aS E;have aq:=m9.1;obtain⟨cs,rfl,hlen,R⟩:=A.cells;have ax:∀l,b5 P l 41 1 [(0,.agg cs)]=D (.aB l 0 1 11 (D 1),.row U 11 [cs]):=λl=>jM l cs hlen R
  replace j:=((((j.trans m3).trans m5).trans (w.mut _)).trans m8).trans m9;have i:=aa.rd;unfold bH at i;simp-implicitDefEqProofs(disch:=try exact aj)only[la,reduceAdd,reduceLeDiff,reduceIte,aw,ax,z,E,p];refine ba.2 ?_;refine kz.fin (ok:=bk H.next) (a:={kind:=9,cf:=(cI T (aF s)).1.1,cS:=(cI T (aF s)).1.2,pos:=pos}) (kv:= .aB L.next 0 1 11 (D 1)) (s':=s1) c ?_ ?_ (cg.n5 (ro:=false) ?_ (by unfold bk;omega) (A.new ?_ λl h=>by unfold bk;omega))
  ·(repeat (first|exact j|refine c0.bE ?_ _|refine c0.cE (S:=(· =r)) ?_ (.inl rfl) _|refine c0.cE ?_ (.inr (by(first|omega|(simp only[ad.bX,ad.ds];omega)))) _))
  ·(unfold bH;simp-implicitDefEqProofs(disch:=try exact aj)only[dE,i,aF,eh,eN])
  ·simp-implicitDefEqProofs(disch:=try exact aj)only[dE]
  ·exact c0.cE (S:=λl=>l<_) ((c0.refl _ _).bE _) (.inl af) _
 |false=>
  simp only[B,aR,aV,b4]at h;obtain⟨rfl,rfl⟩:=h;simp-implicitDefEqProofs(disch:=try exact aj)only[la,reduceAdd,reduceLeDiff,reduceIte,aw,Bool.not_false];refine aP (mM G) ?_;rintro _ m ⟨rfl,m5,u⟩;refine⟨m5.1,?_⟩;have d:=m5.get o af;have O:=ad.aS d;simp-implicitDefEqProofs(disch:=try exact aj)only[la,reduceAdd,reduceLeDiff,reduceIte,aw,d];refine ba.2 ?_;exact dM.box (a:={kind:=8,cf:=(bA T s).1,pos:=pos}) (kv:= .ar) (lo:=H.next+1) c (j.trans m5) u.rd (bj _) (Nat.lt_succ_self _) (cg.nil _ _) _
def yV{N:Nat}(Q:∀k,k<N->jQ k){H0:ad}{r:Nat}{T:List Tok}{ao:aa}{s0:au}(o:bQ H0 r T ao s0):
  ∀(n m:Nat),n<N->n<m->∀(H:ad) (s:au) (l:List aA) (L:Nat) (els:List (List aa)),cb r H0 H->bH H r ao s->l.length+n<=1000000000->H.get L=D (.row U 11 els)->H0.next<=L->els.length=l.length->
   df H (λk=>H0.next<=k/\k≠L) l els->∀(l':List aA) (s':au),eE T n l s=D (l',s')->
   W (oS (aD P ay) N m (.ptr r 0 0) (.aB L 0 l.length 11 C) H) λv H'=>cb r H0 H'/\bQ H' r T ao s'/\cg H' (bk H0.next) l' v
 |0,m,B,hm,H,s,l,L,els,d,u,hlen,q,p,i,y,l',s',h=>by simp[eE]at h
 |n+1,0,B,hm,H,s,l,L,els,d,u,hlen,q,p,i,y,l',s',h=>af
 |n+1,m+1,B,hm,H,s,l,L,els,d,u,hlen,q,p,i,y,l',s',h=>by
  have aE:=o.rd.lt;have ak:=o.bJ.one;have aG:=ad.aS q;have hle:=d.1;have M:=o.mut d u;simp only[eE]at h;simp only[oS];rw[oR];refine aP (du u M.bJ [44] (by simp)) ?_;rintro _ H1 ⟨rfl,a⟩;refine⟨a.1,?_⟩;have O:=M.aM a;have z:=a.get q;have aH:=ad.aS z;have E:=y.a1 (c9.aM a λ_ h=>h) l els;cases K:aY T s [44]with
  |false=>
   simp only[K,aR,aV,b4]at h;obtain⟨rfl,rfl⟩:=h;simp-implicitDefEqProofs(disch:=try exact aj)only[h1,oR,iu,reduceAdd,reduceLeDiff,reduceIte,aw];refine aP (pV O [41] (by simp)) ?_;rintro _ az ⟨rfl,m2,am⟩;refine⟨m2.1,?_⟩
   try simp only[h1,oR,iu]
   refine ba.2 ⟨(d.trans (a.mut _)).trans m2,am,.inr (.inl ⟨L,0,C,U,els,rfl,p,m2.get z af,?_⟩)⟩;rw[List.drop_zero];exact E.a1 (c9.mut m2 af λ_ h=>h.1) l els
  |true=>
   simp only[K,aW,cZ]at h;obtain⟨⟨an,s1⟩,R,S⟩:=h;have A:=O.rd;have G:=A;unfold bH at G;have aJ:=A.lt;obtain⟨m2,ab⟩:=e7 A (aF s);simp-implicitDefEqProofs(disch:=try exact aj)only[h1,oR,iu,reduceAdd,reduceLeDiff,reduceIte,aw,G,ak];refine aP (Q n af (o.mut ((d.trans (a.mut _)).trans m2) ab) 0 af an s1 R) ?_;rintro v c ⟨m3,ap,x⟩;refine⟨m3.1,?_⟩;have F:=m3.get (m2.get z af) af;have aI:=ad.aS F;have aK:=a.1;have ai:=m3.1;simp only[ad.ds]at ai x;have ae:=E.a1 (c9.mut (m2.trans m3) af λ_ h=>h) l els;obtain⟨cs,rfl,ag,al⟩:=x.cells;have ax:∀l,b5 P l 41 1 [(0,.agg cs)]=D (.aB l 0 1 11 (D 1),.row U 11 [cs]):=λl=>jM l cs ag al
   simp-implicitDefEqProofs(disch:=try exact aj)only[h1,iu,reduceAdd,reduceLeDiff,reduceIte,aw,ax];have av:=aO.push c (.row U 11 [cs]);rw[H6 (ad.bI c (.row U 11 [cs])) (av.get F) i af,eZ (by simp only[ad.bX,ad.ds];omega)];simp only[ad.bX,ad.ds,h1,iu];have ah:l.length+1=(l++[an]).length:=by simp
   rw[ah];have w:∀k,k<c.next->k≠L->(((c.push (.row U 11 [cs])).set L .dead).push (.row U 11 (els++[cs]))).get k=c.get k:=λk j aC=>by
    rw[ad.dw (by simp only[ad.bX,ad.ds];omega),ad.get_set_other af,ad.dw af]
   have aq:cb r H0 (((c.push (.row U 11 [cs])).set L .dead).push (.row U 11 (els++[cs]))):=((((d.trans (a.mut _)).trans m2).trans m3).bE _|>.cE (.inr p) _).bE _;refine yV Q o n m af af _ s1 (l++[an]) (c.next+1) (els++[cs]) aq ?_ (by simp;omega) ?_ af (by simp[i]) ?_ l' s' S
   ·have:=ap.rd;unfold bH at this ⊢;rw[w r af af];exact this
   ·exact ad.sY (by simp only[ad.bX,ad.ds];omega) (by simp only[ad.bX,ad.ds];omega)
   ·refine df.append l els an cs ?_ i ?_
    ·exact ae.a1 (λk ro es j e=>⟨⟨j.1,by have:=ad.aS e;omega⟩,by rw[w k (ad.aS e) j.2];exact e⟩) l els
    ·exact x.a1 (λk ro es j e=>by
      have V:=ad.aS e;unfold bk at j;exact⟨⟨af,af⟩,by rw[w k V af];exact e⟩) an _
def Il{n:Nat}(O:n<=900000000)(w:∀k,k<=n->jQ k):qC (n+1):=by
 intro H r T ao s d l s' h;refine cF (λ_=>MW (n+1)) ?_;have G:=d.rd.lt;simp only[e2]at h;rw[iu];refine aP (pY d [40] (by simp)) ?_;rintro _ H1 ⟨rfl,m1,e⟩;refine⟨m1.1,?_⟩;simp-implicitDefEqProofs(disch:=try exact aj)only[h1,iu,reduceAdd,reduceLeDiff,reduceIte,aw];refine aP (du e.rd e.bJ [41] (by simp)) ?_;rintro _ E ⟨rfl,c⟩;refine⟨c.1,?_⟩;have u:=e.aM c;have x:=m1.trans (c.mut _);cases p:aY T (cJ T [40] s) [41]with
 |true=>
  simp only[p,aW,aV,b4]at h;obtain⟨rfl,rfl⟩:=h;simp-implicitDefEqProofs(disch:=try exact aj)only[h1,iu,reduceAdd,reduceLeDiff,reduceIte,aw];refine aP (pV u [41] (by simp)) ?_;rintro _ a ⟨rfl,m3,i⟩;refine⟨m3.1,?_⟩
  try simp only[h1,iu]
  exact ba.2 ⟨x.trans m3,i,cg.nil _ _⟩
 |false=>
  simp only[p,aR,cZ]at h;obtain⟨⟨an,s1⟩,y,z⟩:=h;simp-implicitDefEqProofs(disch:=try exact aj)only[h1,iu,reduceAdd,reduceLeDiff,reduceIte,aw];refine aP (w n (bj _) u 0 af an s1 y) ?_;rintro v a ⟨m3,i,m⟩;refine⟨m3.1,?_⟩;have K:=m1.1;have L:=c.1;have M:=m3.1;obtain⟨cs,rfl,A,B⟩:=m.cells;have ax:∀l,b5 P l 41 1 [(0,.agg cs)]=D (.aB l 0 1 11 (D 1),.row U 11 [cs]):=λl=>jM l cs A B
  simp-implicitDefEqProofs(disch:=try exact aj)only[h1,iu,reduceAdd,reduceLeDiff,reduceIte,aw,ax];have j:=(aO.push a (.row U 11 [cs])).bE (.row U 11 [cs]);rw[H5 (ad.bI a (.row U 11 [cs])),eZ (by simp only[ad.bX];omega)];simp only[ad.bX,h1,iu];refine yV (N:=n+1) (λk q=>w k af) d n (n+1) af af _ s1 [an] (a.next+1) [cs] ((x.trans m3).trans (j.mut _)) (i.rd.aM j) (by simp;omega) ?_ af rfl ?_ l s' z
  ·exact ad.sY (by simp only[ad.bX];omega) (by simp only[ad.bX];omega)
  ·rw[df,df];exact⟨m.a1 (λk ro es q o=>by
    have F:=ad.aS o;unfold bk at q;exact⟨⟨af,af⟩,j.get o⟩) an _,trivial⟩
def vq{N B:Nat}(av:∀k,k<B->jQ k){ok:Nat->Prop}{H0:ad}{r:Nat}{T:List Tok}{ao:aa}{s0:au}(x:bQ H0 r T ao s0)(R:¬ok r)(F:∀l,H0.next<=l->ok l):
  ∀(n m:Nat),n<=B->n<m->∀(H:ad) (s:au) (e:aA) (cs o:List aa),cb r H0 H->bH H r ao s->H.get (H0.next+1)=D (.row U 11 [o])->o.length=11->H.get H0.next=D (.row U 11 [cs])->
   cw H (λl=>ok l/\l≠H0.next/\l≠H0.next+1) e (.agg cs)->∀(a:aA) (s':au),eg T n e s=D (a,s')->
   W (nh (aD P ay) N m (.ptr r 0 0) (.ptr H0.next 0 0) (.ptr (H0.next+1) 0 0) H) (kz ok H0 r T ao a s')
 |0,m,aT,hm,H,s,e,cs,o,y,j,E,S,A,he,a,s',h=>by simp[eg]at h
 |n+1,0,aT,hm,H,s,e,cs,o,y,j,E,S,A,he,a,s',h=>af
 |n+1,m+1,aT,hm,H,s,e,cs,o,y,j,E,S,A,he,a,s',h=>by
  have bF:=x.rd.lt;have br:=x.bJ.one;have G:=x.mut y j;have bK:=ad.aS A;have bL:=ad.aS E;have hle:=y.1;obtain⟨bD,bh,hlen,ai⟩:=he.cells;cases bh;have ap:List.take 11 cs=cs:=List.take_of_length_le af;have bm:List.drop 11 o=[]:=List.drop_of_length_le af;have a6:List.drop 11 cs=[]:=List.drop_of_length_le af;have bs:=he.same;simp only[eg]at h;simp only[nh];rw[r7];refine aP (du j G.bJ [46] (by simp)) ?_;rintro _ H1 ⟨rfl,z⟩;refine⟨z.1,?_⟩;have fin:∀bR,aO H bR->(a,s')=(e,s)->W (oO (aD P ay) N (.ptr H0.next 0 0) (.ptr (H0.next+1) 0 0) bR) (kz ok H0 r T ao a s'):=by
   intro bR p bo;cases bo;have aU:=p.get A;have a2:=p.get E;have dV:=ad.aS aU;have fk:=ad.aS a2;simp-implicitDefEqProofs(disch:=try exact aj)only[oO,jI,k9,iJ,iK,iL,ko,r7,iM,iN,ir,reduceAdd,reduceLeDiff,reduceIte,aw,aU,a2,hlen,ai,List.append_nil,ap,bm];have m':=(y.trans (p.mut _)).cE (.inr (Nat.le_succ _)) (.row U 11 [cs]);refine ba.2 ⟨m',x.mut m' ?_,(he.a1 (c9.aM p λ_ h=>h) e _).a1 (c9.set _ af λl h=>h.1) e _⟩;have:=j.aM p;unfold bH at this ⊢;rw[ad.get_set_other af];exact this
  have go:∀(ab:ad),aO H ab->(bif aY T s [46]then eg T n (.mk {kind:=5,name:=(bA T (aF s)).1,pos:=(al T s.at_).pos} [e]) (bA T (aF s)).2 else(dd T n 0 (cJ T [91] s)).bind λp=>eg T n (.mk {kind:=6,pos:=(al T s.at_).pos} [e,p.1]) (dc T [93] p.2))=D (a,s')->
    W (ko (aD P ay) (nh (aD P ay) N m) ab (.ptr r 0 0) (.ptr H0.next 0 0) (.ptr (H0.next+1) 0 0)) (kz ok H0 r T ao a s'):=by
   intro ab V O;simp only[ko];refine aP (hY (j.aM V) (G.bJ.aM V)) ?_;rintro _ ae ⟨rfl,aI⟩;refine⟨aI.1,?_⟩;simp-implicitDefEqProofs(disch:=try exact aj)only[iL,iK,iJ,reduceAdd,reduceLeDiff,reduceIte,aw,Tok.v];have aJ:=(V.trans aI).bE (.row U 4 [[I J (al T s.at_).kind,Z (al T s.at_).text,I J (al T s.at_).n,I J (al T s.at_).pos]]);have bt:=ad.bI ae (.row U 4 [[I J (al T s.at_).kind,Z (al T s.at_).text,I J (al T s.at_).n,I J (al T s.at_).pos]]);refine aP (du (j.aM aJ) (G.bJ.aM aJ) [46] (by simp)) ?_;rintro _ aN ⟨rfl,aK⟩;refine⟨aK.1,?_⟩;have L:=aJ.trans aK
   have ak:=aK.get bt;have bM:=ad.aS ak;have ag:=L.get A;have ah:=L.get E;have bf:=G.aM L;have aC:=y.trans (L.mut _);have a7:=he.a1 (c9.aM L λ_ h=>h) e _;have bS:H.next<=ae.next:=(V.trans aI).1
   have bV:=ad.aS ag;cases a5:aY T s [46]with
   |true=>
    simp only[a5,aW]at O;have am:=bf.rd;have be:=am;unfold bH at be;have bN:=am.lt;obtain⟨m8,bl⟩:=e7 am (aF s);simp-implicitDefEqProofs(disch:=try exact aj)only[k9,iJ,iK,iL,ko,iM,iN,ir,reduceAdd,reduceLeDiff,reduceIte,aw,be,br];refine aP (mM (x.mut (aC.trans m8) bl)) ?_;rintro _ c ⟨rfl,m9,aq⟩;refine⟨m9.1,?_⟩;have az:=m8.trans m9;have aZ:=m8.get ag af;have a0:=m9.get aZ af;have a4:=az.get ah af;have bc:=m8.get ak af;have bd:=m9.get bc af;have bW:=ad.aS a0;have b0:=ad.aS a4;have b3:=ad.aS bd;have bg:(aN.set r (.row U 5 [[ao,I J (IntKind.i64.wrap (s.at_+1)),I J s.bU,I J s.aG,I J s.cP]])).get H0.next=D (.row U 11 [cs]):=aZ
    have bu:(aN.set r (.row U 5 [[ao,I J (IntKind.i64.wrap (s.at_+1)),I J s.bU,I J s.aG,I J s.cP]])).get ae.next=D (.row U 4 [[I J (al T s.at_).kind,Z (al T s.at_).text,I J (al T s.at_).n,I J (al T s.at_).pos]]):=bc
    have ax:∀l,b5 P l 41 1 [(0,.agg cs)]=D (.aB l 0 1 11 (D 1),.row U 11 [cs]):=λl=>jM l cs hlen ai
    simp-implicitDefEqProofs(disch:=try exact aj)only[k9,iJ,iK,iL,ko,iM,iN,ir,reduceAdd,reduceLeDiff,reduceIte,aw,a0,bg,bd,bu,ax,ap,a6,bs,Bool.and_true,Bool.and_self];simp only[jI];have bz:cb r H0 ((c.push (.row U 11 [cs])).set H0.next (.row U 11 [[I J 5,I J 0,Z (bA T (aF s)).1,Z [],I J 0,.aB c.next 0 1 11 (D 1),I J (al T s.at_).pos,I J 0,I J 0,I J 0,I J 0]])):=((aC.trans az).bE _).cE (.inr (bj _)) _;have i:∀k,k<c.next->k≠H0.next->((c.push (.row U 11 [cs])).set H0.next (.row U 11 [[I J 5,I J 0,Z (bA T (aF s)).1,Z [],I J 0,.aB c.next 0 1 11 (D 1),I J (al T s.at_).pos,I J 0,I J 0,I J 0,I J 0]])).get k=c.get k:=λk bp bq=>by
     rw[ad.get_set_other af,ad.dw af]
    refine vq av x R F n m af af _ _ _ (bG.cells {kind:=5,name:=(bA T (aF s)).1,pos:=(al T s.at_).pos} (.aB c.next 0 1 11 (D 1))) o bz ?_ ?_ S (ad.get_set_same (by simp only[ad.bX];omega)) ?_ a s' O
    ·have:=aq.rd;unfold bH at this ⊢;rw[i r af af];exact this
    ·rw[i _ af af];exact a4
    ·rw[hc];have Q:=a7.mut az (by rintro⟨h,_⟩;exact R h) λ_ h=>h
     refine⟨_,rfl,cg.n5 (ro:=false) ?_ ⟨F _ af,af,af⟩ (Q.a1 (λl ro els w u=>⟨w,by rw[i l (ad.aS u) w.2.1];exact u⟩) e _)⟩;rw[ad.get_set_other af];exact ad.bI _ _
   |false=>
    simp only[a5,aR,cZ]at O;obtain⟨⟨an,s1⟩,g1,g2⟩:=O;simp-implicitDefEqProofs(disch:=try exact aj)only[jI,iJ,iK,iL,ko,iM,iN,ir,reduceAdd,reduceLeDiff,reduceIte,aw];refine aP (pY bf [91] (by simp)) ?_;rintro _ bC ⟨rfl,m8,bx⟩;refine⟨m8.1,?_⟩;simp-implicitDefEqProofs(disch:=try exact aj)only[jI,iJ,iK,iL,ko,iM,iN,ir,reduceAdd,reduceLeDiff,reduceIte,aw];refine aP (av n af bx 0 af an s1 g1) ?_;rintro v c ⟨m9,aq,Q⟩;refine⟨m9.1,?_⟩;obtain⟨d,rfl,a9,a_⟩:=Q.cells;have bv:List.take 11 d=d:=List.take_of_length_le af;simp-implicitDefEqProofs(disch:=try exact aj)only[jI,iJ,iK,iL,ko,iM,iN,ir,reduceAdd,reduceLeDiff,reduceIte,aw,a9,a_,List.append_nil]
    have aE:=aO.push c (.row U 11 [d]);refine aP (pV (aq.aM aE) [93] (by simp)) ?_;rintro _ q ⟨rfl,m12,bw⟩;refine⟨m12.1,?_⟩;have K:=((m8.trans m9).trans (aE.mut _)).trans m12;have aX:=K.get ag af;have a3:=K.get ah af;have bb:=K.get ak af;have bi:=m12.get (ad.bI c (.row U 11 [d])) (by have:=m8.1;have:=m9.1;omega);have bT:=ad.aS aX;have bY:=ad.aS a3;have b2:=ad.aS bb;have ax:∀l,b5 P l 41 2 [(0,.agg cs),(1,.agg d)]=D (.aB l 0 2 11 (D 2),.row U 11 [cs,d]):=λl=>xL l cs d hlen ai a9 a_
    simp-implicitDefEqProofs(disch:=try exact aj)only[jI,iJ,iK,iL,ko,iM,iN,ir,reduceAdd,reduceLeDiff,reduceIte,aw,aX,bi,bb,ax,ap,bv,a6];simp only[k9];have bB:cb r H0 ((q.push (.row U 11 [cs,d])).set H0.next (.row U 11 [[I J 6,I J 0,Z [],Z [],I J 0,.aB q.next 0 2 11 (D 2),I J (al T s.at_).pos,I J 0,I J 0,I J 0,I J 0]])):=((aC.trans K).bE _).cE (.inr (bj _)) _;have i:∀k,k<q.next->k≠H0.next->((q.push (.row U 11 [cs,d])).set H0.next (.row U 11 [[I J 6,I J 0,Z [],Z [],I J 0,.aB q.next 0 2 11 (D 2),I J (al T s.at_).pos,I J 0,I J 0,I J 0,I J 0]])).get k=q.get k:=λk bp bq=>by
     rw[ad.get_set_other af,ad.dw af]
    refine vq av x R F n m af af _ _ _ (bG.cells {kind:=6,pos:=(al T s.at_).pos} (.aB q.next 0 2 11 (D 2))) o bB ?_ ?_ S (ad.get_set_same (by simp only[ad.bX];omega)) ?_ a s' g2
    ·have:=bw.rd;unfold bH at this ⊢;rw[i r af af];exact this
    ·rw[i _ af af];exact a3
    ·rw[hc];have bn:=a7.mut K (by rintro⟨h,_⟩;exact R h) λ_ h=>h
     have bZ:=ad.aS ah;have bO:=m8.1;have bP:=m9.1;refine⟨_,rfl,cg.x5 (ro:=false) ?_ ⟨F _ af,af,af⟩ (bn.a1 (λl ro els w u=>⟨w,by rw[i l (ad.aS u) w.2.1];exact u⟩) e _) (Q.a1 (λl ro els w u=> ?_) an _)⟩
     ·rw[ad.get_set_other af];exact ad.bI _ _
     ·unfold bk at w;have a8:=m12.get (aE.get u) af;exact⟨⟨F _ af,af,af⟩,by rw[i l (ad.aS a8) af];exact a8⟩
  cases M:aY T s [46]with
  |true=>
   simp only[M,aW]at h;simp-implicitDefEqProofs(disch:=try exact aj)only[jI,k9,iJ,iK,iL,iM,iN,ir,reduceAdd,reduceLeDiff,reduceIte,aw];exact go H1 z (by rw[M];exact h)
  |false=>
   simp only[M,aR]at h;simp-implicitDefEqProofs(disch:=try exact aj)only[jI,k9,iJ,iK,iL,iM,iN,ir,reduceAdd,reduceLeDiff,reduceIte,aw];refine iA (du (j.aM z) (G.bJ.aM z) [91] (by simp)) ?_;rintro _ aL ⟨rfl,aH⟩;refine⟨aH.1,?_⟩;cases aQ:aY T s [91]with
   |true=>
    simp only[aQ,aW]at h;simp-implicitDefEqProofs(disch:=try exact aj)only[jI,k9,iJ,iK,iL,iM,iN,ir,reduceAdd,reduceLeDiff,reduceIte,aw];exact go aL (z.trans aH) (by rw[M];exact h)
   |false=>
    simp only[aQ,aR,aV]at h;simp-implicitDefEqProofs(disch:=try exact aj)only[jI,k9,iJ,iK,iL,iM,iN,ir,reduceAdd,reduceLeDiff,reduceIte,aw];exact fin aL (z.trans aH) h.symm
def Iy{n:Nat}(u:∀k,k<=n->jQ k):uS (n+1):=by
 intro ok H r T ao s e v d he p o i s' h;refine cF (λ_=>MQ (n+2)) ?_;obtain⟨cs,rfl,hlen,q⟩:=he.cells;have j:∀l,dO l (.agg cs)=D (.ptr l 0 0,.row U 11 [cs]):=λl=>by rw[hk l cs q,hlen]
 simp-implicitDefEqProofs(disch:=try exact aj)only[ir,iN,iM,reduceAdd,reduceLeDiff,reduceIte,aw,j];have c:=(aO.push H (.row U 11 [cs])).bE (.row U 11 [[I J 0,I J 0,Z [],Z [],I J 0,.ar,I J 0,I J 0,I J 0,I J 0,I J 0]]);refine vq (N:=n+2) (B:=n+1) (λk w=>u k af) d p o (n+1) (n+2) af af _ s e cs [I J 0,I J 0,Z [],Z [],I J 0,.ar,I J 0,I J 0,I J 0,I J 0,I J 0] (c.mut _) (d.rd.aM c) ?_ rfl ?_ ?_ i s' h
 ·simp-implicitDefEqProofs(disch:=try exact aj)only[dE]
 ·simp-implicitDefEqProofs(disch:=try exact aj)only[dE]
 ·exact he.a1 (λl ro els m a=>⟨⟨m,by have:=ad.aS a;omega,by have:=ad.aS a;omega⟩,c.get a⟩) e _
def Cq{T:List Tok}{s:au}{x:aC}(h:aY T s x=X)(a:x≠[]):(al T s.at_).text≠[]:=by
 simp only[aY,ck,Bool.and_eq_true,beq_iff_eq]at h;rw[h.2.2];exact a
def Fq{n:Nat}(K:jQ n){H0 H:ad}{r:Nat}{T:List Tok}{ao:aa}{s:au}(c:bQ H0 r T ao s)(i:aO H0 H)(o:H.get H0.next=D (.row U 11 [[I J 0,I J 0,Z [],Z [],I J 0,.ar,I J 0,I J 0,I J 0,I J 0,I J 0]])){b:Nat}(M:H0.next<b)(d:H.get b=D (.row U 4 [[I J (al T s.at_).kind,Z (al T s.at_).text,I J (al T s.at_).n,I J (al T s.at_).pos]]))(A:(al T s.at_).text≠[]){k:Int}
  {j:aA} {s':au} (h:gN T (n+1) k s=D (j,s')):W (l1 (aD P ay) (.ptr r 0 0) (.ptr H0.next 0 0) (.ptr b 0 0) (I J k) H) (dM H0 r T ao j s'):=by
 have N:=c.rd.lt;have B:=c.bJ.one;have F:=c.aM i;have hle:=i.1;have Q:=ad.aS d;have V:=ad.aS o;simp only[gN,cZ]at h;obtain⟨⟨an,s1⟩,z,m⟩:=h;simp only[aV,b4]at m;obtain⟨rfl,rfl⟩:=m;simp-implicitDefEqProofs(disch:=try exact aj)only[l1,jl,iI,reduceAdd,reduceLeDiff,reduceIte,aw,d];refine aP (pY F _ A) ?_;rintro _ H1 ⟨rfl,m1,G⟩;refine⟨m1.1,?_⟩;simp-implicitDefEqProofs(disch:=try exact aj)only[l1,jl,iI,reduceAdd,reduceLeDiff,reduceIte,aw];refine aP (K G 5 af an s1 z) ?_;rintro v y ⟨m2,x,q⟩;refine⟨m2.1,?_⟩;have ae:=m1.1;have ag:=m2.1;have m12:=m1.trans m2;have p:=m12.get o af;have w:=m12.get d af;have O:=ad.aS p
 have R:=ad.aS w;obtain⟨cs,rfl,hlen,u⟩:=q.cells;have E:List.take 11 cs=cs:=List.take_of_length_le af;have ax:∀l,b5 P l 41 1 [(0,.agg cs)]=D (.aB l 0 1 11 (D 1),.row U 11 [cs]):=λl=>jM l cs hlen u
 have e:=x.rd;unfold bH at e;have ab:=x.rd.lt;have L:=(i.mut (· =r)).trans m12;simp-implicitDefEqProofs(disch:=try exact aj)only[l1,jl,iI,reduceAdd,reduceLeDiff,reduceIte,aw,hlen,u,List.append_nil,E,ax,e,B,p,w];refine ba.2 ?_;refine kz.fin (ok:=bk H0.next) (a:={kind:=k,pos:=(al T s.at_).pos}) (kv:= .aB (y.next+1) 0 1 11 (D 1)) (s':=eh s1) c ?_ ?_ (cg.n5 (ro:=false) ?_ (by unfold bk;omega) (q.new ?_ λl h=>by unfold bk;omega))
 ·(repeat (first|exact L|refine c0.bE ?_ _|refine c0.cE (S:=(· =r)) ?_ (.inl rfl) _|refine c0.cE ?_ (.inr (by(first|omega|(simp only[ad.bX,ad.ds];omega)))) _))
 ·(unfold bH;simp-implicitDefEqProofs(disch:=try exact aj)only[dE,e,aF,eh,eN])
 ·simp-implicitDefEqProofs(disch:=try exact aj)only[dE]
 ·exact c0.cE (S:=λl=>l<_) ((c0.cE (S:=λl=>l<_) ((c0.refl _ _).bE _) (.inl af) _).bE _) (.inl af) _
def PL{n:Nat}(E:∀k,k<=n->jQ k)(aa:uU n)(W:uS n):u5 (n+1):=by
 intro H r T ao s a e s' h;refine cF (λ_=>MJ 0) ?_;have ai:=a.rd.lt;simp only[fl]at h;have u:=aO.push H (.row U 11 [[I J 0,I J 0,Z [],Z [],I J 0,.ar,I J 0,I J 0,I J 0,I J 0,I J 0]]);simp-implicitDefEqProofs(disch:=try exact aj)only[iI,jl,reduceAdd,reduceLeDiff,reduceIte,aw];refine aP (hY (a.rd.aM u) (a.bJ.aM u)) ?_;rintro _ G ⟨rfl,x⟩;refine⟨x.1,?_⟩;have K:=x.get (ad.bI H _);have ak:=ad.aS K;simp-implicitDefEqProofs(disch:=try exact aj)only[jl,iI,reduceAdd,reduceLeDiff,reduceIte,aw,Tok.v];have F:=x.bE (.row U 4 [[I J (al T s.at_).kind,Z (al T s.at_).text,I J (al T s.at_).n,I J (al T s.at_).pos]])
 have P:=ad.bI G (.row U 4 [[I J (al T s.at_).kind,Z (al T s.at_).text,I J (al T s.at_).n,I J (al T s.at_).pos]]);have w:=u.trans F;refine aP (du (a.rd.aM w) (a.bJ.aM w) [45] (by simp)) ?_;rintro _ ab ⟨rfl,i⟩;refine⟨i.1,?_⟩;have c:=w.trans i;have B:=i.get P;have y:=(F.trans i).get (ad.bI H _);cases m:aY T s [45]with
 |true=>
  simp only[m,aW]at h;have q:(al T s.at_).text≠[]:=Cq m (by simp);simp-implicitDefEqProofs(disch:=try exact aj)only[jl,iI,reduceAdd,reduceLeDiff,reduceIte,aw];cases n with
  |zero=>simp[gN]at h
  |succ n=>exact Fq (E n af) a c y af B q h
 |false=>
  simp only[m,aR]at h;simp-implicitDefEqProofs(disch:=try exact aj)only[jl,iI,reduceAdd,reduceLeDiff,reduceIte,aw];refine aP (du (a.rd.aM c) (a.bJ.aM c) [33] (by simp)) ?_;rintro _ ae ⟨rfl,j⟩;refine⟨j.1,?_⟩;have d:=c.trans j;have Q:=j.get B;have p:=j.get y;cases o:aY T s [33]with
  |true=>
   simp only[o,aW]at h;have q:(al T s.at_).text≠[]:=Cq o (by simp);simp-implicitDefEqProofs(disch:=try exact aj)only[jl,iI,reduceAdd,reduceLeDiff,reduceIte,aw];cases n with
   |zero=>simp[gN]at h
   |succ n=>exact Fq (E n af) a d p af Q q h
  |false=>
   simp only[o,aR,cZ]at h;obtain⟨⟨an,s1⟩,g1,g2⟩:=h;simp-implicitDefEqProofs(disch:=try exact aj)only[jl,iI,reduceAdd,reduceLeDiff,reduceIte,aw];refine aP (aa (a.aM d) an s1 g1) ?_;rintro v ag ⟨m6,S,M⟩;refine⟨m6.1,?_⟩;have au:=d.1;have aq:=m6.1;have L:=m6.get p af;simp-implicitDefEqProofs(disch:=try exact aj)only[jl,iI,reduceAdd,reduceLeDiff,reduceIte,aw];have am:=ad.aS p;refine aP (W (ok:=bk (H.next+1)) S (M.a1 (c9.aM (aO.refl _) λl N=>by unfold bk at*;omega) an _) (by unfold bk;omega) (λl N=>by unfold bk;omega) e s' g2) ?_;rintro v ah ⟨m7,V,A⟩;refine⟨m7.1,?_⟩;have z:=m7.get L af;have ap:=ad.aS z
   obtain⟨cs,rfl,hlen,O⟩:=A.cells;have R:List.take 11 cs=cs:=List.take_of_length_le af;simp-implicitDefEqProofs(disch:=try exact aj)only[jl,iI,reduceAdd,reduceLeDiff,reduceIte,aw,z,hlen,O,List.append_nil,R];exact ba.2 (dM.ret a (((d.mut _).trans m6).trans m7) V.rd (bj _) A (Nat.lt_succ_self _) _)
def Ag{N:Nat}{H0 H:ad}{r:Nat}{T:List Tok}{ao:aa}{s0 s:au}(j:bQ H0 r T ao s0)(p:cb r H0 H)(i:bH H r ao s){b3:Nat}{cs a:List aa}{e:aA}(c:H.get H0.next=D (.row U 11 [a]))(y:a.length=11)(d:H.get b3=D (.row U 11 [cs]))(u:H0.next<b3)
  (he:cw H (λl=>H0.next<l/\l≠b3) e (.agg cs)):W (oy (aD P ay) N (.ptr H0.next 0 0) (.ptr b3 0 0) H) (dM H0 r T ao e s):=by
 have v:=j.rd.lt;have w:=ad.aS c;have x:=ad.aS d;obtain⟨q,k,hlen,n⟩:=he.cells;cases k;have o:List.take 11 cs=cs:=List.take_of_length_le af;have m:List.drop 11 a=[]:=List.drop_of_length_le af;simp-implicitDefEqProofs(disch:=try exact aj)only[oy,iH,r2,ik,il,im,ih,reduceAdd,reduceLeDiff,reduceIte,aw,c,d,hlen,n,List.append_nil,o,m];have m':=p.cE (.inr (bj _)) (.row U 11 [cs]);refine ba.2 ⟨m',j.mut m' ?_,he.a1 (c9.set _ af λl h=>by unfold bk;omega) e _⟩;unfold bH at i ⊢;rw[ad.get_set_other af];exact i
def Ah{N B:Nat}(aI:∀k,k<B->jQ k){H0:ad}{r:Nat}{T:List Tok}{ao:aa}{s0:au}(o:bQ H0 r T ao s0){lev:Nat}(S:lev<5){b3:Nat}(F:H0.next<b3):
  ∀(n m:Nat),n<=B->n<m->∀(H:ad) (s:au) (e:aA) (cs x:List aa),cb r H0 H->bH H r ao s->H.get H0.next=D (.row U 11 [x])->x.length=11->H.get b3=D (.row U 11 [cs])->
   cw H (λl=>H0.next<l/\l≠b3) e (.agg cs)->∀(p:aA) (s':au),e_ T n lev e s=D (p,s')->
   W (oz (aD P ay) N m (.ptr r 0 0) (I J lev) (.ptr H0.next 0 0) (.ptr b3 0 0) H) (dM H0 r T ao p s')
 |0,m,ah,hm,H,s,e,cs,x,u,c,y,A,q,he,p,s',h=>by simp[e_]at h
 |n+1,0,ah,hm,H,s,e,cs,x,u,c,y,A,q,he,p,s',h=>af
 |n+1,m+1,ah,hm,H,s,e,cs,x,u,c,y,A,q,he,p,s',h=>by
  have bp:=o.rd.lt;have aH:=o.mut u c;have br:=ad.aS q;obtain⟨bn,aY,hlen,a6⟩:=he.cells;cases aY;have bd:List.take 11 cs=cs:=List.take_of_length_le af;have aZ:List.drop 11 cs=[]:=List.drop_of_length_le af;have a5:=o.bJ.one;simp only[e_]at h;simp only[oz];rw[r2];refine aP (kf c) ?_;rintro _ H1 ⟨rfl,rfl⟩;refine⟨bj _,?_⟩;cases ap:s.aG==0 with
  |false=>
   simp only[ap,Bool.false_and,aR,aV,b4]at h;obtain⟨rfl,rfl⟩:=h;simp-implicitDefEqProofs(disch:=try exact aj)only[iH,ik,il,im,ih,reduceAdd,reduceLeDiff,reduceIte,aw];exact Ag o u c y A q F he
  |true=>
   simp only[ap,Bool.true_and]at h;simp-implicitDefEqProofs(disch:=try exact aj)only[iH,ik,il,im,ih,reduceAdd,reduceLeDiff,reduceIte,aw];refine iA (hY c aH.bJ) ?_;rintro _ H1 ⟨rfl,aK⟩;refine⟨aK.1,?_⟩;simp-implicitDefEqProofs(disch:=try exact aj)only[iH,ik,il,im,ih,reduceAdd,reduceLeDiff,reduceIte,aw];refine iA (CX lev S (al T s.at_)) ?_;rintro _ bm ⟨rfl,aL⟩;refine⟨aL.1,?_⟩;have d:=aK.trans aL;cases z:dW lev (al T s.at_) != 0 with
   |false=>
    simp only[z,aR,aV,b4]at h;obtain⟨rfl,rfl⟩:=h;simp-implicitDefEqProofs(disch:=try exact aj)only[iH,ik,il,im,ih,reduceAdd,reduceLeDiff,reduceIte,aw,z];exact Ag o (u.trans (d.mut _)) (c.aM d) (d.get y) A (d.get q) F (he.a1 (c9.aM d λ_ h=>h) e _)
   |true=>
    simp only[z,aW,cZ]at h;obtain⟨⟨an,s1⟩,aQ,aT⟩:=h;simp-implicitDefEqProofs(disch:=try exact aj)only[iH,ik,il,im,ih,reduceAdd,reduceLeDiff,reduceIte,aw,z];refine aP (hY (c.aM d) (aH.bJ.aM d)) ?_;rintro _ aN ⟨rfl,ab⟩;refine⟨ab.1,?_⟩;have w:=(d.trans ab).bE (.row U 4 [[I J (al T s.at_).kind,Z (al T s.at_).text,I J (al T s.at_).n,I J (al T s.at_).pos]]);have a7:=ad.bI aN (.row U 4 [[I J (al T s.at_).kind,Z (al T s.at_).text,I J (al T s.at_).n,I J (al T s.at_).pos]]);have O:=c.aM (d.trans ab);have bc:=c.aM w;have aE:=O;unfold bH at aE;have bx:=O.lt
    obtain⟨m6,a0⟩:=e7 bc (aF s);have hw:IntKind.i64.wrap ((lev:Int)+1)=((lev+1:Nat):Int):=by rw[wrap_i64 af af];simp
    simp-implicitDefEqProofs(disch:=try exact aj)only[iH,ik,il,im,ih,reduceAdd,reduceLeDiff,reduceIte,aw,Tok.v,aE,a5,hw];have aJ:=(u.trans (w.mut _)).trans m6;have bf:=o.mut aJ a0;refine aP (aI n af bf (lev+1) af an s1 aQ) ?_;rintro v Q ⟨m7,bg,G⟩;refine⟨m7.1,?_⟩;have aU:=m6.get (w.get q) af;have R:=m7.get aU af;have bs:=ad.aS R;have a8:=m6.get a7 (by have:=ad.aS O;omega);have M:=m7.get a8 (by have:=ad.aS O;omega);have bv:=ad.aS M;have a4:=m7.1;have a3:=w.1;simp only[ad.ds,ad.bX]at a4 a3 G;obtain⟨a,rfl,av,az⟩:=G.cells;have be:List.take 11 a=a:=List.take_of_length_le af;simp-implicitDefEqProofs(disch:=try exact aj)only[iH,ik,il,im,ih,reduceAdd,reduceLeDiff,reduceIte,aw,av,az,List.append_nil,M]
    have ae:=aO.push Q (.row U 11 [a]);refine aP (CX (H:=Q.push (.row U 11 [a])) lev S (al T s.at_)) ?_;rintro _ i ⟨rfl,ag⟩;refine⟨ag.1,?_⟩;have j:=ae.trans ag;have am:=ag.get (ad.bI Q (.row U 11 [a]));have ak:=j.get R;have aC:=j.get M;have bA:=ad.aS am;have bt:=ad.aS ak;have bw:=ad.aS aC;have ax:∀l,b5 P l 41 2 [(0,.agg cs),(1,.agg a)]=D (.aB l 0 2 11 (D 2),.row U 11 [cs,a]):=λl=>xL l cs a hlen a6 av az
    have a_:=he.same;have ba:=G.same;have bb:bl (D (.agg [I J (al T s.at_).kind,Z (al T s.at_).text,I J (al T s.at_).n,I J (al T s.at_).pos])) (.agg [I J (al T s.at_).kind,Z (al T s.at_).text,I J (al T s.at_).n,I J (al T s.at_).pos])=true:=by simp[bl,aa.beq,fV.beq]
    have aX:=ae.get R;have a9:=ae.get M;simp-implicitDefEqProofs(disch:=try exact aj)only[ik,il,im,ih,reduceAdd,reduceLeDiff,reduceIte,aw,ak,am,aC,bd,be,aZ,ax,a_,ba,bb,aX,a9,Bool.and_true,Bool.and_self];rw[iH];have bi:=((aJ.trans m7).trans (j.mut _));have bh:cb r H0 ((i.push (.row U 11 [cs,a])).set b3 (.row U 11 [[I J (dW lev (al T s.at_)),I J 0,Z [],Z [],I J 0,.aB i.next 0 2 11 (D 2),I J (al T s.at_).pos,I J 0,I J 0,I J 0,I J 0]])):=(bi.bE _).cE (.inr (Nat.le_of_lt F)) _;have E:∀k,k<i.next->k≠b3->((i.push (.row U 11 [cs,a])).set b3 (.row U 11 [[I J (dW lev (al T s.at_)),I J 0,Z [],Z [],I J 0,.aB i.next 0 2 11 (D 2),I J (al T s.at_).pos,I J 0,I J 0,I J 0,I J 0]])).get k=i.get k:=λk z bo=>by
     rw[ad.get_set_other af,ad.dw af]
    have ai:=j.get (m7.get (m6.get (w.get y) af) af);have bq:=ad.aS ai;have V:=bg.rd.aM j;have bu:=V.lt;have bz:=j.1;refine Ah aI o S F n m af af _ s1 _ (bG.cells {kind:=dW lev (al T s.at_),pos:=(al T s.at_).pos} (.aB i.next 0 2 11 (D 2))) x bh ?_ ?_ A (ad.get_set_same (by simp only[ad.bX];omega)) ?_ p s' aT
    ·unfold bH at V ⊢;rw[E r af af];exact V
    ·rw[E _ af af];exact ai
    ·rw[hc];have a2:cw i (λl=>H0.next<l/\l≠b3) e (.agg cs):=he.mut (((w.mut _).trans m6).trans m7|>.trans (j.mut _)) af λ_ h=>h
     refine⟨_,rfl,cg.x5 (ro:=false) ?_ ⟨af,af⟩ (a2.a1 (λl ro els L K=>⟨L,by rw[E l (ad.aS K) L.2];exact K⟩) e _) (G.a1 (λl ro els L K=> ?_) an _)⟩
     ·rw[ad.get_set_other af];exact ad.bI _ _
     ·unfold bk at L;have aq:=j.get K;exact⟨⟨af,af⟩,by rw[E l (ad.aS aq) af];exact aq⟩
def I_{n:Nat}(y:∀k,k<=n->jQ k)(G:u5 n):jQ (n+1):=by
 intro H r T ao s c lev hle e s' h;refine cF (λ_=>Mn (n+2)) ?_;have L:=c.rd.lt;have i:=aO.push H (.row U 11 [[I J 0,I J 0,Z [],Z [],I J 0,.ar,I J 0,I J 0,I J 0,I J 0,I J 0]]);simp only[dd]at h;by_cases u:lev=5
 ·rw[if_pos u]at h;have o:((lev:Int)==5)=true:=by simp;omega
  simp-implicitDefEqProofs(disch:=try exact aj)only[iH,ik,il,im,ih,reduceAdd,reduceLeDiff,reduceIte,aw,o];refine aP (G (c.aM i) e s' h) ?_;rintro v m ⟨m2,q,a⟩;refine⟨m2.1,?_⟩;have d:=m2.get (ad.bI H (.row U 11 [[I J 0,I J 0,Z [],Z [],I J 0,.ar,I J 0,I J 0,I J 0,I J 0,I J 0]])) af;have M:=ad.aS d;obtain⟨cs,rfl,hlen,p⟩:=a.cells;have F:List.take 11 cs=cs:=List.take_of_length_le af;simp-implicitDefEqProofs(disch:=try exact aj)only[iH,ik,il,im,ih,reduceAdd,reduceLeDiff,reduceIte,aw,d,hlen,p,List.append_nil,F];exact ba.2 (dM.ret c ((i.mut _).trans m2) q.rd (bj _) a (Nat.lt_succ_self _) _)
 ·rw[if_neg u,cZ]at h;obtain⟨⟨an,s1⟩,z,A⟩:=h;have o:((lev:Int)==5)=false:=by simp;omega
  have hw:IntKind.i64.wrap ((lev:Int)+1)=((lev+1:Nat):Int):=by rw[wrap_i64 af af];simp
  simp-implicitDefEqProofs(disch:=try exact aj)only[iH,ik,il,im,ih,reduceAdd,reduceLeDiff,reduceIte,aw,o,hw];refine aP (y n (bj _) (c.aM i) (lev+1) af an s1 z) ?_;rintro v m ⟨m2,q,a⟩;refine⟨m2.1,?_⟩;have d:=m2.get (ad.bI H (.row U 11 [[I J 0,I J 0,Z [],Z [],I J 0,.ar,I J 0,I J 0,I J 0,I J 0,I J 0]])) af;have E:=m2.1;simp only[ad.bX]at E;obtain⟨cs,rfl,hlen,p⟩:=a.cells;simp-implicitDefEqProofs(disch:=try exact aj)only[im,il,ik,reduceAdd,reduceLeDiff,reduceIte,aw,hlen,p,List.append_nil];have j:=aO.push m (.row U 11 [cs]);refine Ah (N:=n+2) (B:=n) (λk K=>y k af) c af (b3:=m.next) af n (n+2) af af _ s1 an cs _ (((i.mut _).trans m2).trans (j.mut _)) (q.rd.aM j) (j.get d) rfl (ad.bI _ _) ?_ e s' A
  exact a.a1 (λl ro els x w=>by
   have:=ad.aS w;unfold bk at x;simp only[ad.bX]at x;exact⟨⟨af,af⟩,j.get w⟩) an _
