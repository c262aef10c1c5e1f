/-
  Texts of one proof, laid together: Y1 Y2 Y3 Y4 Y5 Y6 Y7.
-/
import Derived.Test.YtghmbpmaafnodaaDoorMJ
set_option linter.unusedVariables false
set_option linter.unusedSimpArgs false
set_option linter.defProp false
open Option renaming some→D,none→Z
open Bool renaming true→X,false→U
open Go.b9.aa renaming int→I,str→Y,bool→C
open Go.IntKind renaming i64→J
namespace Go.Proofs.YtghmbpmaafnodaaDoor
open Go.b9
open Nat (reduceAdd reduceLeDiff)
def bt(H:ad)(r:Nat)(ak:aa)(s:aq):Prop:=H.get r=D (.row U 5 [[ak,I J s.at_,I J s.bO,I J s.aD,I J s.cO]])
structure bG(H:ad)(r:Nat)(T:List Tok)(ak:aa)(s:aq):Prop where
 rd:bt H r ak s
 bu:eC H ak T
def bt.aK{H H':ad}{r:Nat}{ak:aa}{s:aq}(a:bt H r ak s)(p:aM H H'):bt H' r ak s:=p.get a
def bt.lt{H:ad}{r:Nat}{ak:aa}{s:aq}(a:bt H r ak s):r<H.next:=ad.aR a
def bG.mut{H H':ad}{r:Nat}{T:List Tok}{ak:aa}{s s':aq}(h:bG H r T ak s)(m:b2 r H H')(a:bt H' r ak s'):bG H' r T ak s':=
 ⟨a,h.bu.aY λl ro els e=>m.get e (by
  rintro rfl;rw[h.rd]at e;simp only[aS,bN.row.injEq]at e;omega)⟩
def bG.aK{H H':ad}{r:Nat}{T:List Tok}{ak:aa}{s:aq}(h:bG H r T ak s)(p:aM H H'):bG H' r T ak s:=h.mut (p.mut _) (h.rd.aK p)
def eP{H:ad}{r:Nat}{ak:aa}{s:aq}(a:bt H r ak s)(s':aq):b2 r H (H.set r (.row U 5 [[ak,I J s'.at_,I J s'.bO,I J s'.aD,I J s'.cO]]))/\bt (H.set r (.row U 5 [[ak,I J s'.at_,I J s'.bO,I J s'.aD,I J s'.cO]])) r ak s':=
 ⟨cX.cz (S:=(· =r)) (cX.refl _ _) (.inl rfl) _,ad.get_set_same a.lt⟩
def hD{H:ad}{r:Nat}{ak:aa}{s:aq}{T:List Tok}(d:bt H r ak s)(n:eC H ak T):W (aA P aw 22 [.ptr r 0 0] H) λv H'=>v=(ao T s.at_).v/\aM H H':=by
 unfold bt at d;have o:=ad.aR d;refine cA (λ_=>J_ 0) ?_;by_cases a:s.at_<0
 ·simp-implicitDefEqProofs(disch:=try exact aj)only[ni,bd,br,Nat.reduceAdd,Nat.reduceLeDiff,reduceIte,aa.cells,cK,dA,al,cD,aT,cD,c7,dw,oe,og,d,a,decide_true,a_];exact⟨by simp[ao,a,Tok.v,Tok.none],aM.push _ _⟩
 ·rcases n with⟨rfl,rfl⟩|⟨l,i,cap,rfl,k⟩
  ·have c:(0:Int)<=s.at_:=af;simp-implicitDefEqProofs(disch:=try exact aj)only[ni,bd,br,Nat.reduceAdd,Nat.reduceLeDiff,reduceIte,aa.cells,cK,dA,al,cD,aT,cD,c7,dw,oe,og,d,a,c,decide_true,decide_false,a_,rY];exact⟨by simp[ao,a,Tok.v,Tok.none,c],aM.push _ _⟩
  ·by_cases c:(T.length:Int)<=s.at_
   ·simp-implicitDefEqProofs(disch:=try exact aj)only[ni,bd,br,Nat.reduceAdd,Nat.reduceLeDiff,reduceIte,aa.cells,cK,dA,al,cD,aT,cD,c7,dw,oe,og,d,a,c,decide_true,decide_false,a_,qn];exact⟨by simp[ao,a,Tok.v,Tok.none,c],aM.push _ _⟩
   ·have e:s.at_.toNat<T.length:=af;obtain⟨ro,els,h,m⟩:=k.resolve_left (by rintro rfl;simp at e);have p:=ad.aR h;have j:=m s.at_.toNat T[s.at_.toNat] (by simp[e]);simp only[Tok.cells]at j;simp-implicitDefEqProofs(disch:=try exact aj)only[ni,bd,br,Nat.reduceAdd,Nat.reduceLeDiff,reduceIte,aa.cells,cK,dA,al,cD,aT,cD,c7,dw,oe,og,d,a,c,decide_true,decide_false,a_,qn,uN,h,j];refine⟨?_,aM.push _ _⟩;simp[ao,a,c,Tok.v,e]
def jN{H:ad}{r:Nat}{ak:aa}{s:aq}(a:bt H r ak s):W (aA P aw 21 [.ptr r 0 0] H) λv H'=>v= C (s.aD==0)/\H'=H:=by
 unfold bt at a;refine cA (λ_=>J9 0) ?_;simp-implicitDefEqProofs(disch:=try exact aj)only[sv,reduceAdd,reduceLeDiff,reduceIte,av,a];exact a_.2 ⟨rfl,rfl⟩
def jM{H:ad}{r:Nat}{T:List Tok}{ak:aa}{s:aq}(a:bG H r T ak s)(e:Int):W (aA P aw 24 [.ptr r 0 0,I J e] H) λv H'=>v= .tuple []/\b2 r H H'/\bG H' r T ak (cE T e s):=by
 refine cA (λ_=>Kb 0) ?_;have h:=a.rd;have o:=a.bu.one;rw[nk];refine aL (jN h) ?_;rintro _ H1 ⟨rfl,rfl⟩;refine⟨bf _,?_⟩;by_cases c:s.aD=0
 ·rw[show cE T e s={s with aD:=e,cO:=(ao T s.at_).pos} by simp[cE,c]];simp-implicitDefEqProofs(disch:=try exact aj)only[nk,bd,br,c,beq_self_eq_true];refine aL (hD h a.bu) ?_;rintro _ k ⟨rfl,d⟩;refine⟨d.1,?_⟩;have i:bt k r ak s:=h.aK d;have j:=i;unfold bt at j;simp-implicitDefEqProofs(disch:=try exact aj)only[nk,reduceAdd,reduceLeDiff,reduceIte,av,Tok.v,j,o];obtain⟨m,n⟩:=eP i {s with aD:=e,cO:=(ao T s.at_).pos};exact a_.2 ⟨rfl,(d.mut _).trans m,a.mut ((d.mut _).trans m) n⟩
 ·have l:(s.aD==0)=false:=by simpa using c
  rw[show cE T e s=s by simp[cE,c]];simp-implicitDefEqProofs(disch:=try exact aj)only[nk,bd,br,l];exact a_.2 ⟨rfl,cX.refl _ _,a⟩
def uR(s:aB)(c:UInt8):eE P 9 (Y (c::s)) (I J 0)=D (I .u8 c.toNat):=ah
def vN{H0 H:ad}{r:Nat}{T:List Tok}{ak:aa}{s:aq}(p:aM H0 H)(i:bt H r ak s){b:Nat}(d:H.get b=D (.row U 4 [[I J (ao T s.at_).kind,Y (ao T s.at_).text,I J (ao T s.at_).n,I J (ao T s.at_).pos]]))(x:aB)(k:Int):
  W (nj (aA P aw) (.ptr r 0 0) (Y x) (.ptr b 0 0) (I J k) H) λv H'=>v= C (b8 T s k x)/\aM H0 H':=by
 rw[nj];refine aL (jN i) ?_;rintro _ H1 ⟨rfl,rfl⟩;refine⟨bf _,?_⟩;by_cases a:s.aD=0
 ·by_cases c:(ao T s.at_).kind=k
  ·simp-implicitDefEqProofs(disch:=try exact aj)only[kk,reduceAdd,reduceLeDiff,reduceIte,av,a,c,d,beq_self_eq_true];exact a_.2 ⟨by simp[b8,a,c],p⟩
  ·have h:((ao T s.at_).kind==k)=false:=by simpa using c
   simp-implicitDefEqProofs(disch:=try exact aj)only[kk,reduceAdd,reduceLeDiff,reduceIte,av,a,h,d,beq_self_eq_true];exact a_.2 ⟨by simp[b8,a,c],p⟩
 ·have e:(s.aD==0)=false:=by simpa using a
  simp-implicitDefEqProofs(disch:=try exact aj)only[kk,reduceAdd,reduceLeDiff,reduceIte,av,e,d];exact a_.2 ⟨by simp[b8,a],p⟩
def dk{H:ad}{r:Nat}{T:List Tok}{ak:aa}{s:aq}(e:bt H r ak s)(m:eC H ak T)(x:aB)(o:x≠[]):W (aA P aw 23 [.ptr r 0 0,Y x] H) λv H'=>v= C (aW T s x)/\aM H H':=by
 refine cA (λ_=>Ka 0) ?_;obtain⟨c,x,rfl⟩:∃c y,x=c::y:=by cases x with
  |nil=>exact absurd rfl o
  |cons c y=>exact⟨c,y,rfl⟩
 rw[kk];refine aL (hD e m) ?_;rintro _ H1 ⟨rfl,l⟩;refine⟨l.1,?_⟩;have a:=l.bs (.row U 4 [[I J (ao T s.at_).kind,Y (ao T s.at_).text,I J (ao T s.at_).n,I J (ao T s.at_).pos]]);have j:=ad.bx H1 (.row U 4 [[I J (ao T s.at_).kind,Y (ao T s.at_).text,I J (ao T s.at_).n,I J (ao T s.at_).pos]]);by_cases h:97<=c.toNat
 ·have d:(97:Int)<=(c.toNat:Int):=af;by_cases k:c.toNat<=122
  ·have i:(c.toNat:Int)<=122:=af;rw[show aW T s (c::x)=b8 T s 3 (c::x) by simp[aW,kw,h,k]];simp-implicitDefEqProofs(disch:=try exact aj)only[kk,reduceAdd,reduceLeDiff,reduceIte,av,Tok.v,uR,d,i,decide_true];exact vN a (e.aK a) j _ 3
  ·have i:¬(c.toNat:Int)<=122:=af;rw[show aW T s (c::x)=b8 T s 4 (c::x) by simp[aW,kw,h,k]];simp-implicitDefEqProofs(disch:=try exact aj)only[kk,reduceAdd,reduceLeDiff,reduceIte,av,Tok.v,uR,d,i,decide_true,decide_false];exact vN a (e.aK a) j _ 4
 ·have d:¬(97:Int)<=(c.toNat:Int):=af;rw[show aW T s (c::x)=b8 T s 4 (c::x) by simp[aW,kw,h]];simp-implicitDefEqProofs(disch:=try exact aj)only[kk,reduceAdd,reduceLeDiff,reduceIte,av,Tok.v,uR,d,decide_false];exact vN a (e.aK a) j _ 4
def gr{H:ad}{r:Nat}{T:List Tok}{ak:aa}{s:aq}(a:bG H r T ak s)(x:aB)(j:x≠[]):W (aA P aw 27 [.ptr r 0 0,Y x] H) λv H'=>v= .tuple []/\b2 r H H'/\bG H' r T ak (bj T x s):=by
 refine cA (λ_=>Ke 0) ?_;have k:=a.bu.one;rw[nm];refine aL (dk a.rd a.bu x j) ?_;rintro _ H1 ⟨rfl,c⟩;refine⟨c.1,?_⟩;have e:=a.rd.aK c;have h:=e;unfold bt at h;cases d:aW T s x with
 |false=>
  rw[show bj T x s=cE T 2 s by simp[bj,d]];simp-implicitDefEqProofs(disch:=try exact aj)only[nm,reduceAdd,reduceLeDiff,reduceIte,av,Bool.not_false];refine aL (jM (a.aK c) 2) ?_;rintro _ n ⟨rfl,m2,l⟩;refine⟨m2.1,?_⟩
  try simp only[nm]
  exact a_.2 ⟨rfl,(c.mut _).trans m2,l⟩
 |true=>
  rw[show bj T x s=aC s by simp[bj,d]];simp-implicitDefEqProofs(disch:=try exact aj)only[nm,reduceAdd,reduceLeDiff,reduceIte,av,h,k,Bool.not_true];obtain⟨m,i⟩:=eP e (aC s);exact a_.2 ⟨rfl,(c.mut _).trans m,a.mut ((c.mut _).trans m) i⟩
def oQ{H:ad}{r:Nat}{T:List Tok}{ak:aa}{s:aq}(a:bG H r T ak s)(x:aB)(k:x≠[]):W (aA P aw 77 [.ptr r 0 0,Y x] H) λv H'=>v= .tuple []/\b2 r H H'/\bG H' r T ak (cP T x s):=by
 refine cA (λ_=>KJ 0) ?_;have q:=a.bu.one;rw[ld];refine aL (dk a.rd a.bu x k) ?_;rintro _ H1 ⟨rfl,c⟩;refine⟨c.1,?_⟩;have i:=a.aK c;have h:=i.rd;unfold bt at h;have more:cP T x s=eU (bj T x s)->W (aG H1 (aA P aw 27 [.ptr r 0 0,Y x] H1) (sT (.ptr r 0 0))) λv H'=>v= .tuple []/\b2 r H H'/\bG H' r T ak (cP T x s):=by
  intro he;rw[he];refine aL (gr i x k) ?_;rintro _ o ⟨rfl,m2,j⟩;refine⟨m2.1,?_⟩;have l:=j.rd;have n:=l;unfold bt at n;simp-implicitDefEqProofs(disch:=try exact aj)only[sT,ld,reduceAdd,reduceLeDiff,reduceIte,av,n,q];obtain⟨m,p⟩:=eP l (eU (bj T x s));exact a_.2 ⟨rfl,((c.mut _).trans m2).trans m,a.mut (((c.mut _).trans m2).trans m) p⟩
 cases e:aW T s x with
 |false=>
  simp-implicitDefEqProofs(disch:=try exact aj)only[ld,reduceAdd,reduceLeDiff,reduceIte,av];exact more (by simp[cP,e])
 |true=>
  by_cases d:50<=s.bO
  ·rw[show cP T x s=cE T 4 s by simp[cP,e,d]];simp-implicitDefEqProofs(disch:=try exact aj)only[ld,reduceAdd,reduceLeDiff,reduceIte,av,h,d,decide_true];refine aL (jM i 4) ?_;rintro _ o ⟨rfl,m2,j⟩;refine⟨m2.1,?_⟩
   try simp only[ld]
   exact a_.2 ⟨rfl,(c.mut _).trans m2,j⟩
  ·simp-implicitDefEqProofs(disch:=try exact aj)only[ld,reduceAdd,reduceLeDiff,reduceIte,av,h,d,decide_false];exact more (by simp[cP,e,d])
def oM{H:ad}{r:Nat}{T:List Tok}{ak:aa}{s:aq}(a:bG H r T ak s)(x:aB)(h:x≠[]):W (aA P aw 79 [.ptr r 0 0,Y x] H) λv H'=>v= .tuple []/\b2 r H H'/\bG H' r T ak (dn T x s):=by
 refine cA (λ_=>KM 0) ?_;have i:=a.bu.one;rw[qV];refine aL (gr a x h) ?_;rintro _ k ⟨rfl,m2,j⟩;refine⟨m2.1,?_⟩;have c:=j.rd;have d:=c;unfold bt at d;simp-implicitDefEqProofs(disch:=try exact aj)only[qV,reduceAdd,reduceLeDiff,reduceIte,av,d,i];obtain⟨m,e⟩:=eP c (er (bj T x s));exact a_.2 ⟨rfl,m2.trans m,a.mut (m2.trans m) e⟩
def lQ{H:ad}{r:Nat}{T:List Tok}{ak:aa}{s:aq}(a:bG H r T ak s):W (aA P aw 55 [.ptr r 0 0] H) λv H'=>v= Y (bp T s).1/\b2 r H H'/\bG H' r T ak (bp T s).2:=by
 refine cA (λ_=>Kv 0) ?_;have q:=a.bu.one;have z:=a.rd.lt;rw[k7];refine aL (hD a.rd a.bu) ?_;rintro _ H1 ⟨rfl,h⟩;refine⟨h.1,?_⟩;have i:=h.bs (.row U 4 [[I J (ao T s.at_).kind,Y (ao T s.at_).text,I J (ao T s.at_).n,I J (ao T s.at_).pos]]);have y:=ad.bx H1 (.row U 4 [[I J (ao T s.at_).kind,Y (ao T s.at_).text,I J (ao T s.at_).n,I J (ao T s.at_).pos]]);simp-implicitDefEqProofs(disch:=try exact aj)only[o9,k7,reduceAdd,reduceLeDiff,reduceIte,av,Tok.v];have k:=a.aK i;refine aL (jN k.rd) ?_;rintro _ w ⟨rfl,rfl⟩;refine⟨bf _,?_⟩;have A:=h.1;have o:=a.rd.aK h
 unfold bt at o;have l:bp T s=([],cE T 2 s)->W (aG (H1.push (.row U 4 [[I J (ao T s.at_).kind,Y (ao T s.at_).text,I J (ao T s.at_).n,I J (ao T s.at_).pos]])) (aA P aw 24 [.ptr r 0 0,I J 2] (H1.push (.row U 4 [[I J (ao T s.at_).kind,Y (ao T s.at_).text,I J (ao T s.at_).n,I J (ao T s.at_).pos]]))) o9) λv H'=>v= Y (bp T s).1/\b2 r H H'/\bG H' r T ak (bp T s).2:=by
  intro he;rw[he];refine aL (jM k 2) ?_;rintro _ x ⟨rfl,m4,u⟩;refine⟨m4.1,?_⟩
  try simp only[o9,k7]
  exact a_.2 ⟨rfl,(i.mut _).trans m4,u⟩
 by_cases c:s.aD=0
 ·by_cases j:(ao T s.at_).kind=1
  ·have d:(s.aD==0)=true:=by simpa using c
   have e:((ao T s.at_).kind==1)=true:=by simpa using j
   rw[show bp T s=((ao T s.at_).text,aC s) by simp[bp,c,j]];simp-implicitDefEqProofs(disch:=try exact aj)only[o9,k7,reduceAdd,reduceLeDiff,reduceIte,av,d,e,o,q];obtain⟨m,p⟩:=eP k.rd (aC s);exact a_.2 ⟨rfl,(i.mut _).trans m,a.mut ((i.mut _).trans m) p⟩
  ·have e:((ao T s.at_).kind==1)=false:=by simpa using j
   simp-implicitDefEqProofs(disch:=try exact aj)only[k7,reduceAdd,reduceLeDiff,reduceIte,av,c,e,beq_self_eq_true];exact l (by simp[bp,e])
 ·have d:(s.aD==0)=false:=by simpa using c
  simp-implicitDefEqProofs(disch:=try exact aj)only[k7,reduceAdd,reduceLeDiff,reduceIte,av,d];exact l (by simp[bp,d])
def MM(l:Nat)(a c dI e0 d:Nat):bU P l 131 5 [(0,.ay a 0 1 1 (D 1)),(1,.ay c 0 1 1 (D 1)),(2,.ay dI 0 4 1 (D 4)),(3,.ay e0 0 2 1 (D 2)),(4,.ay d 0 3 1 (D 3))]=
 D (.ay l 0 5 1 (D 5),.row U 1 [[.ay a 0 1 1 (D 1)],[.ay c 0 1 1 (D 1)],[.ay dI 0 4 1 (D 4)],[.ay e0 0 2 1 (D 2)],[.ay d 0 3 1 (D 3)]]):=ah
def MO(l:Nat)(a c dI e0 d:Nat):bU P l 132 5 [(0,.ay a 0 1 1 (D 1)),(1,.ay c 0 1 1 (D 1)),(2,.ay dI 0 4 1 (D 4)),(3,.ay e0 0 2 1 (D 2)),(4,.ay d 0 3 1 (D 3))]=
 D (.ay l 0 5 1 (D 5),.row U 1 [[.ay a 0 1 1 (D 1)],[.ay c 0 1 1 (D 1)],[.ay dI 0 4 1 (D 4)],[.ay e0 0 2 1 (D 2)],[.ay d 0 3 1 (D 3)]]):=ah
def II{H0 H:ad}(B:aM H0 H){b S K d c:Nat}{t:Tok}(w:H.get b=D (.row U 4 [[I J t.kind,Y t.text,I J t.n,I J t.pos]])){E A:List (List aa)}(i:H.get S=D (.row U 1 E))(F:H.get K=D (.row U 1 A)){lev:Nat}(Q:lev<5)(all:List (aB×Int))(O:all.length<=1000){cs j:Option Nat}
  (az:E[lev]? =D [.ay d 0 all.length 1 cs]) (L:A[lev]? =D [.ay c 0 all.length 1 j]) (u:H.get d=D (.row U 1 (all.map λp=>[aa.str p.1]))) (G:H.get c=D (.row U 1 (all.map λp=>[aa.int J p.2]))) (N:Nat):
  ∀(rest pre:List (aB×Int)),all=pre++rest->∀(n:Nat),rest.length<n->
   W (kx (aA P aw) N n (I J lev) (.ptr b 0 0) (.ay S 0 5 1 (D 5)) (.ay K 0 5 1 (D 5)) (I J pre.length) H) λv H'=>v= I J (ka t.text rest)/\aM H0 H':=by
 have o:(0:Int)<=(lev:Int):=af;have s:(lev:Int)<((5:Nat):Int):=af;have z:((lev:Int)).toNat=lev:=af;have i1:cG P 131 (.ay S 0 5 1 (D 5)) (I J (lev:Int))=D (.ptr S lev 0):=by rw[uL o s,z,Nat.zero_add]
 have i2:cG P 132 (.ay K 0 5 1 (D 5)) (I J (lev:Int))=D (.ptr K lev 0):=by rw[uM o s,z,Nat.zero_add]
 intro rest
 induction rest with
 |nil=>
  intro pre aF n e;obtain⟨n,rfl⟩:∃k,n=k+1:=⟨n-1,by simp at e;omega⟩;have a:¬((pre.length:Int)<(all.length:Int)):=by rw[aF];simp
  simp-implicitDefEqProofs(disch:=try exact aj)only[kx,ku,nD,ma,reduceAdd,reduceLeDiff,reduceIte,av,q3,q4,i1,i,az,a,decide_false];exact a_.2 ⟨rfl,B⟩
 |cons q rest M=>
  intro pre aF n e;obtain⟨x,k⟩:=q;obtain⟨n,rfl⟩:∃k,n=k+1:=⟨n-1,by simp at e;omega⟩;have a:(pre.length:Int)<(all.length:Int):=by rw[aF];simp;omega
  have y:(0:Int)<=(pre.length:Int):=af;have l:((pre.length:Int)).toNat=pre.length:=af;have m:all[pre.length]? =D (x,k):=by rw[aF];simp
  have i3:cG P 50 (.ay d 0 all.length 1 cs) (I J (pre.length:Int))=D (.ptr d pre.length 0):=by rw[uO y a,l,Nat.zero_add]
  have i4:cG P 51 (.ay c 0 all.length 1 j) (I J (pre.length:Int))=D (.ptr c pre.length 0):=by rw[uP y a,l,Nat.zero_add]
  have g1:(all.map λp=>[aa.str p.1])[pre.length]? =D [Y x]:=by rw[List.getElem?_map,m];rfl
  have g2:(all.map λp=>[aa.int J p.2])[pre.length]? =D [I J k]:=by rw[List.getElem?_map,m];rfl
  cases h:x==t.text with
  |true=>
   simp-implicitDefEqProofs(disch:=try exact aj)only[kx,ku,nD,ma,reduceAdd,reduceLeDiff,reduceIte,av,q3,q4,i1,i2,i3,i4,i,F,az,L,u,G,g1,g2,w,a,decide_true,h];exact a_.2 ⟨by simp[ka,h],B⟩
  |false=>
   have hw:IntKind.i64.wrap ((pre.length:Int)+1)=((pre++[(x,k)]).length:Int):=by
    have R:pre.length<all.length:=af;rw[wrap_i64 af af];simp
   simp-implicitDefEqProofs(disch:=try exact aj)only[kx,ku,nD,ma,reduceAdd,reduceLeDiff,reduceIte,av,q3,q4,i1,i3,i,az,u,g1,w,a,decide_true,h,hw];refine(M (pre++[(x,k)]) (by simp[aF]) n (by simp at e;omega)).mono ?_;rintro v H' ⟨rfl,q⟩;exact⟨by simp[ka,h],q⟩
set_option maxHeartbeats 1000000 in
def BB{H:ad}(lev:Nat)(s:lev<5)(t:Tok):W (aA P aw 70 [I J lev,t.v] H) λv H'=>v= I J (ez lev t)/\aM H H':=by
 refine cA (λ_=>KI 10) ?_;have o:∀l,dT l t.v=D (.ptr l 0 0,.row U 4 [[I J t.kind,Y t.text,I J t.n,I J t.pos]]):=λl=>hr l _ rfl
 cases d:t.kind != 4 with
 |true=>
  simp-implicitDefEqProofs(disch:=try exact aj)only[ku,nD,ma,reduceAdd,reduceLeDiff,reduceIte,av,o,d];exact a_.2 ⟨by simp[ez,d],aM.push _ _⟩
 |false=>
  simp-implicitDefEqProofs(disch:=try exact aj)only[ku,ma,reduceAdd,reduceLeDiff,reduceIte,av,o,d,MM,MO];obtain⟨all,c⟩:∃all,jI[lev]? =D all:=⟨jI[lev]'(by simpa [jI]using s),by simp[jI]⟩;have B:all.length<10:=by
   have:∀a∈jI,a.length<10:=b1;exact this all (List.mem_of_getElem? c)
  have key:∀(bI:ad),aM H bI->bI.get H.next=D (.row U 4 [[I J t.kind,Y t.text,I J t.n,I J t.pos]])->∀(S K h e:Nat) (k j:List (List aa)) (cs m:Option Nat),bI.get S=D (.row U 1 k)->bI.get K=D (.row U 1 j)->k[lev]? =D [.ay h 0 all.length 1 cs]->j[lev]? =D [.ay e 0 all.length 1 m]->
    bI.get h=D (.row U 1 (all.map λp=>[aa.str p.1]))->bI.get e=D (.row U 1 (all.map λp=>[aa.int J p.2]))->
    W (kx (aA P aw) 10 10 (I J lev) (.ptr H.next 0 0) (.ay S 0 5 1 (D 5)) (.ay K 0 5 1 (D 5)) (I J 0) bI) λv H'=>v= I J (ez lev t)/\aM H H':=by
   intro bI p A S K h e k j cs m u w x y i z;refine(II p A u w s all af x y i z 10 all [] rfl 10 B).mono ?_;rintro v H' ⟨rfl,q⟩;exact⟨by simp[ez,d,c],q⟩
  have i:lev=0\/lev=1\/lev=2\/lev=3\/lev=4:=af;rcases i with rfl|rfl|rfl|rfl|rfl<;>(simp only[jI,List.getElem?_cons_zero,List.getElem?_cons_succ,aS]at c;subst c)
  ·refine key _ ?_ ?_ (H.next+1+1+1+1+1+1) (H.next+1+1+1+1+1+1+1+1+1+1+1+1) (H.next+1) (H.next+1+1+1+1+1+1+1) [[.ay (H.next+1) 0 1 1 (D 1)],[.ay (H.next+1+1) 0 1 1 (D 1)],[.ay (H.next+1+1+1) 0 4 1 (D 4)],[.ay (H.next+1+1+1+1) 0 2 1 (D 2)],[.ay (H.next+1+1+1+1+1) 0 3 1 (D 3)]] [[.ay (H.next+1+1+1+1+1+1+1) 0 1 1 (D 1)],[.ay (H.next+1+1+1+1+1+1+1+1) 0 1 1 (D 1)],[.ay (H.next+1+1+1+1+1+1+1+1+1) 0 4 1 (D 4)],[.ay (H.next+1+1+1+1+1+1+1+1+1+1) 0 2 1 (D 2)],[.ay (H.next+1+1+1+1+1+1+1+1+1+1+1) 0 3 1 (D 3)]] (D 1) (D 1) ?_ ?_ rfl rfl ?_ ?_
   ·exact((((((((((((aM.push H _).bs _).bs _).bs _).bs _).bs _).bs _).bs _).bs _).bs _).bs _).bs _).bs _
   all_goals (simp-implicitDefEqProofs(disch:=try exact aj)only[dw];try rfl)
  ·refine key _ ?_ ?_ (H.next+1+1+1+1+1+1) (H.next+1+1+1+1+1+1+1+1+1+1+1+1) (H.next+1+1) (H.next+1+1+1+1+1+1+1+1) [[.ay (H.next+1) 0 1 1 (D 1)],[.ay (H.next+1+1) 0 1 1 (D 1)],[.ay (H.next+1+1+1) 0 4 1 (D 4)],[.ay (H.next+1+1+1+1) 0 2 1 (D 2)],[.ay (H.next+1+1+1+1+1) 0 3 1 (D 3)]] [[.ay (H.next+1+1+1+1+1+1+1) 0 1 1 (D 1)],[.ay (H.next+1+1+1+1+1+1+1+1) 0 1 1 (D 1)],[.ay (H.next+1+1+1+1+1+1+1+1+1) 0 4 1 (D 4)],[.ay (H.next+1+1+1+1+1+1+1+1+1+1) 0 2 1 (D 2)],[.ay (H.next+1+1+1+1+1+1+1+1+1+1+1) 0 3 1 (D 3)]] (D 1) (D 1) ?_ ?_ rfl rfl ?_ ?_
   ·exact((((((((((((aM.push H _).bs _).bs _).bs _).bs _).bs _).bs _).bs _).bs _).bs _).bs _).bs _).bs _
   all_goals (simp-implicitDefEqProofs(disch:=try exact aj)only[dw];try rfl)
  ·refine key _ ?_ ?_ (H.next+1+1+1+1+1+1) (H.next+1+1+1+1+1+1+1+1+1+1+1+1) (H.next+1+1+1) (H.next+1+1+1+1+1+1+1+1+1) [[.ay (H.next+1) 0 1 1 (D 1)],[.ay (H.next+1+1) 0 1 1 (D 1)],[.ay (H.next+1+1+1) 0 4 1 (D 4)],[.ay (H.next+1+1+1+1) 0 2 1 (D 2)],[.ay (H.next+1+1+1+1+1) 0 3 1 (D 3)]] [[.ay (H.next+1+1+1+1+1+1+1) 0 1 1 (D 1)],[.ay (H.next+1+1+1+1+1+1+1+1) 0 1 1 (D 1)],[.ay (H.next+1+1+1+1+1+1+1+1+1) 0 4 1 (D 4)],[.ay (H.next+1+1+1+1+1+1+1+1+1+1) 0 2 1 (D 2)],[.ay (H.next+1+1+1+1+1+1+1+1+1+1+1) 0 3 1 (D 3)]] (D 4) (D 4) ?_ ?_ rfl rfl ?_ ?_
   ·exact((((((((((((aM.push H _).bs _).bs _).bs _).bs _).bs _).bs _).bs _).bs _).bs _).bs _).bs _).bs _
   all_goals (simp-implicitDefEqProofs(disch:=try exact aj)only[dw];try rfl)
  ·refine key _ ?_ ?_ (H.next+1+1+1+1+1+1) (H.next+1+1+1+1+1+1+1+1+1+1+1+1) (H.next+1+1+1+1) (H.next+1+1+1+1+1+1+1+1+1+1) [[.ay (H.next+1) 0 1 1 (D 1)],[.ay (H.next+1+1) 0 1 1 (D 1)],[.ay (H.next+1+1+1) 0 4 1 (D 4)],[.ay (H.next+1+1+1+1) 0 2 1 (D 2)],[.ay (H.next+1+1+1+1+1) 0 3 1 (D 3)]] [[.ay (H.next+1+1+1+1+1+1+1) 0 1 1 (D 1)],[.ay (H.next+1+1+1+1+1+1+1+1) 0 1 1 (D 1)],[.ay (H.next+1+1+1+1+1+1+1+1+1) 0 4 1 (D 4)],[.ay (H.next+1+1+1+1+1+1+1+1+1+1) 0 2 1 (D 2)],[.ay (H.next+1+1+1+1+1+1+1+1+1+1+1) 0 3 1 (D 3)]] (D 2) (D 2) ?_ ?_ rfl rfl ?_ ?_
   ·exact((((((((((((aM.push H _).bs _).bs _).bs _).bs _).bs _).bs _).bs _).bs _).bs _).bs _).bs _).bs _
   all_goals (simp-implicitDefEqProofs(disch:=try exact aj)only[dw];try rfl)
  ·refine key _ ?_ ?_ (H.next+1+1+1+1+1+1) (H.next+1+1+1+1+1+1+1+1+1+1+1+1) (H.next+1+1+1+1+1) (H.next+1+1+1+1+1+1+1+1+1+1+1) [[.ay (H.next+1) 0 1 1 (D 1)],[.ay (H.next+1+1) 0 1 1 (D 1)],[.ay (H.next+1+1+1) 0 4 1 (D 4)],[.ay (H.next+1+1+1+1) 0 2 1 (D 2)],[.ay (H.next+1+1+1+1+1) 0 3 1 (D 3)]] [[.ay (H.next+1+1+1+1+1+1+1) 0 1 1 (D 1)],[.ay (H.next+1+1+1+1+1+1+1+1) 0 1 1 (D 1)],[.ay (H.next+1+1+1+1+1+1+1+1+1) 0 4 1 (D 4)],[.ay (H.next+1+1+1+1+1+1+1+1+1+1) 0 2 1 (D 2)],[.ay (H.next+1+1+1+1+1+1+1+1+1+1+1) 0 3 1 (D 3)]] (D 3) (D 3) ?_ ?_ rfl rfl ?_ ?_
   ·exact((((((((((((aM.push H _).bs _).bs _).bs _).bs _).bs _).bs _).bs _).bs _).bs _).bs _).bs _).bs _
   all_goals (simp-implicitDefEqProofs(disch:=try exact aj)only[dw];try rfl)
def vO{r:Nat}{T:List Tok}{ak:aa}{H0:ad}{s0:aq}(h:bG H0 r T ak s0){b t:Nat}(l:H0.next<=b)(u:H0.next<=t)(p:b≠t){x:aB}(d:Nat)(q:d<=1000)(N:Nat):
  ∀(j i:Nat),i+j=d->∀(m:Nat) (H:ad) (s:aq),j<m->b2 r H0 H->bt H r ak s->H.get b=D (.row U 2 [[Y [],I J 0]])->H.get t=D (.row U 2 [[Y x,I J d]])->
   W (l4 (aA P aw) N m (.ptr r 0 0) (.ptr b 0 0) (I J d) (.ptr t 0 0) (I J i) H) λv H'=>v= .agg [Y x,I J d]/\b2 r H0 H'/\bG H' r T ak (takeN T [93] j s)
 |0,i,n,0,H,s,hm,mt,a,c,e=>af
 |0,i,n,m+1,H,s,hm,mt,a,c,e=>by
  have k:¬((i:Int)<(d:Int)):=af;have z:=ad.aR c;simp-implicitDefEqProofs(disch:=try exact aj)only[l4,fu,gp,gR,gB,hk,gA,gn,reduceAdd,reduceLeDiff,reduceIte,av,k,decide_false,c,e];exact a_.2 ⟨rfl,mt.cz (.inr l) _,h.mut (mt.cz (.inr l) _) (by
   have:=h.rd.lt;unfold bt at a ⊢;rw[ad.get_set_other af];exact a)⟩
 |j+1,i,n,0,H,s,hm,mt,a,c,e=>af
 |j+1,i,n,m+1,H,s,hm,mt,a,c,e=>by
  have k:((i:Int)<(d:Int)):=af;have A:=h.rd.lt;simp-implicitDefEqProofs(disch:=try exact aj)only[l4,fu,gp,gR,gB,hk,gA,gn,reduceAdd,reduceLeDiff,reduceIte,av,k,decide_true];refine aL (gr (h.mut mt a) [93] (by simp)) ?_;rintro _ o ⟨rfl,m2,w⟩;refine⟨m2.1,?_⟩;have hw:IntKind.i64.wrap ((i:Int)+1)=((i+1:Nat):Int):=by rw[wrap_i64 af af];simp
  simp-implicitDefEqProofs(disch:=try exact aj)only[fu,gp,gR,gB,hk,gA,gn,reduceAdd,reduceLeDiff,reduceIte,av,hw];refine(vO h l u p d q N j (i+1) af m o _ af (mt.trans m2) w.rd (m2.get c af) (m2.get e af)).mono ?_;rintro v H' ⟨rfl,aZ,y⟩;exact⟨rfl,aZ,y⟩
def Dj{r:Nat}{T:List Tok}{ak:aa}{H0:ad}{s0:aq}(i:bG H0 r T ak s0){b t:Nat}(q:H0.next<=b)(h:H0.next<=t)(u:b≠t)(d:Nat)(x:d<=1000)(N:Nat)(p:d<N){H:ad}{s:aq}(mt:b2 r H0 H)(n:bt H r ak s)(j:H.get b=D (.row U 2 [[Y [],I J 0]]))
  (k:H.get t=D (.row U 2 [[Y [],I J d]])) {c:Bool} (w:(aW T s [105,110,116]||aW T s [98,111,111,108])=c):
  W (gB (aA P aw) N (.ptr r 0 0) (.ptr b 0 0) (I J d) (.ptr t 0 0) (C c) H) λv H'=>v= .agg [Y (eH T d s).1.1,I J (eH T d s).1.2]/\b2 r H0 H'/\bG H' r T ak (eH T d s).2:=by
 have G:=i.rd.lt;have F:=ad.aR j;have L:=ad.aR k;have hle:=mt.1;have o:=i.mut mt n;have A:=o.bu.one;cases c with
 |true=>
  rw[show eH T d s=(((ao T s.at_).text,(d:Int)),takeN T [93] d (aC s)) by simp[eH,w]];simp-implicitDefEqProofs(disch:=try exact aj)only[fu,gp,gB,hk,gA,gn,reduceAdd,reduceLeDiff,reduceIte,av];refine aL (hD n o.bu) ?_;rintro _ H1 ⟨rfl,e⟩;refine⟨e.1,?_⟩;have a:=e.get k;have l:=ad.aR a;have y:=n.aK e;have m:=y;unfold bt at m;have K:=y.lt;simp-implicitDefEqProofs(disch:=try exact aj)only[fu,gp,gB,hk,gA,gn,reduceAdd,reduceLeDiff,reduceIte,av,Tok.v,a,m,A];simp only[gR];have m2:b2 r H0 (H1.set t (.row U 2 [[Y (ao T s.at_).text,I J d]])):=(mt.trans (e.mut _)).cz (.inr h) _;have B:bt (H1.set t (.row U 2 [[Y (ao T s.at_).text,I J d]])) r ak s:=by
   unfold bt;rw[ad.get_set_other af];exact m
  obtain⟨m3,z⟩:=eP B (aC s);refine vO i q h u d x N d 0 af N _ _ p (m2.trans m3) z (m3.get ?_ af) (m3.get (ad.get_set_same l) af);rw[ad.get_set_other af];exact e.get j
 |false=>
  rw[show eH T d s=(((bp T s).1,(d:Int)),takeN T [93] d (bp T s).2) by simp[eH,w]];simp-implicitDefEqProofs(disch:=try exact aj)only[fu,gp,gB,hk,gA,gn,reduceAdd,reduceLeDiff,reduceIte,av];refine aL (lQ o) ?_;rintro _ H1 ⟨rfl,m1,E⟩;refine⟨m1.1,?_⟩;have a:=m1.get k af;have l:=ad.aR a;simp-implicitDefEqProofs(disch:=try exact aj)only[fu,gp,gB,hk,gA,gn,reduceAdd,reduceLeDiff,reduceIte,av,a];simp only[gR];refine vO i q h u d x N d 0 af N _ _ p ((mt.trans m1).cz (.inr h) _) ?_ ?_ (ad.get_set_same l)
  ·have:=E.rd;unfold bt at this ⊢;rw[ad.get_set_other af];exact this
  ·rw[ad.get_set_other af];exact m1.get j af
def Di{r:Nat}{T:List Tok}{ak:aa}{H0:ad}{s0:aq}(e:bG H0 r T ak s0){b:Nat}(n:H0.next<=b)(d:Nat)(o:d<=1000)(N:Nat)(m:d<N){H:ad}{s:aq}(mt:b2 r H0 H)(c:bt H r ak s)(i:H.get b=D (.row U 2 [[Y [],I J 0]])):
  W (hk (aA P aw) N (.ptr r 0 0) (.ptr b 0 0) (I J d) H) λv H'=>v= .agg [Y (eH T d s).1.1,I J (eH T d s).1.2]/\b2 r H0 H'/\bG H' r T ak (eH T d s).2:=by
 have z:=e.rd.lt;have y:=ad.aR i;have hle:=mt.1;have u:=e.mut mt c;simp-implicitDefEqProofs(disch:=try exact aj)only[fu,gp,hk,gA,gn,reduceAdd,reduceLeDiff,reduceIte,av];have j:=aM.push H (.row U 2 [[Y [],I J d]]);have p:=ad.bx H (.row U 2 [[Y [],I J d]]);refine aL (dk (c.aK j) (u.bu.aK j) _ (by simp)) ?_;rintro _ w ⟨rfl,h⟩;refine⟨h.1,?_⟩;have a:=j.trans h;cases q:aW T s [105,110,116]with
 |true=>
  simp-implicitDefEqProofs(disch:=try exact aj)only[fu,gp,hk,gA,gn,reduceAdd,reduceLeDiff,reduceIte,av];exact Dj e n af af d o N m (mt.trans (a.mut _)) (c.aK a) (a.get i) (h.get p) (by simp[q])
 |false=>
  simp-implicitDefEqProofs(disch:=try exact aj)only[fu,gp,hk,gA,gn,reduceAdd,reduceLeDiff,reduceIte,av];refine aL (dk (c.aK a) (u.bu.aK a) _ (by simp)) ?_;rintro _ x ⟨rfl,k⟩;refine⟨k.1,?_⟩;have l:=a.trans k
  try simp only[fu,gp,hk,gA,gn]
  exact Dj e n af af d o N m (mt.trans (l.mut _)) (c.aK l) (l.get i) ((h.trans k).get p) (by simp[q])
def JV{r:Nat}{T:List Tok}{ak:aa}{H0:ad}{s0:aq}(e:bG H0 r T ak s0){b:Nat}(q:H0.next<=b)(N:Nat)(z:3<N):
  ∀(n d:Nat),n+d=3->∀(m:Nat) (H:ad) (s:aq),n<m->b2 r H0 H->bt H r ak s->H.get b=D (.row U 2 [[Y [],I J 0]])->
   W (l5 (aA P aw) N m (.ptr r 0 0) (.ptr b 0 0) (I J d) H) λv H'=>∃p:(aB×Int)×aq,p=(match ek T n d s with| .inr s'=>(([],0),s')| .inl (d,s')=>eH T d s')/\v= .agg [Y p.1.1,I J p.1.2]/\b2 r H0 H'/\bG H' r T ak p.2:=by
 intro n
 induction n with
 |zero=>
  intro d A m H s hm mt c h;obtain⟨m,rfl⟩:∃k,m=k+1:=⟨m-1,af⟩;have E:d=3:=af;subst E;have l:=e.mut mt c;have G:=e.rd.lt;have F:=ad.aR h;simp only[l5];rw[gA];refine aL (dk c l.bu [91] (by simp)) ?_;rintro _ H1 ⟨rfl,a⟩;refine⟨a.1,?_⟩;have i:=a.get h;cases j:aW T s [91]with
  |true=>
   simp-implicitDefEqProofs(disch:=try exact aj)only[fu,gp,gR,gB,gA,gn,reduceAdd,reduceLeDiff,reduceIte,av,beq_self_eq_true,Int.cast_ofNat_Int];refine aL (jM (l.aK a) 4) ?_;rintro _ O ⟨rfl,m2,L⟩;refine⟨m2.1,?_⟩;have u:=m2.get i af;have Q:=ad.aR u;simp-implicitDefEqProofs(disch:=try exact aj)only[fu,gp,gR,gB,gA,gn,reduceAdd,reduceLeDiff,reduceIte,av,u];have m3:=((mt.trans (a.mut _)).trans m2).cz (.inr q) (.row U 2 [[Y [],I J 0]]);refine a_.2 ⟨(([],0),cE T 4 s),by simp[ek,j],rfl,m3,e.mut m3 ?_⟩;have:=L.rd;unfold bt at this ⊢;rw[ad.get_set_other af];exact this
  |false=>
   simp-implicitDefEqProofs(disch:=try exact aj)only[fu,gp,gR,gB,gA,gn,reduceAdd,reduceLeDiff,reduceIte,av];refine(Di e q 3 af N z (mt.trans (a.mut _)) (c.aK a) i).mono ?_;rintro v H' ⟨rfl,aZ,o⟩;exact⟨eH T 3 s,by simp[ek,j],rfl,aZ,o⟩
 |succ n M=>
  intro d A m H s hm mt c h;obtain⟨m,rfl⟩:∃k,m=k+1:=⟨m-1,af⟩;have l:=e.mut mt c;have G:=e.rd.lt;have F:=ad.aR h;have K:=l.bu.one;simp only[l5];rw[gA];refine aL (dk c l.bu [91] (by simp)) ?_;rintro _ H1 ⟨rfl,a⟩;refine⟨a.1,?_⟩;have i:=a.get h;have w:=c.aK a;have x:=w;unfold bt at x;cases j:aW T s [91]with
  |true=>
   have y:((d:Int)==3)=false:=by simp;omega
   have hw:IntKind.i64.wrap ((d:Int)+1)=((d+1:Nat):Int):=by rw[wrap_i64 af af];simp
   obtain⟨m2,B⟩:=eP w (aC s);simp-implicitDefEqProofs(disch:=try exact aj)only[fu,gp,gR,gB,gn,reduceAdd,reduceLeDiff,reduceIte,av,y,hw,x,K];refine(M (d+1) af m _ _ af ((mt.trans (a.mut _)).trans m2) B (m2.get i af)).mono ?_;rintro v H' ⟨p,aF,rfl,aZ,o⟩;exact⟨p,by rw[aF];simp[ek,j],rfl,aZ,o⟩
  |false=>
   simp-implicitDefEqProofs(disch:=try exact aj)only[fu,gp,gR,gB,gn,reduceAdd,reduceLeDiff,reduceIte,av];refine(Di e q d af N af (mt.trans (a.mut _)) (c.aK a) i).mono ?_;rintro v H' ⟨rfl,aZ,o⟩;exact⟨eH T d s,by simp[ek,j],rfl,aZ,o⟩
def oP{H:ad}{r:Nat}{T:List Tok}{ak:aa}{s:aq}(a:bG H r T ak s):W (aA P aw 53 [.ptr r 0 0] H) λv H'=>v= .agg [Y (b_ T s).1.1,I J (b_ T s).1.2]/\b2 r H H'/\bG H' r T ak (b_ T s).2:=by
 refine cA (λ_=>Ku 10) ?_;simp only[fu,gp,gR,gB,gn,cp];have p:=aM.push H (.row U 2 [[Y [],I J 0]]);refine(JV a (bf _) 10 af 3 0 rfl 10 _ s af (p.mut _) (a.rd.aK p) (ad.bx _ _)).mono ?_;rintro v H' ⟨q,c,rfl,aZ,d⟩;have:q=b_ T s:=by rw[c];rfl
 subst this;exact⟨rfl,aZ,d⟩
def j0(ok:Nat->Prop)(H:ad)(r:Nat)(T:List Tok)(ak:aa)(e:aJ)(s':aq)(v:aa)(H':ad):Prop:=b2 r H H'/\bG H' r T ak s'/\cy H' ok e v
abbrev dB(H:ad):=j0 (bb H.next) H
def dB.box{H c:ad}{r:Nat}{T:List Tok}{ak:aa}{s s':aq}{a:bM}{ks:List aJ}{kv:aa}{b:Nat}{lo:Nat}(h:bG H r T ak s)(m:b2 r H c)(e:bt c r ak s')(i:H.next<=b)(n:b<lo)(j:b7 c (bb lo) ks kv)(d:bN):
  dB H r T ak (.mk a ks) s' (.agg (a.cells kv)) (c.set b d):=by
 have k:=h.rd.lt;have m':=m.cz (.inr i) d;refine⟨m',h.mut m' ?_,?_⟩
 ·unfold bt at e ⊢;rw[ad.get_set_other af];exact e
 ·rw[hp];exact⟨kv,rfl,j.aY (c8.set _ (by unfold bb;omega) λl k=>by unfold bb at*;omega)⟩
def j0.fin{ok:Nat->Prop}{H bI:ad}{r:Nat}{T:List Tok}{ak:aa}{s s':aq}{a:bM}{ks:List aJ}{kv:aa}(e:bG H r T ak s)(m:b2 r H bI)(c:bt bI r ak s')(d:b7 bI ok ks kv):j0 ok H r T ak (.mk a ks) s' (.agg (a.cells kv)) bI:=
 ⟨m,e.mut m c,hp.2 ⟨kv,rfl,d⟩⟩
def dB.ret{H a:ad}{r:Nat}{T:List Tok}{ak:aa}{s s':aq}{e:aJ}{v:aa}{b n:Nat}(i:bG H r T ak s)(m:b2 r H a)(d:bt a r ak s')(j:H.next<=b)(he:cy a (bb n) e v)(k:b<n)(c:bN):dB H r T ak e s' v (a.set b c):=by
 have o:=i.rd.lt;have m':=m.cz (.inr j) c;refine⟨m',i.mut m' ?_,he.new (cX.cz (S:=(· <n)) (cX.refl _ _) (.inl k) _) λl h=>by unfold bb;omega⟩;unfold bt at d ⊢;rw[ad.get_set_other af];exact d
def jt(n:Nat):Prop:=∀{H:ad} {r:Nat} {T:List Tok} {ak:aa} {s:aq},bG H r T ak s->∀(lev:Nat),lev<=5->∀(e:aJ) (s':aq),ej T n lev s=D (e,s')->W (aA P aw 40 [.ptr r 0 0,I J lev] H) (dB H r T ak e s')
def tB(n:Nat):Prop:=∀{H:ad} {r:Nat} {T:List Tok} {ak:aa} {s:aq},bG H r T ak s->∀(e:aJ) (s':aq),jo T n s=D (e,s')->W (aA P aw 69 [.ptr r 0 0] H) (dB H r T ak e s')
def ti(n:Nat):Prop:=∀{ok:Nat->Prop} {H:ad} {r:Nat} {T:List Tok} {ak:aa} {s:aq} {e:aJ} {v:aa},bG H r T ak s->cy H ok e v->¬ok r->(∀l,H.next<=l->ok l)->∀(a:aJ) (s':aq),fm T n e s=D (a,s')->W (aA P aw 82 [.ptr r 0 0,v] H) (j0 ok H r T ak a s')
def mm(n:Nat):Prop:=∀{H:ad} {r:Nat} {T:List Tok} {ak:aa} {s:aq},bG H r T ak s->∀(e:aJ) (s':aq),ha T n s=D (e,s')->W (aA P aw 92 [.ptr r 0 0] H) (dB H r T ak e s')
def tl(n:Nat):Prop:=∀{H:ad} {r:Nat} {T:List Tok} {ak:aa} {s:aq},bG H r T ak s->∀(e:aJ) (s':aq),hQ T n s=D (e,s')->W (aA P aw 83 [.ptr r 0 0] H) (dB H r T ak e s')
def pC(n:Nat):Prop:=∀{H:ad} {r:Nat} {T:List Tok} {ak:aa} {s:aq},bG H r T ak s->∀(pos:Int) (e:aJ) (s':aq),j6 T n pos s=D (e,s')->W (aA P aw 91 [.ptr r 0 0,I J pos] H) (dB H r T ak e s')
def py(n:Nat):Prop:=∀{H:ad} {r:Nat} {T:List Tok} {ak:aa} {s:aq},bG H r T ak s->∀(l:List aJ) (s':aq),ia T n s=D (l,s')->W (aA P aw 93 [.ptr r 0 0] H) λv H'=>b2 r H H'/\bG H' r T ak s'/\b7 H' (bb H.next) l v
structure FA(n:Nat):Prop where
 expr:jt n
 unary:tB n
 behind:ti n
 inner:mm n
 first:tl n
 fresh:pC n
 args:py n
def H9{n:Nat}(K:jt n):mm (n+1):=by
 intro H r T ak s a e s' h;refine cA (λ_=>KT 0) ?_;have O:=a.rd.lt;have q:=aM.push H (.row U 11 [[I J 0,I J 0,Y [],Y [],I J 0,.ar,I J 0,I J 0,I J 0,I J 0,I J 0]]);simp only[ha,cS]at h;obtain⟨⟨w,s1⟩,x,i⟩:=h;simp only[aS,bT]at i;obtain⟨rfl,rfl⟩:=i;simp-implicitDefEqProofs(disch:=try exact aj)only[nI,reduceAdd,reduceLeDiff,reduceIte,av];refine aL (oQ (a.aK q) [40] (by simp)) ?_;rintro _ u ⟨rfl,m2,E⟩;refine⟨m2.1,?_⟩;have y:=m2.get (ad.bx H _) af;have L:=(q.mut (· =r)).trans m2;simp-implicitDefEqProofs(disch:=try exact aj)only[nI,reduceAdd,reduceLeDiff,reduceIte,av]
 refine aL (K E 0 af w s1 x) ?_;rintro v d ⟨m3,F,m⟩;refine⟨m3.1,?_⟩;have j:=m3.get y af;have P:=ad.aR j;obtain⟨cs,rfl,hlen,o⟩:=m.cells;have p:List.take 11 cs=cs:=List.take_of_length_le af;simp-implicitDefEqProofs(disch:=try exact aj)only[nI,reduceAdd,reduceLeDiff,reduceIte,av,hlen,o,List.append_nil,p];have c:=aM.push d (.row U 11 [cs]);refine aL (oM (F.aK c) [41] (by simp)) ?_;rintro _ M ⟨rfl,m5,G⟩;refine⟨m5.1,?_⟩;have k:=m5.get (c.get j) af;have Q:=ad.aR k;have z:=m5.get (ad.bx d (.row U 11 [cs])) af;have B:=m2.1;simp only[ad.bQ]at B;simp-implicitDefEqProofs(disch:=try exact aj)only[nI,reduceAdd,reduceLeDiff,reduceIte,av,hlen,o,List.append_nil,p,k,z]
 refine a_.2 (dB.ret a (((L.trans m3).trans (c.mut _)).trans m5) G.rd (bf _) (n:=u.next) (m.new ?_ λ_ h=>h) af _);exact((aM.push _ _).mut _).trans ⟨m5.1,λl A N=>m5.2 l A af⟩
def HL{n:Nat}(ae:mm n):pC (n+1):=by
 intro H r T ak s c pos e s' h;refine cA (λ_=>KS 0) ?_;have ai:=c.rd.lt;have R:=c.bu.one;have K:=aM.push H (.row U 11 [[I J 0,I J 0,Y [],Y [],I J 0,.ar,I J 0,I J 0,I J 0,I J 0,I J 0]]);simp-implicitDefEqProofs(disch:=try exact aj)only[kA,reduceAdd,reduceLeDiff,reduceIte,av];have q:=c.aK K;refine aL (dk q.rd q.bu [91] (by simp)) ?_;rintro _ ag ⟨rfl,k⟩;refine⟨k.1,?_⟩;have G:=q.aK k;have o:=k.get (ad.bx H (.row U 11 [[I J 0,I J 0,Y [],Y [],I J 0,.ar,I J 0,I J 0,I J 0,I J 0,I J 0]]))
 have an:=ad.aR o;have j:=(K.trans k).mut (· =r);simp only[j6]at h;cases B:aW T s [91]with
 |true=>
  simp only[B,aU,cS]at h;obtain⟨⟨M,s1⟩,N,x⟩:=h;simp only[aS,bT]at x;obtain⟨rfl,rfl⟩:=x;have i:=G.rd;have F:=i;unfold bt at F;obtain⟨m3,O⟩:=eP i (aC s);simp-implicitDefEqProofs(disch:=try exact aj)only[kA,reduceAdd,reduceLeDiff,reduceIte,av,F,R,Bool.not_true];refine aL (oP (c.mut (j.trans m3) O)) ?_;rintro _ m ⟨rfl,m5,u⟩;refine⟨m5.1,?_⟩;have d:=m5.get (m3.get o af) af;have Q:=ad.aR d;simp-implicitDefEqProofs(disch:=try exact aj)only[kA,reduceAdd,reduceLeDiff,reduceIte,av];have w:=aM.push m (.row U 2 [[Y (b_ T (aC s)).1.1,I J (b_ T (aC s)).1.2]]);have W:=ad.bx m (.row U 2 [[Y (b_ T (aC s)).1.1,I J (b_ T (aC s)).1.2]])
  refine aL (gr (u.aK w) [93] (by simp)) ?_;rintro _ ah ⟨rfl,m8,aa⟩;refine⟨m8.1,?_⟩;have y:=m8.get (w.get d) af;have p:=m8.get W af;have al:=ad.aR y;have ao:=ad.aR p;simp-implicitDefEqProofs(disch:=try exact aj)only[kA,reduceAdd,reduceLeDiff,reduceIte,av];refine aL (ae aa M s1 N) ?_;rintro v L ⟨m9,ab,A⟩;refine⟨m9.1,?_⟩;have z:=m9.get y af;have E:=m9.get p af;have am:=ad.aR z;have ap:=ad.aR E;have aq:=m9.1;obtain⟨cs,rfl,hlen,V⟩:=A.cells;have az:∀l,bU P l 41 1 [(0,.agg cs)]=D (.ay l 0 1 11 (D 1),.row U 11 [cs]):=λl=>jm l cs hlen V
  replace j:=((((j.trans m3).trans m5).trans (w.mut _)).trans m8).trans m9;have i:=ab.rd;unfold bt at i;simp-implicitDefEqProofs(disch:=try exact aj)only[kA,reduceAdd,reduceLeDiff,reduceIte,av,az,z,E,p];refine a_.2 ?_;refine j0.fin (ok:=bb H.next) (a:={kind:=9,cf:=(b_ T (aC s)).1.1,c3:=(b_ T (aC s)).1.2,pos:=pos}) (kv:= .ay L.next 0 1 11 (D 1)) (s':=s1) c ?_ ?_ (b7.mT (ro:=false) ?_ (by unfold bb;omega) (A.new ?_ λl h=>by unfold bb;omega))
  ·(repeat (first|exact j|refine cX.bs ?_ _|refine cX.cz (S:=(· =r)) ?_ (.inl rfl) _|refine cX.cz ?_ (.inr (by(first|omega|(simp only[ad.bQ,ad.di];omega)))) _))
  ·(unfold bt;simp-implicitDefEqProofs(disch:=try exact aj)only[dw,i,aC,er,eU])
  ·simp-implicitDefEqProofs(disch:=try exact aj)only[dw]
  ·exact cX.cz (S:=λl=>l<_) ((cX.refl _ _).bs _) (.inl af) _
 |false=>
  simp only[B,aO,aS,bT]at h;obtain⟨rfl,rfl⟩:=h;simp-implicitDefEqProofs(disch:=try exact aj)only[kA,reduceAdd,reduceLeDiff,reduceIte,av,Bool.not_false];refine aL (lQ G) ?_;rintro _ m ⟨rfl,m5,u⟩;refine⟨m5.1,?_⟩;have d:=m5.get o af;have Q:=ad.aR d;simp-implicitDefEqProofs(disch:=try exact aj)only[kA,reduceAdd,reduceLeDiff,reduceIte,av,d];refine a_.2 ?_;exact dB.box (a:={kind:=8,cf:=(bp T s).1,pos:=pos}) (kv:= .ar) (lo:=H.next+1) c (j.trans m5) u.rd (bf _) (Nat.lt_succ_self _) (b7.nil _ _) _
def xB{N:Nat}(R:∀k,k<N->jt k){H0:ad}{r:Nat}{T:List Tok}{ak:aa}{s0:aq}(p:bG H0 r T ak s0):
  ∀(n m:Nat),n<N->n<m->∀(H:ad) (s:aq) (l:List aJ) (L:Nat) (els:List (List aa)),b2 r H0 H->bt H r ak s->l.length+n<=1000000000->H.get L=D (.row U 11 els)->H0.next<=L->els.length=l.length->
   dc H (λk=>H0.next<=k/\k≠L) l els->∀(l':List aJ) (s':aq),g_ T n l s=D (l',s')->
   W (nK (aA P aw) N m (.ptr r 0 0) (.ay L 0 l.length 11 Z) H) λv H'=>b2 r H0 H'/\bG H' r T ak s'/\b7 H' (bb H0.next) l' v
 |0,m,E,hm,H,s,l,L,els,d,w,hlen,u,q,j,z,l',s',h=>by simp[g_]at h
 |n+1,0,E,hm,H,s,l,L,els,d,w,hlen,u,q,j,z,l',s',h=>af
 |n+1,m+1,E,hm,H,s,l,L,els,d,w,hlen,u,q,j,z,l',s',h=>by
  have aE:=p.rd.lt;have am:=p.bu.one;have aF:=ad.aR u;have hle:=d.1;have O:=p.mut d w;simp only[g_]at h;simp only[nK];rw[nJ];refine aL (dk w O.bu [44] (by simp)) ?_;rintro _ H1 ⟨rfl,a⟩;refine⟨a.1,?_⟩;have Q:=O.aK a;have A:=a.get u;have aG:=ad.aR A;have F:=z.aY (c8.aK a λ_ h=>h) l els;cases M:aW T s [44]with
  |false=>
   simp only[M,aO,aS,bT]at h;obtain⟨rfl,rfl⟩:=h;simp-implicitDefEqProofs(disch:=try exact aj)only[hG,nJ,h3,reduceAdd,reduceLeDiff,reduceIte,av];refine aL (oM Q [41] (by simp)) ?_;rintro _ aB ⟨rfl,m2,ao⟩;refine⟨m2.1,?_⟩
   try simp only[hG,nJ,h3]
   refine a_.2 ⟨(d.trans (a.mut _)).trans m2,ao,.inr (.inl ⟨L,0,Z,U,els,rfl,q,m2.get A af,?_⟩)⟩;rw[List.drop_zero];exact F.aY (c8.mut m2 af λ_ h=>h.1) l els
  |true=>
   simp only[M,aU,cS]at h;obtain⟨⟨i,s1⟩,S,V⟩:=h;have B:=Q.rd;have K:=B;unfold bt at K;have aI:=B.lt;obtain⟨m2,ae⟩:=eP B (aC s);simp-implicitDefEqProofs(disch:=try exact aj)only[hG,nJ,h3,reduceAdd,reduceLeDiff,reduceIte,av,K,am];refine aL (R n af (p.mut ((d.trans (a.mut _)).trans m2) ae) 0 af i s1 S) ?_;rintro v c ⟨m3,ap,y⟩;refine⟨m3.1,?_⟩;have G:=m3.get (m2.get A af) af;have aH:=ad.aR G;have aN:=a.1;have al:=m3.1;simp only[ad.di]at al y;have ag:=F.aY (c8.mut (m2.trans m3) af λ_ h=>h) l els;obtain⟨cs,rfl,ah,an⟩:=y.cells;have az:∀l,bU P l 41 1 [(0,.agg cs)]=D (.ay l 0 1 11 (D 1),.row U 11 [cs]):=λl=>jm l cs ah an
   simp-implicitDefEqProofs(disch:=try exact aj)only[hG,h3,reduceAdd,reduceLeDiff,reduceIte,av,az];have ax:=aM.push c (.row U 11 [cs]);rw[Gm (ad.bx c (.row U 11 [cs])) (ax.get G) j af,eK (by simp only[ad.bQ,ad.di];omega)];simp only[ad.bQ,ad.di,hG,h3];have ai:l.length+1=(l++[i]).length:=by simp
   rw[ai];have x:∀k,k<c.next->k≠L->(((c.push (.row U 11 [cs])).set L .dead).push (.row U 11 (els++[cs]))).get k=c.get k:=λk o aD=>by
    rw[ad.dp (by simp only[ad.bQ,ad.di];omega),ad.get_set_other af,ad.dp af]
   have au:b2 r H0 (((c.push (.row U 11 [cs])).set L .dead).push (.row U 11 (els++[cs]))):=((((d.trans (a.mut _)).trans m2).trans m3).bs _|>.cz (.inr q) _).bs _;refine xB R p n m af af _ s1 (l++[i]) (c.next+1) (els++[cs]) au ?_ (by simp;omega) ?_ af (by simp[j]) ?_ l' s' V
   ·have:=ap.rd;unfold bt at this ⊢;rw[x r af af];exact this
   ·exact ad.p7 (by simp only[ad.bQ,ad.di];omega) (by simp only[ad.bQ,ad.di];omega)
   ·refine dc.append l els i cs ?_ j ?_
    ·exact ag.aY (λk ro es o e=>⟨⟨o.1,by have:=ad.aR e;omega⟩,by rw[x k (ad.aR e) o.2];exact e⟩) l els
    ·exact y.aY (λk ro es o e=>by
      have ab:=ad.aR e;unfold bb at o;exact⟨⟨af,af⟩,by rw[x k ab af];exact e⟩) i _
def GB{n:Nat}(Q:n<=900000000)(x:∀k,k<=n->jt k):py (n+1):=by
 intro H r T ak s e l s' h;refine cA (λ_=>KU (n+1)) ?_;have K:=e.rd.lt;simp only[ia]at h;rw[h3];refine aL (oQ e [40] (by simp)) ?_;rintro _ H1 ⟨rfl,m1,i⟩;refine⟨m1.1,?_⟩;simp-implicitDefEqProofs(disch:=try exact aj)only[hG,h3,reduceAdd,reduceLeDiff,reduceIte,av];refine aL (dk i.rd i.bu [41] (by simp)) ?_;rintro _ F ⟨rfl,c⟩;refine⟨c.1,?_⟩;have w:=i.aK c;have y:=m1.trans (c.mut _);cases q:aW T (cP T [40] s) [41]with
 |true=>
  simp only[q,aU,aS,bT]at h;obtain⟨rfl,rfl⟩:=h;simp-implicitDefEqProofs(disch:=try exact aj)only[hG,h3,reduceAdd,reduceLeDiff,reduceIte,av];refine aL (oM w [41] (by simp)) ?_;rintro _ a ⟨rfl,m3,j⟩;refine⟨m3.1,?_⟩
  try simp only[hG,h3]
  exact a_.2 ⟨y.trans m3,j,b7.nil _ _⟩
 |false=>
  simp only[q,aO,cS]at h;obtain⟨⟨d,s1⟩,z,A⟩:=h;simp-implicitDefEqProofs(disch:=try exact aj)only[hG,h3,reduceAdd,reduceLeDiff,reduceIte,av];refine aL (x n (bf _) w 0 af d s1 z) ?_;rintro v a ⟨m3,j,o⟩;refine⟨m3.1,?_⟩;have L:=m1.1;have M:=c.1;have O:=m3.1;obtain⟨cs,rfl,B,E⟩:=o.cells;have az:∀l,bU P l 41 1 [(0,.agg cs)]=D (.ay l 0 1 11 (D 1),.row U 11 [cs]):=λl=>jm l cs B E
  simp-implicitDefEqProofs(disch:=try exact aj)only[hG,h3,reduceAdd,reduceLeDiff,reduceIte,av,az];have m:=(aM.push a (.row U 11 [cs])).bs (.row U 11 [cs]);rw[Gl (ad.bx a (.row U 11 [cs])),eK (by simp only[ad.bQ];omega)];simp only[ad.bQ,hG,h3];refine xB (N:=n+1) (λk u=>x k af) e n (n+1) af af _ s1 [d] (a.next+1) [cs] ((y.trans m3).trans (m.mut _)) (j.rd.aK m) (by simp;omega) ?_ af rfl ?_ l s' A
  ·exact ad.p7 (by simp only[ad.bQ];omega) (by simp only[ad.bQ];omega)
  ·rw[dc,dc];exact⟨o.aY (λk ro es u p=>by
    have G:=ad.aR p;unfold bb at u;exact⟨⟨af,af⟩,m.get p⟩) d _,trivial⟩
def tU{N B:Nat}(au:∀k,k<B->jt k){ok:Nat->Prop}{H0:ad}{r:Nat}{T:List Tok}{ak:aa}{s0:aq}(x:bG H0 r T ak s0)(R:¬ok r)(F:∀l,H0.next<=l->ok l):
  ∀(n m:Nat),n<=B->n<m->∀(H:ad) (s:aq) (e:aJ) (cs o:List aa),b2 r H0 H->bt H r ak s->H.get (H0.next+1)=D (.row U 11 [o])->o.length=11->H.get H0.next=D (.row U 11 [cs])->
   cy H (λl=>ok l/\l≠H0.next/\l≠H0.next+1) e (.agg cs)->∀(a:aJ) (s':aq),fm T n e s=D (a,s')->
   W (mb (aA P aw) N m (.ptr r 0 0) (.ptr H0.next 0 0) (.ptr (H0.next+1) 0 0) H) (j0 ok H0 r T ak a s')
 |0,m,aV,hm,H,s,e,cs,o,y,j,E,S,A,he,a,s',h=>by simp[fm]at h
 |n+1,0,aV,hm,H,s,e,cs,o,y,j,E,S,A,he,a,s',h=>af
 |n+1,m+1,aV,hm,H,s,e,cs,o,y,j,E,S,A,he,a,s',h=>by
  have bK:=x.rd.lt;have bv:=x.bu.one;have G:=x.mut y j;have bL:=ad.aR A;have bN:=ad.aR E;have hle:=y.1;obtain⟨bJ,bj,hlen,ai⟩:=he.cells;cases bj;have an:List.take 11 cs=cs:=List.take_of_length_le af;have bm:List.drop 11 o=[]:=List.drop_of_length_le af;have a6:List.drop 11 cs=[]:=List.drop_of_length_le af;have bw:=he.same;simp only[fm]at h;simp only[mb];rw[qW];refine aL (dk j G.bu [46] (by simp)) ?_;rintro _ H1 ⟨rfl,z⟩;refine⟨z.1,?_⟩;have fin:∀bI,aM H bI->(a,s')=(e,s)->W (nG (aA P aw) N (.ptr H0.next 0 0) (.ptr (H0.next+1) 0 0) bI) (j0 ok H0 r T ak a s'):=by
   intro bI p bo;cases bo;have aX:=p.get A;have a2:=p.get E;have dI:=ad.aR aX;have e0:=ad.aR a2;simp-implicitDefEqProofs(disch:=try exact aj)only[nG,ji,ky,ir,iu,iv,jT,qW,iw,ix,h2,reduceAdd,reduceLeDiff,reduceIte,av,aX,a2,hlen,ai,List.append_nil,an,bm];have m':=(y.trans (p.mut _)).cz (.inr (Nat.le_succ _)) (.row U 11 [cs]);refine a_.2 ⟨m',x.mut m' ?_,(he.aY (c8.aK p λ_ h=>h) e _).aY (c8.set _ af λl h=>h.1) e _⟩;have:=j.aK p;unfold bt at this ⊢;rw[ad.get_set_other af];exact this
  have go:∀(ab:ad),aM H ab->(bif aW T s [46]then fm T n (.mk {kind:=5,name:=(bp T (aC s)).1,pos:=(ao T s.at_).pos} [e]) (bp T (aC s)).2 else(ej T n 0 (cP T [91] s)).bind λp=>fm T n (.mk {kind:=6,pos:=(ao T s.at_).pos} [e,p.1]) (dn T [93] p.2))=D (a,s')->
    W (jT (aA P aw) (mb (aA P aw) N m) ab (.ptr r 0 0) (.ptr H0.next 0 0) (.ptr (H0.next+1) 0 0)) (j0 ok H0 r T ak a s'):=by
   intro ab V O;simp only[jT];refine aL (hD (j.aK V) (G.bu.aK V)) ?_;rintro _ ae ⟨rfl,aG⟩;refine⟨aG.1,?_⟩;simp-implicitDefEqProofs(disch:=try exact aj)only[iv,iu,ir,reduceAdd,reduceLeDiff,reduceIte,av,Tok.v];have aH:=(V.trans aG).bs (.row U 4 [[I J (ao T s.at_).kind,Y (ao T s.at_).text,I J (ao T s.at_).n,I J (ao T s.at_).pos]]);have bz:=ad.bx ae (.row U 4 [[I J (ao T s.at_).kind,Y (ao T s.at_).text,I J (ao T s.at_).n,I J (ao T s.at_).pos]]);refine aL (dk (j.aK aH) (G.bu.aK aH) [46] (by simp)) ?_;rintro _ aP ⟨rfl,aI⟩;refine⟨aI.1,?_⟩;have L:=aH.trans aI
   have al:=aI.get bz;have bP:=ad.aR al;have ag:=L.get A;have ah:=L.get E;have bh:=G.aK L;have aB:=y.trans (L.mut _);have a7:=he.aY (c8.aK L λ_ h=>h) e _;have bW:H.next<=ae.next:=(V.trans aG).1
   have bY:=ad.aR ag;cases a5:aW T s [46]with
   |true=>
    simp only[a5,aU]at O;have am:=bh.rd;have bg:=am;unfold bt at bg;have bR:=am.lt;obtain⟨m8,bl⟩:=eP am (aC s);simp-implicitDefEqProofs(disch:=try exact aj)only[ky,ir,iu,iv,jT,iw,ix,h2,reduceAdd,reduceLeDiff,reduceIte,av,bg,bv];refine aL (lQ (x.mut (aB.trans m8) bl)) ?_;rintro _ c ⟨rfl,m9,ap⟩;refine⟨m9.1,?_⟩;have ax:=m8.trans m9;have a0:=m8.get ag af;have a1:=m9.get a0 af;have a4:=ax.get ah af;have bd:=m8.get al af;have be:=m9.get bd af;have bZ:=ad.aR a1;have b3:=ad.aR a4;have b5:=ad.aR be;have bi:(aP.set r (.row U 5 [[ak,I J (IntKind.i64.wrap (s.at_+1)),I J s.bO,I J s.aD,I J s.cO]])).get H0.next=D (.row U 11 [cs]):=a0
    have bA:(aP.set r (.row U 5 [[ak,I J (IntKind.i64.wrap (s.at_+1)),I J s.bO,I J s.aD,I J s.cO]])).get ae.next=D (.row U 4 [[I J (ao T s.at_).kind,Y (ao T s.at_).text,I J (ao T s.at_).n,I J (ao T s.at_).pos]]):=bd
    have az:∀l,bU P l 41 1 [(0,.agg cs)]=D (.ay l 0 1 11 (D 1),.row U 11 [cs]):=λl=>jm l cs hlen ai
    simp-implicitDefEqProofs(disch:=try exact aj)only[ky,ir,iu,iv,jT,iw,ix,h2,reduceAdd,reduceLeDiff,reduceIte,av,a1,bi,be,bA,az,an,a6,bw,Bool.and_true,Bool.and_self];simp only[ji];have bE:b2 r H0 ((c.push (.row U 11 [cs])).set H0.next (.row U 11 [[I J 5,I J 0,Y (bp T (aC s)).1,Y [],I J 0,.ay c.next 0 1 11 (D 1),I J (ao T s.at_).pos,I J 0,I J 0,I J 0,I J 0]])):=((aB.trans ax).bs _).cz (.inr (bf _)) _;have i:∀k,k<c.next->k≠H0.next->((c.push (.row U 11 [cs])).set H0.next (.row U 11 [[I J 5,I J 0,Y (bp T (aC s)).1,Y [],I J 0,.ay c.next 0 1 11 (D 1),I J (ao T s.at_).pos,I J 0,I J 0,I J 0,I J 0]])).get k=c.get k:=λk bq br=>by
     rw[ad.get_set_other af,ad.dp af]
    refine tU au x R F n m af af _ _ _ (bM.cells {kind:=5,name:=(bp T (aC s)).1,pos:=(ao T s.at_).pos} (.ay c.next 0 1 11 (D 1))) o bE ?_ ?_ S (ad.get_set_same (by simp only[ad.bQ];omega)) ?_ a s' O
    ·have:=ap.rd;unfold bt at this ⊢;rw[i r af af];exact this
    ·rw[i _ af af];exact a4
    ·rw[hp];have Q:=a7.mut ax (by rintro⟨h,_⟩;exact R h) λ_ h=>h
     refine⟨_,rfl,b7.mT (ro:=false) ?_ ⟨F _ af,af,af⟩ (Q.aY (λl ro els w u=>⟨w,by rw[i l (ad.aR u) w.2.1];exact u⟩) e _)⟩;rw[ad.get_set_other af];exact ad.bx _ _
   |false=>
    simp only[a5,aO,cS]at O;obtain⟨⟨aQ,s1⟩,g1,g2⟩:=O;simp-implicitDefEqProofs(disch:=try exact aj)only[ji,ir,iu,iv,jT,iw,ix,h2,reduceAdd,reduceLeDiff,reduceIte,av];refine aL (oQ bh [91] (by simp)) ?_;rintro _ bH ⟨rfl,m8,bD⟩;refine⟨m8.1,?_⟩;simp-implicitDefEqProofs(disch:=try exact aj)only[ji,ir,iu,iv,jT,iw,ix,h2,reduceAdd,reduceLeDiff,reduceIte,av];refine aL (au n af bD 0 af aQ s1 g1) ?_;rintro v c ⟨m9,ap,Q⟩;refine⟨m9.1,?_⟩;obtain⟨d,rfl,a9,ba⟩:=Q.cells;have bB:List.take 11 d=d:=List.take_of_length_le af;simp-implicitDefEqProofs(disch:=try exact aj)only[ji,ir,iu,iv,jT,iw,ix,h2,reduceAdd,reduceLeDiff,reduceIte,av,a9,ba,List.append_nil]
    have aE:=aM.push c (.row U 11 [d]);refine aL (oM (ap.aK aE) [93] (by simp)) ?_;rintro _ q ⟨rfl,m12,bC⟩;refine⟨m12.1,?_⟩;have K:=((m8.trans m9).trans (aE.mut _)).trans m12;have aZ:=K.get ag af;have a3:=K.get ah af;have bc:=K.get al af;have bk:=m12.get (ad.bx c (.row U 11 [d])) (by have:=m8.1;have:=m9.1;omega);have bX:=ad.aR aZ;have b0:=ad.aR a3;have b4:=ad.aR bc;have az:∀l,bU P l 41 2 [(0,.agg cs),(1,.agg d)]=D (.ay l 0 2 11 (D 2),.row U 11 [cs,d]):=λl=>wh l cs d hlen ai a9 ba
    simp-implicitDefEqProofs(disch:=try exact aj)only[ji,ir,iu,iv,jT,iw,ix,h2,reduceAdd,reduceLeDiff,reduceIte,av,aZ,bk,bc,az,an,bB,a6];simp only[ky];have bF:b2 r H0 ((q.push (.row U 11 [cs,d])).set H0.next (.row U 11 [[I J 6,I J 0,Y [],Y [],I J 0,.ay q.next 0 2 11 (D 2),I J (ao T s.at_).pos,I J 0,I J 0,I J 0,I J 0]])):=((aB.trans K).bs _).cz (.inr (bf _)) _;have i:∀k,k<q.next->k≠H0.next->((q.push (.row U 11 [cs,d])).set H0.next (.row U 11 [[I J 6,I J 0,Y [],Y [],I J 0,.ay q.next 0 2 11 (D 2),I J (ao T s.at_).pos,I J 0,I J 0,I J 0,I J 0]])).get k=q.get k:=λk bq br=>by
     rw[ad.get_set_other af,ad.dp af]
    refine tU au x R F n m af af _ _ _ (bM.cells {kind:=6,pos:=(ao T s.at_).pos} (.ay q.next 0 2 11 (D 2))) o bF ?_ ?_ S (ad.get_set_same (by simp only[ad.bQ];omega)) ?_ a s' g2
    ·have:=bC.rd;unfold bt at this ⊢;rw[i r af af];exact this
    ·rw[i _ af af];exact a3
    ·rw[hp];have bn:=a7.mut K (by rintro⟨h,_⟩;exact R h) λ_ h=>h
     have b1:=ad.aR ah;have bT:=m8.1;have bV:=m9.1;refine⟨_,rfl,b7.wI (ro:=false) ?_ ⟨F _ af,af,af⟩ (bn.aY (λl ro els w u=>⟨w,by rw[i l (ad.aR u) w.2.1];exact u⟩) e _) (Q.aY (λl ro els w u=> ?_) aQ _)⟩
     ·rw[ad.get_set_other af];exact ad.bx _ _
     ·unfold bb at w;have a8:=m12.get (aE.get u) af;exact⟨⟨F _ af,af,af⟩,by rw[i l (ad.aR a8) af];exact a8⟩
  cases M:aW T s [46]with
  |true=>
   simp only[M,aU]at h;simp-implicitDefEqProofs(disch:=try exact aj)only[ji,ky,ir,iu,iv,iw,ix,h2,reduceAdd,reduceLeDiff,reduceIte,av];exact go H1 z (by rw[M];exact h)
  |false=>
   simp only[M,aO]at h;simp-implicitDefEqProofs(disch:=try exact aj)only[ji,ky,ir,iu,iv,iw,ix,h2,reduceAdd,reduceLeDiff,reduceIte,av];refine jw (dk (j.aK z) (G.bu.aK z) [91] (by simp)) ?_;rintro _ aN ⟨rfl,aF⟩;refine⟨aF.1,?_⟩;cases aT:aW T s [91]with
   |true=>
    simp only[aT,aU]at h;simp-implicitDefEqProofs(disch:=try exact aj)only[ji,ky,ir,iu,iv,iw,ix,h2,reduceAdd,reduceLeDiff,reduceIte,av];exact go aN (z.trans aF) (by rw[M];exact h)
   |false=>
    simp only[aT,aO,aS]at h;simp-implicitDefEqProofs(disch:=try exact aj)only[ji,ky,ir,iu,iv,iw,ix,h2,reduceAdd,reduceLeDiff,reduceIte,av];exact fin aN (z.trans aF) h.symm
def GP{n:Nat}(u:∀k,k<=n->jt k):ti (n+1):=by
 intro ok H r T ak s e v d he p o i s' h;refine cA (λ_=>KO (n+2)) ?_;obtain⟨cs,rfl,hlen,q⟩:=he.cells;have j:∀l,dT l (.agg cs)=D (.ptr l 0 0,.row U 11 [cs]):=λl=>by rw[hr l cs q,hlen]
 simp-implicitDefEqProofs(disch:=try exact aj)only[h2,ix,iw,reduceAdd,reduceLeDiff,reduceIte,av,j];have c:=(aM.push H (.row U 11 [cs])).bs (.row U 11 [[I J 0,I J 0,Y [],Y [],I J 0,.ar,I J 0,I J 0,I J 0,I J 0,I J 0]]);refine tU (N:=n+2) (B:=n+1) (λk w=>u k af) d p o (n+1) (n+2) af af _ s e cs [I J 0,I J 0,Y [],Y [],I J 0,.ar,I J 0,I J 0,I J 0,I J 0,I J 0] (c.mut _) (d.rd.aK c) ?_ rfl ?_ ?_ i s' h
 ·simp-implicitDefEqProofs(disch:=try exact aj)only[dw]
 ·simp-implicitDefEqProofs(disch:=try exact aj)only[dw]
 ·exact he.aY (λl ro els m a=>⟨⟨m,by have:=ad.aR a;omega,by have:=ad.aR a;omega⟩,c.get a⟩) e _
def A3{T:List Tok}{s:aq}{x:aB}(h:aW T s x=X)(a:x≠[]):(ao T s.at_).text≠[]:=by
 simp only[aW,b8,Bool.and_eq_true,beq_iff_eq]at h;rw[h.2.2];exact a
def DL{n:Nat}(L:jt n){H0 H:ad}{r:Nat}{T:List Tok}{ak:aa}{s:aq}(c:bG H0 r T ak s)(i:aM H0 H)(o:H.get H0.next=D (.row U 11 [[I J 0,I J 0,Y [],Y [],I J 0,.ar,I J 0,I J 0,I J 0,I J 0,I J 0]])){b:Nat}(N:H0.next<b)(d:H.get b=D (.row U 4 [[I J (ao T s.at_).kind,Y (ao T s.at_).text,I J (ao T s.at_).n,I J (ao T s.at_).pos]]))(B:(ao T s.at_).text≠[]){k:Int}
  {j:aJ} {s':aq} (h:kC T (n+1) k s=D (j,s')):W (lb (aA P aw) (.ptr r 0 0) (.ptr H0.next 0 0) (.ptr b 0 0) (I J k) H) (dB H0 r T ak j s'):=by
 have O:=c.rd.lt;have E:=c.bu.one;have G:=c.aK i;have hle:=i.1;have R:=ad.aR d;have ab:=ad.aR o;simp only[kC,cS]at h;obtain⟨⟨z,s1⟩,A,m⟩:=h;simp only[aS,bT]at m;obtain⟨rfl,rfl⟩:=m;simp-implicitDefEqProofs(disch:=try exact aj)only[lb,iS,iq,reduceAdd,reduceLeDiff,reduceIte,av,d];refine aL (oQ G _ B) ?_;rintro _ H1 ⟨rfl,m1,K⟩;refine⟨m1.1,?_⟩;simp-implicitDefEqProofs(disch:=try exact aj)only[lb,iS,iq,reduceAdd,reduceLeDiff,reduceIte,av];refine aL (L K 5 af z s1 A) ?_;rintro v y ⟨m2,x,q⟩;refine⟨m2.1,?_⟩;have ag:=m1.1;have ah:=m2.1;have m12:=m1.trans m2;have p:=m12.get o af;have w:=m12.get d af;have Q:=ad.aR p
 have V:=ad.aR w;obtain⟨cs,rfl,hlen,u⟩:=q.cells;have F:List.take 11 cs=cs:=List.take_of_length_le af;have az:∀l,bU P l 41 1 [(0,.agg cs)]=D (.ay l 0 1 11 (D 1),.row U 11 [cs]):=λl=>jm l cs hlen u
 have e:=x.rd;unfold bt at e;have ae:=x.rd.lt;have M:=(i.mut (· =r)).trans m12;simp-implicitDefEqProofs(disch:=try exact aj)only[lb,iS,iq,reduceAdd,reduceLeDiff,reduceIte,av,hlen,u,List.append_nil,F,az,e,E,p,w];refine a_.2 ?_;refine j0.fin (ok:=bb H0.next) (a:={kind:=k,pos:=(ao T s.at_).pos}) (kv:= .ay (y.next+1) 0 1 11 (D 1)) (s':=er s1) c ?_ ?_ (b7.mT (ro:=false) ?_ (by unfold bb;omega) (q.new ?_ λl h=>by unfold bb;omega))
 ·(repeat (first|exact M|refine cX.bs ?_ _|refine cX.cz (S:=(· =r)) ?_ (.inl rfl) _|refine cX.cz ?_ (.inr (by(first|omega|(simp only[ad.bQ,ad.di];omega)))) _))
 ·(unfold bt;simp-implicitDefEqProofs(disch:=try exact aj)only[dw,e,aC,er,eU])
 ·simp-implicitDefEqProofs(disch:=try exact aj)only[dw]
 ·exact cX.cz (S:=λl=>l<_) ((cX.cz (S:=λl=>l<_) ((cX.refl _ _).bs _) (.inl af) _).bs _) (.inl af) _
def Nw{n:Nat}(F:∀k,k<=n->jt k)(ab:tl n)(aa:ti n):tB (n+1):=by
 intro H r T ak s a e s' h;refine cA (λ_=>KH 0) ?_;have al:=a.rd.lt;simp only[jo]at h;have u:=aM.push H (.row U 11 [[I J 0,I J 0,Y [],Y [],I J 0,.ar,I J 0,I J 0,I J 0,I J 0,I J 0]]);simp-implicitDefEqProofs(disch:=try exact aj)only[iq,iS,reduceAdd,reduceLeDiff,reduceIte,av];refine aL (hD (a.rd.aK u) (a.bu.aK u)) ?_;rintro _ K ⟨rfl,x⟩;refine⟨x.1,?_⟩;have L:=x.get (ad.bx H _);have am:=ad.aR L;simp-implicitDefEqProofs(disch:=try exact aj)only[iS,iq,reduceAdd,reduceLeDiff,reduceIte,av,Tok.v];have G:=x.bs (.row U 4 [[I J (ao T s.at_).kind,Y (ao T s.at_).text,I J (ao T s.at_).n,I J (ao T s.at_).pos]])
 have Q:=ad.bx K (.row U 4 [[I J (ao T s.at_).kind,Y (ao T s.at_).text,I J (ao T s.at_).n,I J (ao T s.at_).pos]]);have w:=u.trans G;refine aL (dk (a.rd.aK w) (a.bu.aK w) [45] (by simp)) ?_;rintro _ ae ⟨rfl,i⟩;refine⟨i.1,?_⟩;have c:=w.trans i;have E:=i.get Q;have z:=(G.trans i).get (ad.bx H _);cases m:aW T s [45]with
 |true=>
  simp only[m,aU]at h;have q:(ao T s.at_).text≠[]:=A3 m (by simp);simp-implicitDefEqProofs(disch:=try exact aj)only[iS,iq,reduceAdd,reduceLeDiff,reduceIte,av];cases n with
  |zero=>simp[kC]at h
  |succ n=>exact DL (F n af) a c z af E q h
 |false=>
  simp only[m,aO]at h;simp-implicitDefEqProofs(disch:=try exact aj)only[iS,iq,reduceAdd,reduceLeDiff,reduceIte,av];refine aL (dk (a.rd.aK c) (a.bu.aK c) [33] (by simp)) ?_;rintro _ ag ⟨rfl,j⟩;refine⟨j.1,?_⟩;have d:=c.trans j;have R:=j.get E;have p:=j.get z;cases o:aW T s [33]with
  |true=>
   simp only[o,aU]at h;have q:(ao T s.at_).text≠[]:=A3 o (by simp);simp-implicitDefEqProofs(disch:=try exact aj)only[iS,iq,reduceAdd,reduceLeDiff,reduceIte,av];cases n with
   |zero=>simp[kC]at h
   |succ n=>exact DL (F n af) a d p af R q h
  |false=>
   simp only[o,aO,cS]at h;obtain⟨⟨y,s1⟩,g1,g2⟩:=h;simp-implicitDefEqProofs(disch:=try exact aj)only[iS,iq,reduceAdd,reduceLeDiff,reduceIte,av];refine aL (ab (a.aK d) y s1 g1) ?_;rintro v ah ⟨m6,V,N⟩;refine⟨m6.1,?_⟩;have au:=d.1;have aq:=m6.1;have M:=m6.get p af;simp-implicitDefEqProofs(disch:=try exact aj)only[iS,iq,reduceAdd,reduceLeDiff,reduceIte,av];have an:=ad.aR p;refine aL (aa (ok:=bb (H.next+1)) V (N.aY (c8.aK (aM.refl _) λl O=>by unfold bb at*;omega) y _) (by unfold bb;omega) (λl O=>by unfold bb;omega) e s' g2) ?_;rintro v ai ⟨m7,W,B⟩;refine⟨m7.1,?_⟩;have A:=m7.get M af;have ap:=ad.aR A
   obtain⟨cs,rfl,hlen,P⟩:=B.cells;have S:List.take 11 cs=cs:=List.take_of_length_le af;simp-implicitDefEqProofs(disch:=try exact aj)only[iS,iq,reduceAdd,reduceLeDiff,reduceIte,av,A,hlen,P,List.append_nil,S];exact a_.2 (dB.ret a (((d.mut _).trans m6).trans m7) W.rd (bf _) B (Nat.lt_succ_self _) _)
def yM{N:Nat}{H0 H:ad}{r:Nat}{T:List Tok}{ak:aa}{s0 s:aq}(j:bG H0 r T ak s0)(p:b2 r H0 H)(i:bt H r ak s){b3:Nat}{cs a:List aa}{e:aJ}(c:H.get H0.next=D (.row U 11 [a]))(y:a.length=11)(d:H.get b3=D (.row U 11 [cs]))(u:H0.next<b3)
  (he:cy H (λl=>H0.next<l/\l≠b3) e (.agg cs)):W (nq (aA P aw) N (.ptr H0.next 0 0) (.ptr b3 0 0) H) (dB H0 r T ak e s):=by
 have v:=j.rd.lt;have w:=ad.aR c;have x:=ad.aR d;obtain⟨q,k,hlen,n⟩:=he.cells;cases k;have o:List.take 11 cs=cs:=List.take_of_length_le af;have m:List.drop 11 a=[]:=List.drop_of_length_le af;simp-implicitDefEqProofs(disch:=try exact aj)only[nq,im,qR,hY,hZ,h0,hX,reduceAdd,reduceLeDiff,reduceIte,av,c,d,hlen,n,List.append_nil,o,m];have m':=p.cz (.inr (bf _)) (.row U 11 [cs]);refine a_.2 ⟨m',j.mut m' ?_,he.aY (c8.set _ af λl h=>by unfold bb;omega) e _⟩;unfold bt at i ⊢;rw[ad.get_set_other af];exact i
def yN{N B:Nat}(aH:∀k,k<B->jt k){H0:ad}{r:Nat}{T:List Tok}{ak:aa}{s0:aq}(o:bG H0 r T ak s0){lev:Nat}(S:lev<5){b3:Nat}(F:H0.next<b3):
  ∀(n m:Nat),n<=B->n<m->∀(H:ad) (s:aq) (e:aJ) (cs x:List aa),b2 r H0 H->bt H r ak s->H.get H0.next=D (.row U 11 [x])->x.length=11->H.get b3=D (.row U 11 [cs])->
   cy H (λl=>H0.next<l/\l≠b3) e (.agg cs)->∀(p:aJ) (s':aq),hP T n lev e s=D (p,s')->
   W (nr (aA P aw) N m (.ptr r 0 0) (I J lev) (.ptr H0.next 0 0) (.ptr b3 0 0) H) (dB H0 r T ak p s')
 |0,m,ai,hm,H,s,e,cs,x,u,c,y,A,q,he,p,s',h=>by simp[hP]at h
 |n+1,0,ai,hm,H,s,e,cs,x,u,c,y,A,q,he,p,s',h=>af
 |n+1,m+1,ai,hm,H,s,e,cs,x,u,c,y,A,q,he,p,s',h=>by
  have bp:=o.rd.lt;have aG:=o.mut u c;have br:=ad.aR q;obtain⟨bn,aZ,hlen,a6⟩:=he.cells;cases aZ;have be:List.take 11 cs=cs:=List.take_of_length_le af;have a0:List.drop 11 cs=[]:=List.drop_of_length_le af;have a5:=o.bu.one;simp only[hP]at h;simp only[nr];rw[qR];refine aL (jN c) ?_;rintro _ H1 ⟨rfl,rfl⟩;refine⟨bf _,?_⟩;cases ap:s.aD==0 with
  |false=>
   simp only[ap,Bool.false_and,aO,aS,bT]at h;obtain⟨rfl,rfl⟩:=h;simp-implicitDefEqProofs(disch:=try exact aj)only[im,hY,hZ,h0,hX,reduceAdd,reduceLeDiff,reduceIte,av];exact yM o u c y A q F he
  |true=>
   simp only[ap,Bool.true_and]at h;simp-implicitDefEqProofs(disch:=try exact aj)only[im,hY,hZ,h0,hX,reduceAdd,reduceLeDiff,reduceIte,av];refine jw (hD c aG.bu) ?_;rintro _ H1 ⟨rfl,aN⟩;refine⟨aN.1,?_⟩;simp-implicitDefEqProofs(disch:=try exact aj)only[im,hY,hZ,h0,hX,reduceAdd,reduceLeDiff,reduceIte,av];refine jw (BB lev S (ao T s.at_)) ?_;rintro _ bm ⟨rfl,aP⟩;refine⟨aP.1,?_⟩;have d:=aN.trans aP;cases z:ez lev (ao T s.at_) != 0 with
   |false=>
    simp only[z,aO,aS,bT]at h;obtain⟨rfl,rfl⟩:=h;simp-implicitDefEqProofs(disch:=try exact aj)only[im,hY,hZ,h0,hX,reduceAdd,reduceLeDiff,reduceIte,av,z];exact yM o (u.trans (d.mut _)) (c.aK d) (d.get y) A (d.get q) F (he.aY (c8.aK d λ_ h=>h) e _)
   |true=>
    simp only[z,aU,cS]at h;obtain⟨⟨ah,s1⟩,aT,aV⟩:=h;simp-implicitDefEqProofs(disch:=try exact aj)only[im,hY,hZ,h0,hX,reduceAdd,reduceLeDiff,reduceIte,av,z];refine aL (hD (c.aK d) (aG.bu.aK d)) ?_;rintro _ aQ ⟨rfl,ab⟩;refine⟨ab.1,?_⟩;have w:=(d.trans ab).bs (.row U 4 [[I J (ao T s.at_).kind,Y (ao T s.at_).text,I J (ao T s.at_).n,I J (ao T s.at_).pos]]);have a7:=ad.bx aQ (.row U 4 [[I J (ao T s.at_).kind,Y (ao T s.at_).text,I J (ao T s.at_).n,I J (ao T s.at_).pos]]);have O:=c.aK (d.trans ab);have bd:=c.aK w;have aF:=O;unfold bt at aF;have bC:=O.lt
    obtain⟨m6,a1⟩:=eP bd (aC s);have hw:IntKind.i64.wrap ((lev:Int)+1)=((lev+1:Nat):Int):=by rw[wrap_i64 af af];simp
    simp-implicitDefEqProofs(disch:=try exact aj)only[im,hY,hZ,h0,hX,reduceAdd,reduceLeDiff,reduceIte,av,Tok.v,aF,a5,hw];have aI:=(u.trans (w.mut _)).trans m6;have bi:=o.mut aI a1;refine aL (aH n af bi (lev+1) af ah s1 aT) ?_;rintro v Q ⟨m7,bj,G⟩;refine⟨m7.1,?_⟩;have aW:=m6.get (w.get q) af;have R:=m7.get aW af;have bv:=ad.aR R;have a8:=m6.get a7 (by have:=ad.aR O;omega);have M:=m7.get a8 (by have:=ad.aR O;omega);have bA:=ad.aR M;have a4:=m7.1;have a3:=w.1;simp only[ad.di,ad.bQ]at a4 a3 G;obtain⟨a,rfl,ax,aB⟩:=G.cells;have bh:List.take 11 a=a:=List.take_of_length_le af;simp-implicitDefEqProofs(disch:=try exact aj)only[im,hY,hZ,h0,hX,reduceAdd,reduceLeDiff,reduceIte,av,ax,aB,List.append_nil,M]
    have ae:=aM.push Q (.row U 11 [a]);refine aL (BB (H:=Q.push (.row U 11 [a])) lev S (ao T s.at_)) ?_;rintro _ i ⟨rfl,ag⟩;refine⟨ag.1,?_⟩;have j:=ae.trans ag;have an:=ag.get (ad.bx Q (.row U 11 [a]));have am:=j.get R;have aE:=j.get M;have bE:=ad.aR an;have bw:=ad.aR am;have bB:=ad.aR aE;have az:∀l,bU P l 41 2 [(0,.agg cs),(1,.agg a)]=D (.ay l 0 2 11 (D 2),.row U 11 [cs,a]):=λl=>wh l cs a hlen a6 ax aB
    have a_:=he.same;have ba:=G.same;have bc:bg (D (.agg [I J (ao T s.at_).kind,Y (ao T s.at_).text,I J (ao T s.at_).n,I J (ao T s.at_).pos])) (.agg [I J (ao T s.at_).kind,Y (ao T s.at_).text,I J (ao T s.at_).n,I J (ao T s.at_).pos])=true:=by simp[bg,aa.beq,gf.beq]
    have aX:=ae.get R;have a9:=ae.get M;simp-implicitDefEqProofs(disch:=try exact aj)only[hY,hZ,h0,hX,reduceAdd,reduceLeDiff,reduceIte,av,am,an,aE,be,bh,a0,az,a_,ba,bc,aX,a9,Bool.and_true,Bool.and_self];rw[im];have bl:=((aI.trans m7).trans (j.mut _));have bk:b2 r H0 ((i.push (.row U 11 [cs,a])).set b3 (.row U 11 [[I J (ez lev (ao T s.at_)),I J 0,Y [],Y [],I J 0,.ay i.next 0 2 11 (D 2),I J (ao T s.at_).pos,I J 0,I J 0,I J 0,I J 0]])):=(bl.bs _).cz (.inr (Nat.le_of_lt F)) _;have E:∀k,k<i.next->k≠b3->((i.push (.row U 11 [cs,a])).set b3 (.row U 11 [[I J (ez lev (ao T s.at_)),I J 0,Y [],Y [],I J 0,.ay i.next 0 2 11 (D 2),I J (ao T s.at_).pos,I J 0,I J 0,I J 0,I J 0]])).get k=i.get k:=λk z bo=>by
     rw[ad.get_set_other af,ad.dp af]
    have al:=j.get (m7.get (m6.get (w.get y) af) af);have bq:=ad.aR al;have V:=bj.rd.aK j;have bz:=V.lt;have bD:=j.1;refine yN aH o S F n m af af _ s1 _ (bM.cells {kind:=ez lev (ao T s.at_),pos:=(ao T s.at_).pos} (.ay i.next 0 2 11 (D 2))) x bk ?_ ?_ A (ad.get_set_same (by simp only[ad.bQ];omega)) ?_ p s' aV
    ·unfold bt at V ⊢;rw[E r af af];exact V
    ·rw[E _ af af];exact al
    ·rw[hp];have a2:cy i (λl=>H0.next<l/\l≠b3) e (.agg cs):=he.mut (((w.mut _).trans m6).trans m7|>.trans (j.mut _)) af λ_ h=>h
     refine⟨_,rfl,b7.wI (ro:=false) ?_ ⟨af,af⟩ (a2.aY (λl ro els L K=>⟨L,by rw[E l (ad.aR K) L.2];exact K⟩) e _) (G.aY (λl ro els L K=> ?_) ah _)⟩
     ·rw[ad.get_set_other af];exact ad.bx _ _
     ·unfold bb at L;have au:=j.get K;exact⟨⟨af,af⟩,by rw[E l (ad.aR au) af];exact au⟩
def Hl{n:Nat}(z:∀k,k<=n->jt k)(K:tB n):jt (n+1):=by
 intro H r T ak s c lev hle e s' h;refine cA (λ_=>Km (n+2)) ?_;have M:=c.rd.lt;have i:=aM.push H (.row U 11 [[I J 0,I J 0,Y [],Y [],I J 0,.ar,I J 0,I J 0,I J 0,I J 0,I J 0]]);simp only[ej]at h;by_cases w:lev=5
 ·rw[if_pos w]at h;have p:((lev:Int)==5)=true:=by simp;omega
  simp-implicitDefEqProofs(disch:=try exact aj)only[im,hY,hZ,h0,hX,reduceAdd,reduceLeDiff,reduceIte,av,p];refine aL (K (c.aK i) e s' h) ?_;rintro v m ⟨m2,u,a⟩;refine⟨m2.1,?_⟩;have d:=m2.get (ad.bx H (.row U 11 [[I J 0,I J 0,Y [],Y [],I J 0,.ar,I J 0,I J 0,I J 0,I J 0,I J 0]])) af;have O:=ad.aR d;obtain⟨cs,rfl,hlen,q⟩:=a.cells;have G:List.take 11 cs=cs:=List.take_of_length_le af;simp-implicitDefEqProofs(disch:=try exact aj)only[im,hY,hZ,h0,hX,reduceAdd,reduceLeDiff,reduceIte,av,d,hlen,q,List.append_nil,G];exact a_.2 (dB.ret c ((i.mut _).trans m2) u.rd (bf _) a (Nat.lt_succ_self _) _)
 ·rw[if_neg w,cS]at h;obtain⟨⟨o,s1⟩,A,E⟩:=h;have p:((lev:Int)==5)=false:=by simp;omega
  have hw:IntKind.i64.wrap ((lev:Int)+1)=((lev+1:Nat):Int):=by rw[wrap_i64 af af];simp
  simp-implicitDefEqProofs(disch:=try exact aj)only[im,hY,hZ,h0,hX,reduceAdd,reduceLeDiff,reduceIte,av,p,hw];refine aL (z n (bf _) (c.aK i) (lev+1) af o s1 A) ?_;rintro v m ⟨m2,u,a⟩;refine⟨m2.1,?_⟩;have d:=m2.get (ad.bx H (.row U 11 [[I J 0,I J 0,Y [],Y [],I J 0,.ar,I J 0,I J 0,I J 0,I J 0,I J 0]])) af;have F:=m2.1;simp only[ad.bQ]at F;obtain⟨cs,rfl,hlen,q⟩:=a.cells;simp-implicitDefEqProofs(disch:=try exact aj)only[h0,hZ,hY,reduceAdd,reduceLeDiff,reduceIte,av,hlen,q,List.append_nil];have j:=aM.push m (.row U 11 [cs]);refine yN (N:=n+2) (B:=n) (λk L=>z k af) c af (b3:=m.next) af n (n+2) af af _ s1 o cs _ (((i.mut _).trans m2).trans (j.mut _)) (u.rd.aK j) (j.get d) rfl (ad.bx _ _) ?_ e s' E
  exact a.aY (λl ro els y x=>by
   have:=ad.aR x;unfold bb at y;simp only[ad.bQ]at y;exact⟨⟨af,af⟩,j.get x⟩) o _
