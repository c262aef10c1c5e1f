/-
  Texts of one proof, laid together: T1 Sq Pa Pb Pc Pd Ea Eb.
-/
import Derived.Test.YtghmbpmaafnodaaDoorMG
set_option linter.unusedVariables false
set_option linter.unusedSimpArgs false
set_option linter.defProp false
open Option renaming some→D,none→Z
open Bool renaming true→X,false→U
namespace Go.Proofs.YtghmbpmaafnodaaDoor
open Go.b9
structure b2 where
 kind:Int
 name:aK:=[]
 cc:aK:=[]
 c4:Int:=0
 pos:Int:=0
 ref:Int:=0
inductive bE where
 |mk (a:b2) (es:List aL) (body els:List bE)
def bE.zero:bE:= .mk {kind:=0} [] [] []
def bE.at(p:Int):bE->bE
 | .mk a es b c=> .mk {a with pos:=p} es b c
def aL.kind:aL->Int
 | .mk a _=>a.kind
def aL.name:aL->aK
 | .mk a _=>a.name
def h4(e:aL):Bool:=e.kind != 4&&(e.kind != 5&&e.kind != 6)
def kH(T:List Tok)(e:aL)(s:av):av:=(ej T [61] (bif h4 e then cL T 2 s else s)).2
def bB(T:List Tok)(s:av):aL×av:=match dP T 800000000 0 s with
 |some p=>p
 |none=>(.zero,s)
def dX(T:List Tok)(s:av):(aK×aK×Int)×av:=(((bu T s).1,(cM T (bl T [58] (bu T s).2)).1),(cM T (bl T [58] (bu T s).2)).2)
def pO(T:List Tok)(s:av):bE×av:=(.mk {kind:=1,name:=(dX T s).1.1,cc:=(dX T s).1.2.1,c4:=(dX T s).1.2.2} [] [] [],bl T [59] (dX T s).2)
def p9(T:List Tok)(s:av):bE×av:=(.mk {kind:=2,name:=(dX T s).1.1,cc:=(dX T s).1.2.1,c4:=(dX T s).1.2.2} [(bB T (bl T [61] (dX T s).2)).1] [] [],bl T [59] (bB T (bl T [61] (dX T s).2)).2)
def vD(T:List Tok)(s:av):bE×av:=bif a1 T s [59]then(.mk {kind:=7} [] [] [],bl T [59] s)else(.mk {kind:=7} [(bB T s).1] [] [],bl T [59] (bB T s).2)
def vt(T:List Tok)(s:av):bE×av:=(.mk {kind:=8} [(bB T s).1] [] [],bl T [59] (bB T s).2)
def hI(T:List Tok)(e:aL)(s:av):av:=bl T [61] (bif h4 e then cL T 2 s else s)
def vT(T:List Tok)(e:aL)(s:av):bE×av:=(bif e.kind==4 then .mk {kind:=3,name:=e.name} [(bB T (hI T e s)).1] [] []else .mk {kind:=4} [e,(bB T (hI T e s)).1] [] [],bl T [59] (bB T (hI T e s)).2)
def j_(T:List Tok)(s:av):bE×av:=bif a1 T (bB T s).2 [61]then vT T (bB T s).1 (bB T s).2 else(.mk {kind:=9} [(bB T s).1] [] [],bl T [59] (bif a1 T (bB T s).2 [59]&&(bB T s).1.kind != 7 then cL T 2 (bB T s).2 else(bB T s).2))
mutual
def iS(T:List Tok):Nat->av->ae (List bE)
 |0,_=>Z
 |n+1,s=>(mO T n [] (cN T [123] s)).bind λp=>D (p.1,dn T [125] p.2)
def mO(T:List Tok):Nat->List bE->av->ae (List bE)
 |0,_,_=>Z
 |n+1,l,s=>bif s.aF==0&& !a1 T s [125]then(o9 T n s).bind λp=>mO T n (l++[p.1]) p.2 else D (l,s)
def o9(T:List Tok):Nat->av->ae bE
 |0,_=>Z
 |n+1,s=>(bif a1 T s [118,97,114]||a1 T s [108,101,116]then D (bif (au T s.at_).text==[108,101,116]then p9 T (aD s)else pO T (aD s))
  else bif a1 T s [105,102]then(iS T n (bB T (aD s)).2).bind λb=>bif a1 T b.2 [101,108,115,101]then
   (iS T n (aD b.2)).bind λc=>D (.mk {kind:=5} [(bB T (aD s)).1] b.1 c.1,c.2)else D (.mk {kind:=5} [(bB T (aD s)).1] b.1 [],b.2)
  else bif a1 T s [119,104,105,108,101]then(iS T n (bB T (aD s)).2).bind λb=>D (.mk {kind:=6} [(bB T (aD s)).1] b.1 [],b.2)
  else bif a1 T s [114,101,116,117,114,110]then D (vD T (aD s))
  else bif a1 T s [112,114,105,110,116]then D (vt T (aD s))
  else D (j_ T s)).bind λp=>D (p.1.at (au T s.at_).pos,p.2)
end
structure b7 where
 name:aK
 cc:aK
 c4:Int
 pos:Int
structure e1 where
 name:aK
 fields:List b7
 pos:Int
structure Fn where
 name:aK
 params:List b7
 has:Bool
 dF:aK
 rd:Int
 body:List bE
 pos:Int
structure dm where
 da:List e1
 globals:List b7
 funcs:List Fn
def dm.none:dm:=⟨[],[],[]⟩
def dD(T:List Tok)(s:av):b7×av:=(⟨(dX T s).1.1,(dX T s).1.2.1,(dX T s).1.2.2,(au T s.at_).pos⟩,(dX T s).2)
def oa(T:List Tok):Nat->List b7->av->ae (List b7)
 |0,_,_=>Z
 |n+1,l,s=>bif s.aF==0&& !a1 T s [125]then
  (bif (au T s.at_).kind==1&&l.length==8 then D (l,cL T 4 s)else oa T n (l++[(dD T s).1]) (bl T [59] (dD T s).2))
  else D (l,s)
def mY(T:List Tok)(n:Nat)(s:av):ae e1:=(oa T n [] (bl T [123] (bu T s).2)).bind λp=>D (⟨(bu T s).1,p.1,(au T s.at_).pos⟩,bl T [125] p.2)
def lx(T:List Tok)(s:av):av:=bif a1 T (bl T [44] s) [41]then cL T 2 (bl T [44] s)else bl T [44] s
def oC(T:List Tok):Nat->List b7->av->ae (List b7)
 |0,_,_=>Z
 |n+1,l,s=>bif s.aF==0&& !a1 T s [41]then
  (bif (au T s.at_).kind==1&&l.length==6 then D (l,cL T 4 s)else
   oC T n (l++[(dD T s).1]) (bif a1 T (dD T s).2 [41]then(dD T s).2 else lx T (dD T s).2))
  else D (l,s)
def gu(T:List Tok)(s:av):(Bool×aK×Int)×av:=bif a1 T s [58]then((X,(cM T (aD s)).1),(cM T (aD s)).2)else((U,[],0),s)
def mI(T:List Tok)(n:Nat)(s:av):ae Fn:=(oC T n [] (bl T [40] (bu T s).2)).bind λp=>(iS T n (gu T (bl T [41] p.2)).2).bind λb=>D (⟨(bu T s).1,p.1,(gu T (bl T [41] p.2)).1.1,(gu T (bl T [41] p.2)).1.2.1,(gu T (bl T [41] p.2)).1.2.2,b.1,(au T s.at_).pos⟩,b.2)
def isRec(T:List Tok)(s:av):Bool:=a1 T s [114,101,99,111,114,100]
def jz(T:List Tok)(s:av):Bool:=a1 T s [103,108,111,98,97,108]
def isFun(T:List Tok)(s:av):Bool:=a1 T s [102,117,110,99]
def gY(T:List Tok)(N:Nat):Nat->dm->av->ae dm
 |0,_,_=>Z
 |n+1,g,s=>bif s.aF==0&&(au T s.at_).kind != 0 then
  (bif (isRec T s&&g.da.length==12)||((jz T s&&g.globals.length==8)||(isFun T s&&g.funcs.length==16))then gY T N n g (cL T 4 s)
  else bif isRec T s then(mY T N (aD s)).bind λp=>gY T N n {g with da:=g.da++[p.1]} p.2
  else bif jz T s then gY T N n {g with globals:=g.globals++[(dD T (aD s)).1]} (bl T [59] (dD T (aD s)).2)
  else bif isFun T s then(mI T N (aD s)).bind λp=>gY T N n {g with funcs:=g.funcs++[p.1]} p.2
  else gY T N n g (cL T 2 s))
  else D (g,s)
def vu(g:dm)(s:av):dm×Int×Int:=if s.aF=0 then(g,0,0)else(.none,s.aF,s.cS)
def iT:Nat->Nat->aK->aK
 |0,_,a=>a
 |f+1,n,a=>if n/10=0 then UInt8.ofNat (48+n%10)::a else iT f (n/10) (UInt8.ofNat (48+n%10)::a)
def sY(t:Tok):aK:=bif t.kind==2 then iT 20 t.n.toNat []else t.text
def jX(t:Tok):Prop:=(t.kind=1/\t.n=0/\en t.text=X)\/(t.kind=3/\t.n=0/\jl t.text=X)\/(t.kind=2/\t.text=[]/\0<=t.n/\t.n<=9223372036854775807)\/(t.kind=4/\t.n=0/\(gI t.text jh=X\/∃c,t.text=[c]/\iZ c gX=X))
def qi(t:Tok)(b:UInt8):Bool:=bif t.kind==4 then(t.text.length==2|| !gI (t.text++[b]) jh)&& !(t.text==[47]&&b==47)else !ey b&& !eu b
def rY(t:Tok):aK->Bool
 |[]=>X
 |b::_=>qi t b
def Cg:(10:Nat)^20=100000000000000000000:=cu
def GL{c:UInt8}:eu c=X↔48<=c.toNat/\c.toNat<=57:=by
 simp only[eu,lz,Bool.and_eq_true,decide_eq_true_eq];omega
def ya:∀(f n:Nat) (a:aK),(iT f n a).length<=f+a.length
 |0,_,_=>by simp[iT]
 |f+1,n,a=>by
  rw[iT];split
  ·rw[List.length_cons];omega
  ·have:=ya f (n/10) (UInt8.ofNat (48+n%10)::a);rw[List.length_cons]at this;omega
def C5{d:Bool}:∀s:aK,∀c∈s.take (runN d s),(eu c||(!d&&ey c))=X
 |[],_,h=>by simp[runN]at h
 |c::r,x,h=>by
  rw[runN]at h;cases a:(eu c||(!d&&ey c))with
  |false=>rw[a]at h;simp at h
  |true=>
   rw[a]at h;simp only[aZ,List.take_succ_cons,List.mem_cons]at h;rcases h with rfl|h
   ·exact a
   ·exact C5 r x h
def ED:∀(l:aK) (a v:Int),(∀c∈l,eu c=X)->0<=a->a<=9223372036854775807->iL a l=D v->0<=v/\v<=9223372036854775807
 |[],a,v,_,i,j,h=>by simp only[iL,aU]at h;omega
 |c::r,a,v,e,i,j,h=>by
  rw[iL]at h;have d:=GL.1 (e c (List.mem_cons_self));split at h
  ·cases h
  ·exact ED r _ v (λc d=>e c (List.mem_cons_of_mem _ d)) af af h
def Iz{s:aK}{t:Tok}{m:Nat}(h:hp s=D (t.kind,t.text,t.n,m)):jX t:=by
 obtain⟨k,x,z,p⟩:=t;rcases s with _|⟨c,r⟩
 ·simp[hp]at h
 rw[hp]at h;cases o:ey c with
 |true=>
  rw[o,aZ]at h;generalize (c::r).take (runN U (c::r))=y at*;cases hw:jl y with
  |true=>
   rw[hw,aZ]at h;simp only[aU,bY]at h;obtain⟨rfl,rfl,rfl,-⟩:=h;exact .inr (.inl ⟨rfl,rfl,hw⟩)
  |false=>
   rw[hw,aT]at h;cases e:en y with
   |false=>rw[e]at h;cases h
   |true=>
    rw[e,aZ]at h;simp only[aU,bY]at h;obtain⟨rfl,rfl,rfl,-⟩:=h;exact .inl ⟨rfl,rfl,e⟩
 |false=>
  rw[o,aT]at h;cases l:eu c with
  |true=>
   rw[l,aZ]at h;have u:=C5 (d:=true) (c::r);cases hw:iL 0 ((c::r).take (runN X (c::r)))with
   |none=>rw[hw]at h;cases h
   |some v=>
    rw[hw]at h;simp only at h;have A:=ED _ 0 v (λc w=>by simpa using u c w) af af hw;cases q:((decide (1<runN X (c::r))&&c.toNat==48)||(decide (runN X (c::r)<(c::r).length)&&ey (((c::r)[runN X (c::r)]?).getD 0)))with
    |true=>rw[q]at h;cases h
    |false=>
     rw[q]at h;simp only[aT,aU,bY]at h;obtain⟨rfl,rfl,rfl,-⟩:=h;exact .inr (.inr (.inl ⟨rfl,rfl,A⟩))
  |false=>
   rw[l,aT]at h;cases aB:hc (c::r)==[]with
   |true=>rw[aB]at h;cases h
   |false=>
    rw[aB,aT]at h;simp only[aU,bY]at h;obtain⟨rfl,rfl,rfl,-⟩:=h;refine .inr (.inr (.inr ⟨rfl,rfl,?_⟩));have a:(hc (c::r)==[])=false:=aB;show gI (hc (c::r)) jh=X\/∃d,hc (c::r)=[d]/\iZ d gX=X;unfold hc at a ⊢;cases i:(decide (2<=(c::r).length)&&gI ((c::r).take 2) jh)with
    |true=>rw[aZ];exact .inl (Bool.and_eq_true_iff.1 i).2
    |false=>
     rw[i]at a;simp only[aT]at a ⊢;cases j:iZ c gX with
     |false=>rw[j]at a;cases a
     |true=>exact .inr ⟨c,rfl,j⟩
inductive bN where
 |t (bA:Tok)
 |b (s:aK)
def bN.sX:bN->aK
 | .t bA=>sY bA
 | .b s=>s
def flat:List bN->aK
 |[]=>[]
 |p::r=>p.sX++flat r
def hd:List bN->List Tok
 |[]=>[]
 | .t t::r=>t::hd r
 | .b _::r=>hd r
def nS:List bN->Prop
 |[]=>True
 | .t t::r=>jX t/\rY t (flat r)=X/\nS r
 | .b s::r=>s.all iB=X/\nS r
def c3:∀a b:List bN,flat (a++b)=flat a++flat b
 |[],_=>rfl
 |p::r,b=>by rw[List.cons_append,flat,c3 r b,flat,List.append_assoc]
def wj:∀a b:List bN,hd (a++b)=hd a++hd b
 |[],_=>rfl
 | .t t::r,b=>by rw[List.cons_append,hd,wj r b,hd,List.cons_append]
 | .b s::r,b=>by rw[List.cons_append,hd,wj r b,hd]
def Bf:∀(n:Nat) (s:aK) (p:Nat) (l:List Tok),gm n s p= .inr l->∀t∈l,jX t\/t.kind=0
 |0,_,_,_,h=>by cases h
 |n+1,[],p,l,h=>by cases h;intro t a;simp only[List.mem_cons,List.not_mem_nil,or_false]at a;subst a;exact .inr rfl
 |n+1,c::r,p,l,h=>by
  rw[gm]at h;split at h
  ·cases h
  ·rename_i k t v m e;split at h
   ·cases h
   ·rename_i l' d;cases h;intro u hu;rcases List.mem_cons.1 hu with rfl|hu
    ·exact .inl (Iz (t:=⟨k,t,v,p⟩) e)
    ·exact Bf n _ _ _ d u hu
def D0{s:aK}:∀t∈(dy s).1,jX t\/t.kind=0:=by
 unfold dy;split
 ·intro t a;cases a
 ·cases h:p_ s with
  |inl e=>intro t a;cases a
  |inr l=>exact Bf _ _ _ _ h
def c6(k:Int):Nat:=if k=24 then 1 else if k=23 then 2 else if 19<=k/\k<=22 then 3 else if k=14\/k=15 then 4 else if 16<=k/\k<=18 then 5 else if k=12\/k=13 then 6 else 7
def aL.cp(e:aL):Nat:=c6 e.kind
def jU(x:aK)(d:Int):Prop:=0<=d/\d<=3/\(en x=X\/x=[105,110,116]\/x=[98,111,111,108])
inductive cm:Nat->Nat->aL->Prop
 |par {d m e}:cm d 0 e->e.cp<m->m<=7->cm (d+1) m e
 |int {d m n p}:m<=7->0<=n->n<=9223372036854775807->cm d m (.mk {kind:=1,n:=n,pos:=p} [])
 |bool {d m n p}:m<=7->n=0\/n=1->cm d m (.mk {kind:=2,n:=n,pos:=p} [])
 |null {d m x z p}:m<=7->jU x z->cm d m (.mk {kind:=3,cc:=x,c4:=z,pos:=p} [])
 |var {d m x p}:m<=7->en x=true->cm d m (.mk {kind:=4,name:=x,pos:=p} [])
 |field {d m x p e}:m<=7->en x=true->cm d 7 e->cm d m (.mk {kind:=5,name:=x,pos:=p} [e])
 |item {d m p e i}:m<=7->cm (d+1) 7 e->cm d 0 i->cm (d+1) m (.mk {kind:=6,pos:=p} [e,i])
 |call {d m x p l}:m<=7->en x=true->(∀e∈l,cm d 0 e)->cm (d+1) m (.mk {kind:=7,name:=x,pos:=p} l)
 |new {d m x p}:m<=7->en x=true->cm d m (.mk {kind:=8,cc:=x,pos:=p} [])
 |make {d m x z p e}:m<=7->jU x z->cm d 0 e->cm (d+1) m (.mk {kind:=9,cc:=x,c4:=z,pos:=p} [e])
 |len {d m p e}:m<=7->cm d 0 e->cm (d+1) m (.mk {kind:=10,pos:=p} [e])
 |read {d m p}:m<=7->cm (d+1) m (.mk {kind:=11,pos:=p} [])
 |sign {d m k p e}:m<=6->k=12\/k=13->cm d 6 e->cm (d+1) m (.mk {kind:=k,pos:=p} [e])
 |bin {d m k p a b}:m<=c6 k->14<=k->k<=24->cm d (c6 k) a->cm d (c6 k+1) b->cm d m (.mk {kind:=k,pos:=p} [a,b])
def u6(k:Int):1<=c6 k/\c6 k<=7:=by
 unfold c6;(repeat' split)<;>omega
def cm.more{d m:Nat}{e:aL}(h:cm d m e):∀{a:Nat},d<=a->cm a m e:=by
 induction h with
 |par _ n o l=>intro a j;obtain⟨k,rfl⟩:∃k,a=k+1:=⟨a-1,af⟩;exact .par (l af) n o
 |int c i n=>intro a _;exact .int c i n
 |bool c i=>intro a _;exact .bool c i
 |null c i=>intro a _;exact .null c i
 |var c i=>intro a _;exact .var c i
 |field c i _ l=>intro a j;exact .field c i (l j)
 |item c _ _ ih1 ih2=>intro a j;obtain⟨k,rfl⟩:∃k,a=k+1:=⟨a-1,af⟩;exact .item c (ih1 j) (ih2 af)
 |call c i _ l=>intro a j;obtain⟨k,rfl⟩:∃k,a=k+1:=⟨a-1,af⟩;exact .call c i λe he=>l e he af
 |new c i=>intro a _;exact .new c i
 |make c i _ l=>intro a j;obtain⟨k,rfl⟩:∃k,a=k+1:=⟨a-1,af⟩;exact .make c i (l af)
 |len c _ l=>intro a j;obtain⟨k,rfl⟩:∃k,a=k+1:=⟨a-1,af⟩;exact .len c (l af)
 |read c=>intro a j;obtain⟨k,rfl⟩:∃k,a=k+1:=⟨a-1,af⟩;exact .read c
 |sign c i _ l=>intro a j;obtain⟨k,rfl⟩:∃k,a=k+1:=⟨a-1,af⟩;exact .sign c i (l af)
 |bin c i n _ _ ih1 ih2=>intro a j;exact .bin c i n (ih1 j) (ih2 j)
def cm.at{d m:Nat}{e:aL}(h:cm d 0 e)(hm:m<=e.cp):cm d m e:=by
 have n:=(u6 e.kind).2;have j:m<=7:=Nat.le_trans hm n;cases h with
 |par _ h _=>omega
 |int i a c=>exact .int j a c
 |bool i a=>exact .bool j a
 |null i a=>exact .null j a
 |var i a=>exact .var j a
 |field i a c=>exact .field j a c
 |item i a c=>exact .item j a c
 |call i a c=>exact .call j a c
 |new i a=>exact .new j a
 |make i a c=>exact .make j a c
 |len i a=>exact .len j a
 |read i=>exact .read j
 |sign i a c=>exact .sign (by rcases a with rfl|rfl<;>exact hm) a c
 |bin i a c k l=>exact .bin hm a c k l
def cm.low{d m:Nat}{e:aL}(h:cm d m e){m':Nat}(hm:m'<=m):cm d m' e:=by
 cases h with
 |par a c j=>
  by_cases l:e.cp<m'
  ·exact .par a l af
  ·exact(a.at af).more (Nat.le_succ _)
 |int i a c=>exact .int af a c
 |bool i a=>exact .bool af a
 |null i a=>exact .null af a
 |var i a=>exact .var af a
 |field i a c=>exact .field af a c
 |item i a c=>exact .item af a c
 |call i a c=>exact .call af a c
 |new i a=>exact .new af a
 |make i a c=>exact .make af a c
 |len i a=>exact .len af a
 |read i=>exact .read af
 |sign i a c=>exact .sign af a c
 |bin i a c j k=>exact .bin af a c j k
def cm.up{d:Nat}{e:aL}(h:cm d 0 e){m:Nat}(hm:m<=7):cm (d+1) m e:=by
 by_cases a:e.cp<m
 ·exact .par h a hm
 ·exact(h.at af).more (Nat.le_succ _)
mutual
def cF:aL->Nat
 | .mk a kids=>40+a.name.length+a.cc.length+b1 kids
def b1:List aL->Nat
 |[]=>0
 |e::r=>cF e+b1 r
end
def EA:∀(l:List aL) (e:aL),b1 (l++[e])=b1 l+cF e
 |[],e=>by simp[b1]
 |x::l,e=>by rw[List.cons_append,b1,EA l e,b1];omega
structure In(E:Int)(s:av):Prop where
 a:0<=s.at_
 b:s.at_<=E
 c:0<=s.bP
 d:s.bP<=50
structure bR(E:Int)(s s':av)(k:Int):Prop where
 f:s.aF=0
 iy:s'.aF=0
 ai:s'.bP=s.bP
 a:s.at_+k<=s'.at_
 b:s'.at_<=E
structure Good(T:List Tok)(E:Int):Prop where
 n:E<=20000000
 lt:∀a,(au T a).kind≠0->a<E
 t:∀t∈T,jX t\/t.kind=0
section
variable {T:List Tok}{E:Int}{s s' s2:av}
def bR.trans{k l:Int}(h:bR E s s' k)(ba:bR E s' s2 l):bR E s s2 (k+l):=⟨h.f,ba.iy,ba.ai.trans h.ai,by have:=h.a;have:=ba.a;omega,ba.b⟩
def bR.less{k l:Int}(h:bR E s s' k)(c:l<=k):bR E s s' l:=⟨h.f,h.iy,h.ai,by have:=h.a;omega,h.b⟩
def bR.in{k:Int}(e:In E s)(h:bR E s s' k)(i:0<=k):In E s':=⟨by have:=h.a;have:=e.a;omega,h.b,by rw[h.ai];exact e.c,by rw[h.ai];exact e.d⟩
def bR.refl(a:In E s)(h:s.aF=0):bR E s s 0:=⟨h,h,rfl,af,a.b⟩
def wh{a:Int}(h:(au T a).kind≠0):0<=a/\a<T.length/\au T a∈T:=by
 unfold au at h ⊢;split at h
 ·exact absurd rfl h
 ·rename_i c;have:a.toNat<T.length:=af;rw[if_neg c,List.getElem?_eq_getElem this,Option.getD_some];exact⟨af,af,List.getElem_mem _⟩
def DZ(aE:Good T E){a:Int}(h:(au T a).kind≠0):jX (au T a):=(aE.t _ (wh h).2.2).resolve_right h
def My(aE:Good T E){a:Int}(h:(au T a).kind=1):en (au T a).text=true:=by
 rcases DZ aE (a:=a) af with ba|ba|ba|ba
 ·exact ba.2.2
 all_goals omega
def Mx(aE:Good T E){a:Int}(h:(au T a).kind=2):0<=(au T a).n/\(au T a).n<=9223372036854775807:=by
 rcases DZ aE (a:=a) af with ba|ba|ba|ba
 ·omega
 ·omega
 ·exact ba.2.2
 ·omega
def go_ok(aE:Good T E)(d:In E s)(c:s.aF=0)(h:(au T s.at_).kind≠0):aD s={s with at_:=s.at_+1}/\bR E s (aD s) 1:=by
 have j:=aE.lt _ h;have k:=aE.n;have i:=d.a;have e:aD s={s with at_:=s.at_+1}:=by
  unfold aD jP;rw[IntWalk.i64_in _ ⟨af,af⟩]
 refine⟨e,?_⟩;rw[e];exact⟨c,c,rfl,by simp,by simp only;omega⟩
def eT{e:Int}(he:e≠0):(cL T e s).aF≠0:=by
 unfold cL;split
 ·exact he
 ·assumption
def dW{x:aK}(h:a1 T s x=X):s.aF=0/\(au T s.at_).kind=kw x/\(au T s.at_).text=x:=uJ h
def uP(x:aK):kw x≠0:=by
 unfold kw;split
 ·split<;>decide
 ·decide
def fl(aE:Good T E)(d:In E s){x:aK}(h:a1 T s x=X):bR E s (aD s) 1:=by
 obtain⟨a,c,-⟩:=dW h;exact(go_ok aE d a (by rw[c];exact uP x)).2
abbrev cJ(E:Int)(s:av):Prop:=s.aF=0->In E s
def bR.fE{k:Int}(a:cJ E s)(h:bR E s s' k)(c:0<=k):cJ E s':=λ_=>h.in (a h.f) c
def eB(aE:Good T E)(c:cJ E s){x:aK}(h:(bl T x s).aF=0):a1 T s x=X/\bl T x s=aD s/\bR E s (bl T x s) 1:=by
 unfold bl at h ⊢;cases a:a1 T s x with
 |true=>rw[aZ];exact⟨rfl,rfl,fl aE (c (dW a).1) a⟩
 |false=>rw[a,aT]at h;exact absurd h (eT cu)
def j7(aE:Good T E)(c:cJ E s)(h:(bu T s).2.aF=0):en (bu T s).1=X/\bR E s (bu T s).2 1:=by
 unfold bu at h ⊢;cases a:(s.aF==0&&(au T s.at_).kind==1)with
 |true=>
  simp only[Bool.and_eq_true,beq_iff_eq]at a;rw[aZ];exact⟨My aE a.2,(go_ok aE (c a.1) a.1 af).2⟩
 |false=>rw[a,aT]at h;exact absurd h (eT cu)
def eO{x:aK}(h:en x=X):x.length<=8:=by
 simp only[en,Bool.and_eq_true,decide_eq_true_eq]at h;exact h.2.1
def gq{x:aK}{d:Int}(h:jU x d):x.length<=8:=by
 rcases h.2.2 with h|rfl|rfl
 ·exact eO h
 ·decide
 ·decide
def iG(aE:Good T E)(d:cJ E s){x:aK}(h:(cN T x s).aF=0):a1 T s x=X/\s.aF=0/\(cN T x s).bP=s.bP+1/\(cN T x s).at_=s.at_+1/\In E (cN T x s)/\s.bP+1<=50:=by
 unfold cN at h ⊢;cases i:a1 T s x&&decide (50<=s.bP)with
 |true=>rw[i,aZ]at h;exact absurd h (eT cu)
 |false=>
  rw[i,aT]at h;rw[aT];have ba:(bl T x s).aF=0:=h;obtain⟨j,o,l⟩:=eB aE d ba;obtain⟨k,p,-⟩:=dW j;have d:=d k;obtain⟨g1,-⟩:=go_ok aE d k (by rw[p];exact uP x);rw[j,Bool.true_and]at i;have v:s.bP<50:=by have:=of_decide_eq_false i;omega
  have q:=d.c;have e:jP (s.bP+1)=s.bP+1:=IntWalk.i64_in _ ⟨af,af⟩;have m:=l.a;have n:=l.b;have u:=d.a;rw[o,g1]at m n ⊢;simp only[eU,e]at m n ⊢;exact⟨j,k,trivial,trivial,⟨by simp only;omega,by simp only;omega,by simp only;omega,by simp only;omega⟩,af⟩
def vl(a:In E s):eo s={s with bP:=s.bP-1}:=by
 have:=a.c;have:=a.d;unfold eo jP;rw[IntWalk.i64_in _ ⟨af,af⟩]
def pM(aE:Good T E){k:Int}(l:0<=k)(p:s.bP+1=s'.bP)(o:s.at_+1=s'.at_)(e:s.aF=0)(i:In E s')(hw:bR E s' s2 k){x:aK}(h:(dn T x s2).aF=0):bR E s (dn T x s2) (k+2):=by
 have ba:(bl T x s2).aF=0:=h;have d:=hw.in i l;obtain⟨m,n,c⟩:=eB aE (λ_=>d) ba;have j:=c.in d af;unfold dn at h ⊢;rw[vl j]at h ⊢;have aS:=hw.a;have a2:=c.a;have bH:=hw.ai;have bX:=c.ai;exact⟨e,h,by simp only;omega,by simp only;omega,c.b⟩
def wc(aE:Good T E){x:aK}:∀(n:Nat) (s:av),cJ E s->(takeN T x n s).aF=0->bR E s (takeN T x n s) n
 |0,s,c,h=> .refl (c h) h
 |n+1,s,c,h=>by
  have a:(bl T x s).aF=0:=by
   by_cases a:(bl T x s).aF=0
   ·exact a
   ·exfalso;have key:∀(n:Nat) (s:av),s.aF≠0->(takeN T x n s).aF≠0:=by
     intro n
     induction n with
     |zero=>intro s aB;exact aB
     |succ n e=>intro s aB;exact e _ (by unfold bl;rw[ev aB,aT,fk aB];exact aB)
    exact key n _ a h
  obtain⟨-,-,d⟩:=eB aE c a;have:=d.trans (wc aE n _ (d.fE c af) h);exact this.less af
def B0(aE:Good T E):∀(n:Nat) (d:Int) (s:av) {q:Int×av},In E s->0<=d->gp T n d s= .inl q->s.aF=0->d<=q.1/\q.1<=d+n/\bR E s q.2 (q.1-d)/\a1 T q.2 [91]=U
 |0,d,s,q,c,l,h,e=>by
  rw[gp]at h;cases a:a1 T s [91]with
  |true=>rw[a,aZ]at h;cases h
  |false=>
   rw[a,aT]at h;cases h;exact⟨Int.le_refl _,by simp,(bR.refl c e).less (by simp),a⟩
 |n+1,d,s,q,c,l,h,e=>by
  rw[gp]at h;cases a:a1 T s [91]with
  |true=>
   rw[a,aZ]at h;have i:=fl aE c a;obtain⟨m,o,j,k⟩:=B0 aE n (d+1) _ (i.in c af) af h i.iy;exact⟨af,af,(i.trans j).less af,k⟩
  |false=>
   rw[a,aT]at h;cases h;exact⟨Int.le_refl _,af,(bR.refl c e).less (by simp),a⟩
def Ix:∀(n:Nat) (d:Int) (s:av),s.aF≠0->gp T n d s= .inl (d,s)
 |0,d,s,h=>by rw[gp,ev h];rfl
 |n+1,d,s,h=>by rw[gp,ev h];rfl
def wa{x:aK}:∀(n:Nat) (s:av),s.aF≠0->(takeN T x n s).aF≠0
 |0,s,aB=>aB
 |n+1,s,aB=>wa n _ (by unfold bl;rw[ev aB,aT,fk aB];exact aB)
def oy(aE:Good T E)(k:cJ E s)(h:(cM T s).2.aF=0):jU (cM T s).1.1 (cM T s).1.2/\bR E s (cM T s).2 1:=by
 have c:s.aF=0:=by
  by_cases c:s.aF=0
  ·exact c
  ·exfalso;unfold cM at h;rw[Ix 3 0 s c]at h;simp only[fm,ev c,Bool.or_self,aT,BN c]at h;exact wa _ _ c h
 have k:=k c;unfold cM at h ⊢;cases l:gp T 3 0 s with
 |inr s'=>
  exfalso;rw[l]at h;have key:∀(n:Nat) (d:Int) (s:av) {s':av},gp T n d s= .inr s'->s'.aF≠0:=by
   intro n
   induction n with
   |zero=>
    intro d s s' h;rw[gp]at h;cases a:a1 T s [91]<;>rw[a]at h<;>cases h;exact eT cu
   |succ n v=>
    intro d s s' h;rw[gp]at h;cases a:a1 T s [91]<;>rw[a]at h
    ·cases h
    ·exact v _ _ h
  exact key _ _ _ l h
 |inl q=>
  obtain⟨m,o,i,-⟩:=B0 aE 3 0 s k af l c;rw[l]at h;obtain⟨d,s1⟩:=q;simp only at h m o i ⊢;have e:=i.in k af;unfold fm at h ⊢;cases a:a1 T s1 [105,110,116]||a1 T s1 [98,111,111,108]with
  |true=>
   rw[a,aZ]at h;rw[aZ];have p:bR E s1 (aD s1) 1/\((au T s1.at_).text=[105,110,116]\/(au T s1.at_).text=[98,111,111,108]):=by
    rcases Bool.or_eq_true_iff.1 a with a|a
    ·exact⟨fl aE e a,.inl (dW a).2.2⟩
    ·exact⟨fl aE e a,.inr (dW a).2.2⟩
   have u:=wc aE _ _ (p.1.fE (λ_=>e) af) h;exact⟨⟨m,by simpa using o,.inr p.2⟩,((i.trans p.1).trans u).less af⟩
  |false=>
   rw[a,aT]at h;rw[aT];have j:(bu T s1).2.aF=0:=by
    by_cases j:(bu T s1).2.aF=0
    ·exact j
    ·exact absurd h (wa _ _ j)
   obtain⟨w,n2⟩:=j7 aE (λ_=>e) j;have u:=wc aE _ _ (n2.fE (λ_=>e) af) h;exact⟨⟨m,by simpa using o,.inl w⟩,((i.trans n2).trans u).less af⟩
end
def gk(ai a0:Int)(m:Nat)(e:aL)(aS:Int):Prop:=(cF e:Int)<=60*(aS-a0)/\∃d:Nat,ai+d<=50/\cm d m e
def gk.low{ai a0 aS:Int}{m m':Nat}{e:aL}(h:gk ai a0 m e aS)(hm:m'<=m):gk ai a0 m' e aS:=⟨h.1,h.2.imp λ_ h=>⟨h.1,h.2.low hm⟩⟩
def gk.wide{ai a0 aS a c:Int}{m:Nat}{e:aL}(h:gk ai a0 m e aS)(d:a<=a0)(i:aS<=c):gk ai a m e c:=⟨by have:=h.1;omega,h.2⟩
def sZ{a:bM}(d:a.name.length<=8)(c:a.cc=[]):(cF (.mk a []):Int)<=60:=by simp[cF,b1,c];omega
def Ey{a:bM}(d:a.cc.length<=8)(c:a.name=[]):(cF (.mk a []):Int)<=60:=by simp[cF,b1,c];omega
def s3{a:bM}{e:aL}(c:a.name.length+a.cc.length<=8):(cF (.mk a [e]):Int)<=60+cF e:=by simp[cF,b1];omega
def Ez{a:bM}{e f:aL}(c:a.name.length+a.cc.length<=8):(cF (.mk a [e,f]):Int)<=60+cF e+cF f:=by simp[cF,b1];omega
def MO{a:bM}{l:List aL}(c:a.name.length+a.cc.length<=8):(cF (.mk a l):Int)<=60+b1 l:=by simp[cF];omega
structure Fb(T:List Tok)(E:Int)(n:Nat):Prop where
 expr:∀lev s p,lev<=5->cJ E s->dP T n lev s=some p->p.2.aF=0->bR E s p.2 1/\gk s.bP s.at_ (lev+1) p.1 p.2.at_
 yn:∀lev e a0 s p,lev<=4->cJ E s->(s.aF=0->gk s.bP a0 (lev+1) e s.at_)->hJ T n lev e s=some p->p.2.aF=0->bR E s p.2 0/\gk s.bP a0 (lev+1) p.1 p.2.at_
 unary:∀s p,cJ E s->ji T n s=some p->p.2.aF=0->bR E s p.2 1/\gk s.bP s.at_ 6 p.1 p.2.at_
 sign:∀k s p,k=12\/k=13->cJ E s->ky T n k s=some p->p.2.aF=0->bR E s p.2 1/\gk s.bP s.at_ 6 p.1 p.2.at_
 behind:∀e a0 s p,cJ E s->(s.aF=0->gk s.bP a0 7 e s.at_)->fi T n e s=some p->p.2.aF=0->bR E s p.2 0/\gk s.bP a0 7 p.1 p.2.at_
 inner:∀s p,cJ E s->gU T n s=some p->p.2.aF=0->bR E s p.2 1/\gk (s.bP+1) s.at_ 0 p.1 p.2.at_
 first:∀s p,cJ E s->hK T n s=some p->p.2.aF=0->bR E s p.2 1/\gk s.bP s.at_ 7 p.1 p.2.at_
 fresh:∀pos s p,cJ E s->j3 T n pos s=some p->p.2.aF=0->bR E s p.2 1/\gk s.bP (s.at_-1) 7 p.1 p.2.at_
 args:∀s p,cJ E s->h1 T n s=some p->p.2.aF=0->bR E s p.2 1/\(b1 p.1:Int)<=60*(p.2.at_-s.at_)/\∃d:Nat,s.bP+1+d<=50/\∀e∈p.1,cm d 0 e
 xg:∀l a0 s p,cJ E s->1<=s.bP->(s.aF=0->(b1 l:Int)<=60*(s.at_-a0)/\∃d:Nat,s.bP+d<=50/\∀e∈l,cm d 0 e)->gT T n l s=some p->p.2.aF=0->(s.aF=0/\p.2.bP=s.bP-1/\s.at_+1<=p.2.at_/\p.2.at_<=E)/\(b1 p.1:Int)<=60*(p.2.at_-a0)/\∃d:Nat,s.bP+d<=50/\∀e∈p.1,cm d 0 e
def fj{α β:Type}{x:Option α}{f:α->Option β}{b:β}(h:x.bind f=D b):∃a,x=D a/\f a=D b:=cR.1 h
def Ba{x:aK}:∀l:List (aK×Int),j6 x l≠0->∃k,(x,k)∈l/\j6 x l=k
 |[],h=>absurd rfl h
 |(y,k)::r,h=>by
  rw[j6]at h ⊢;cases a:y==x with
  |true=>
   obtain rfl:y=x:=by simpa using a
   rw[aZ];exact⟨k,List.mem_cons_self,rfl⟩
  |false=>
   rw[a,aT]at h;rw[aT];obtain⟨k,c,d⟩:=Ba r h;exact⟨k,List.mem_cons_of_mem _ c,d⟩
def Il(lev:Nat):Bool:=(jC[lev]?.getD []).all λp=>decide (14<=p.2)&&decide (p.2<=24)&&c6 p.2==lev+1
def Im:(List.range 5).all Il=true:=by decide+kernel
def Ib{lev:Nat}(e:lev<=4){t:Tok}(h:ez lev t≠0):t.kind=4/\14<=ez lev t/\ez lev t<=24/\c6 (ez lev t)=lev+1/\(t.text,ez lev t)∈jC[lev]?.getD []:=by
 unfold ez at h ⊢;cases a:(t.kind != 4)with
 |true=>rw[a,aZ]at h;exact absurd rfl h
 |false=>
  rw[a,aT]at h;rw[aT];obtain⟨k,c,d⟩:=Ba _ h;have:=List.all_eq_true.1 (List.all_eq_true.1 Im lev (List.mem_range.2 af)) _ c;simp only[Bool.and_eq_true,decide_eq_true_eq,beq_iff_eq]at this;rw[d];exact⟨by simpa using a,this.1.1,this.1.2,this.2,c⟩
def pI{ai:Int}{d a:Nat}(h:ai+d<=50)(ba:ai+a<=50):ai+(max d a:Nat)<=50:=af
def vs{T:List Tok}{E:Int}(aE:Good T E):∀n,Fb T E n
 |0=>by
  constructor<;>intros<;>rename_i h _<;>first|cases h|skip
 |n+1=>by
  have x:=vs aE n;refine⟨?_,?_,?_,?_,?_,?_,?_,?_,?_,?_⟩
  ·intro lev s p ao i h aG;rw[dP]at h;split at h
   ·rename_i S;subst S;exact x.unary s p i h aG
   ·obtain⟨q,g1,g2⟩:=fj h;have u:=λj=>x.expr (lev+1) s q af i g1 j
    obtain⟨y,A⟩:=x.yn lev q.1 s.at_ q.2 p af (λj=>(u j).1.in (i (u j).1.f) af) (λj=>by rw[(u j).1.ai];exact(u j).2.low af) g2 aG;have u:=u y.f;exact⟨(u.1.trans y).less af,by rw[u.1.ai]at A;exact A⟩
  ·intro lev e a0 s p ao i he h aG;rw[hJ]at h;cases B:(s.aF==0&&ez lev (au T s.at_) != 0)with
   |false=>
    rw[B,aT]at h;cases h;exact⟨.refl (i aG) aG,he aG⟩
   |true=>
    rw[B,aZ]at h;simp only[Bool.and_eq_true,beq_iff_eq,bne_iff_ne,ne_eq]at B;obtain⟨m,aM⟩:=B;obtain⟨aW,aR,aS,aC,-⟩:=Ib ao aM;have o:=(go_ok aE (i m) m af).2;have L:=o.in (i m) af;obtain⟨q,g1,g2⟩:=fj h;have u:=λj=>x.expr (lev+1) (aD s) q af (λ_=>L) g1 j
    have key:∀j:q.2.aF=0,gk q.2.bP a0 (lev+1) (.mk {kind:=ez lev (au T s.at_),pos:=(au T s.at_).pos} [e,q.1]) q.2.at_:=by
     intro j;obtain⟨v,R,d,O,F⟩:=u j;obtain⟨i2,H,i3,i4⟩:=he m;have:=Ez (a:={kind:=ez lev (au T s.at_),pos:=(au T s.at_).pos}) (e:=e) (f:=q.1) (by simp);have P:=o.a;have go:=o.ai;have al:=v.ai;refine⟨af,max d H,by rw[al,go];exact pI (by rw[<-go];exact O) i3,?_⟩;refine .bin af aR aS ?_ ?_
     ·rw[aC];exact i4.more af
     ·rw[aC];exact F.more af
    obtain⟨y,A⟩:=x.yn lev _ a0 q.2 p ao (λj=>(u j).1.in L af) key g2 aG;have u:=u y.f;refine⟨((o.trans u.1).trans y).less af,?_⟩;rw[u.1.ai,o.ai]at A;exact A
  ·intro s p i h aG;rw[ji]at h;cases w:a1 T s [45]with
   |true=>rw[w,aZ]at h;exact x.sign 12 s p (.inl rfl) i h aG
   |false=>
    rw[w,aT]at h;cases W:a1 T s [33]with
    |true=>rw[W,aZ]at h;exact x.sign 13 s p (.inr rfl) i h aG
    |false=>
     rw[W,aT]at h;obtain⟨q,g1,g2⟩:=fj h;have u:=λj=>x.first s q i g1 j
     obtain⟨y,A⟩:=x.behind q.1 s.at_ q.2 p (λj=>(u j).1.in (i (u j).1.f) af) (λj=>by rw[(u j).1.ai];exact(u j).2) g2 aG;have u:=u y.f;exact⟨(u.1.trans y).less af,by rw[u.1.ai]at A;exact A.low af⟩
  ·intro k s p aL i h aG;rw[ky]at h;obtain⟨q,g1,g2⟩:=fj h;cases g2;have j:q.2.aF=0:=aG;have aO:(cN T (au T s.at_).text s).aF=0->cJ E (cN T (au T s.at_).text s):=λm _=>(iG aE i m).2.2.2.2.1
   obtain⟨v,R,d,O,F⟩:=x.expr 5 _ q af (λm=>aO m m) g1 j;obtain⟨bH,bX,cj,dq,G,ag⟩:=iG aE i v.f;have aJ:=v.in G af;have aN:=vl aJ;simp only[aN]at aG ⊢;have az:=v.a;have al:=v.ai;have aq:=v.b;have:=s3 (a:={kind:=k,pos:=(au T s.at_).pos}) (e:=q.1) (by simp);refine⟨⟨bX,aG,by(try simp only);omega,by(try simp only);omega,aq⟩,by(try simp only);omega,d+1,af,.sign af aL F⟩
  ·intro e a0 s p i he h aG;rw[fi]at h;cases w:a1 T s [46]with
   |true=>
    rw[w,aZ]at h;have m:=(dW w).1;have o:=fl aE (i m) w;have L:=o.in (i m) af;have V:=λj=>j7 aE (s:=aD s) (λ_=>L) j
    obtain⟨i2,H,i3,i4⟩:=he m;obtain⟨y,A⟩:=x.behind _ a0 _ p (λj=>(V j).2.in L af) (λj=>by
     obtain⟨N,n2⟩:=V j;have:=s3 (a:={kind:=5,name:=(bu T (aD s)).1,pos:=(au T s.at_).pos}) (e:=e) (by have:=eO N;simp;omega);have ax:=n2.a;have P:=o.a;refine⟨af,H,by rw[n2.ai,o.ai];exact i3,.field af N i4⟩) h aG
    have n2:=(V y.f).2;refine⟨((o.trans n2).trans y).less af,?_⟩;rw[n2.ai,o.ai]at A;exact A
   |false=>
    rw[w,aT]at h;cases W:a1 T s [91]with
    |true=>
     rw[W,aZ]at h;have m:=(dW W).1;obtain⟨q,g1,g2⟩:=fj h;obtain⟨i2,H,i3,i4⟩:=he m;have u:=λj=>x.expr 0 _ q af (λm=>(iG aE i m).2.2.2.2.1) g1 j
     have aI:(dn T [93] q.2).aF=0->q.2.aF=0:=λM=>by
      have ba:(bl T [93] q.2).aF=0:=M;unfold bl at ba;cases K:a1 T q.2 [93]with
      |true=>exact(dW K).1
      |false=>rw[K,aT]at ba;exact absurd ba (eT cu)
     have key:∀M:(dn T [93] q.2).aF=0,bR E s (dn T [93] q.2) 3/\gk s.bP a0 7 (.mk {kind:=6,pos:=(au T s.at_).pos} [e,q.1]) (dn T [93] q.2).at_:=by
      intro M;obtain⟨v,R,d,O,F⟩:=u (aI M);obtain⟨bH,bX,cj,dq,G,ag⟩:=iG aE i v.f;have B:=pM aE af cj.symm dq.symm m G v M;have am:=B.a;have aq:q.2.at_+1<=(dn T [93] q.2).at_:=by
       have ba:(bl T [93] q.2).aF=0:=M;have:=(eB aE (λ_=>v.in G af) ba).2.2.a;exact this
      have:=Ez (a:={kind:=6,pos:=(au T s.at_).pos}) (e:=e) (f:=q.1) (by simp);refine⟨B.less af,af,max H (d+1),pI i3 af,?_⟩;obtain⟨z,K⟩:∃z,max H (d+1)=z+1:=⟨max H (d+1)-1,af⟩;rw[K];exact .item af (i4.more af) ((F.low af).more af)
     obtain⟨y,A⟩:=x.behind _ a0 _ p (λM=>(key M).1.in (i m) af) (λM=>by rw[(key M).1.ai];exact(key M).2) g2 aG;have ad:=(key y.f).1;refine⟨(ad.trans y).less af,?_⟩;rw[ad.ai]at A;exact A
    |false=>
     rw[W,aT]at h;cases h;exact⟨.refl (i aG) aG,he aG⟩
  ·intro s p i h aG;rw[gU]at h;obtain⟨q,g1,g2⟩:=fj h;cases g2;have j:q.2.aF=0:=by
    have ba:(bl T [41] q.2).aF=0:=aG;unfold bl at ba;cases K:a1 T q.2 [41]with
    |true=>exact(dW K).1
    |false=>rw[K,aT]at ba;exact absurd ba (eT cu)
   obtain⟨v,R,d,O,F⟩:=x.expr 0 _ q af (λm=>(iG aE i m).2.2.2.2.1) g1 j;obtain⟨bH,bX,cj,dq,G,ag⟩:=iG aE i v.f;have B:=pM aE af cj.symm dq.symm bX G v aG;have am:=B.a;have aq:q.2.at_+1<=(dn T [41] q.2).at_:=by
    have ba:(bl T [41] q.2).aF=0:=aG;exact(eB aE (λ_=>v.in G af) ba).2.2.a
   refine⟨B.less af,by(try simp only);omega,d,by rw[<-cj];exact O,F.low af⟩
  ·intro s p i h aG;rw[hK]at h;cases u:(s.aF==0&&(au T s.at_).kind==2)with
   |true=>
    rw[u,aZ]at h;cases h;simp only[Bool.and_eq_true,beq_iff_eq]at u;have o:=(go_ok aE (i u.1) u.1 af).2;have V:=Mx aE u.2;have P:=o.a;have:=sZ (a:={kind:=1,n:=(au T s.at_).n,pos:=(au T s.at_).pos}) (by simp) rfl;have Q:=(i u.1).d;exact⟨o,by(try simp only);omega,0,by simpa using Q,.int af V.1 V.2⟩
   |false=>
    rw[u,aT]at h;cases aa:(a1 T s [116,114,117,101]||a1 T s [102,97,108,115,101])with
    |true=>
     rw[aa,aZ]at h;cases h;have o:bR E s (aD s) 1:=by
      rcases Bool.or_eq_true_iff.1 aa with w|w<;>exact fl aE (i (dW w).1) w
     have P:=o.a;have Q:=(i o.f).d;have:=sZ (a:={kind:=2,n:=bif (au T s.at_).text==[116,114,117,101]then 1 else 0,pos:=(au T s.at_).pos}) (by simp) rfl;refine⟨o,by(try simp only);omega,0,by simpa using Q,.bool af ?_⟩;cases(au T s.at_).text==[116,114,117,101]
     ·exact .inl rfl
     ·exact .inr rfl
    |false=>
     rw[aa,aT]at h;cases ah:a1 T s [110,117,108,108]with
     |true=>
      rw[ah,aZ]at h;cases h;have m:=(dW ah).1;have o:=fl aE (i m) ah;obtain⟨bH,bX⟩:=oy aE (o.fE i af) aG;have P:=o.a;have aQ:=bX.a;have Q:=(i m).d;have:=Ey (a:={kind:=3,cc:=(cM T (aD s)).1.1,c4:=(cM T (aD s)).1.2,pos:=(au T s.at_).pos}) (gq bH) rfl;exact⟨(o.trans bX).less af,by(try simp only);omega,0,by simpa using Q,.null af bH⟩
     |false=>
      rw[ah,aT]at h;cases ab:a1 T s [110,101,119]with
      |true=>
       rw[ab,aZ]at h;have m:=(dW ab).1;have o:=fl aE (i m) ab;obtain⟨y,A⟩:=x.fresh _ _ p (o.fE i af) h aG;have P:=o.a;have ge:=(go_ok aE (i m) m (by rw[(dW ab).2.1];exact uP _)).1;rw[o.ai]at A;exact⟨(o.trans y).less af,A.wide (by rw[ge];simp) (Int.le_refl _)⟩
      |false=>
       rw[ab,aT]at h;cases S:a1 T s [108,101,110]with
       |true=>
        rw[S,aZ]at h;have m:=(dW S).1;have o:=fl aE (i m) S;obtain⟨q,g1,g2⟩:=fj h;cases g2;obtain⟨v,R,d,O,F⟩:=x.inner _ q (o.fE i af) g1 aG;have P:=o.a;have go:=o.ai;have:=s3 (a:={kind:=10,pos:=(au T s.at_).pos}) (e:=q.1) (by simp);exact⟨(o.trans v).less af,by(try simp only);omega,d+1,af,.len af F⟩
       |false=>
        rw[S,aT]at h;cases ak:a1 T s [114,101,97,100]with
        |true=>
         rw[ak,aZ]at h;cases h;have m:=(dW ak).1;have o:=fl aE (i m) ak;have j:(cN T [40] (aD s)).aF=0:=by
          have ba:(bl T [41] (cN T [40] (aD s))).aF=0:=aG;unfold bl at ba;cases K:a1 T (cN T [40] (aD s)) [41]with
          |true=>exact(dW K).1
          |false=>rw[K,aT]at ba;exact absurd ba (eT cu)
         obtain⟨bH,bX,cj,dq,G,ag⟩:=iG aE (o.fE i af) j;have B:=pM aE (k:=0) af cj.symm dq.symm bX G (.refl G j) aG;have P:=o.a;have go:=o.ai;have am:=B.a;have:=sZ (a:={kind:=11,pos:=(au T s.at_).pos}) (by simp) rfl;exact⟨(o.trans B).less af,by(try simp only);omega,1,af,.read af⟩
        |false=>
         rw[ak,aT]at h;cases ay:a1 T s [40]with
         |true=>
          rw[ay,aZ]at h;obtain⟨v,R,d,O,F⟩:=x.inner s p i h aG;exact⟨v,R,d+1,af,F.up af⟩
         |false=>
          rw[ay,aT]at h;have Q:s.aF=0->s.bP<=50:=λm=>(i m).d
          cases an:a1 T (bu T s).2 [40]with
          |true=>
           rw[an,aZ]at h;obtain⟨q,g1,g2⟩:=fj h;cases g2;obtain⟨N,n2⟩:=j7 aE i (dW an).1;obtain⟨y,A,d,ad,ae⟩:=x.args _ q (n2.fE i af) g1 aG;have ax:=n2.a;have no:=n2.ai;have:=MO (a:={kind:=7,name:=(bu T s).1,pos:=(au T s.at_).pos}) (l:=q.1) (by have:=eO N;simp;omega);exact⟨(n2.trans y).less af,by(try simp only);omega,d+1,af,.call af N ae⟩
          |false=>
           rw[an,aT]at h;cases h;obtain⟨N,n2⟩:=j7 aE i aG;have ax:=n2.a;have:=sZ (a:={kind:=4,name:=(bu T s).1,pos:=(au T s.at_).pos}) (eO N) rfl;exact⟨n2,by(try simp only);omega,0,by simpa using Q n2.f,.var af N⟩
  ·intro pos s p i h aG;rw[j3]at h;cases w:a1 T s [91]with
   |true=>
    rw[w,aZ]at h;obtain⟨q,g1,g2⟩:=fj h;cases g2;have m:=(dW w).1;have o:=fl aE (i m) w;have L:=o.in (i m) af;have ap:=λj:(bl T [93] (cM T (aD s)).2).aF=0=>by
     have aa:(cM T (aD s)).2.aF=0:=by
      unfold bl at j;cases K:a1 T (cM T (aD s)).2 [93]with
      |true=>exact(dW K).1
      |false=>rw[K,aT]at j;exact absurd j (eT cu)
     have ai:=oy aE (λ_=>L) aa;exact aj ai (eB aE (λ_=>ai.2.in L af) j).2.2
    obtain⟨v,R,d,O,F⟩:=x.inner _ q (λj=>((ap j).1.2.trans (ap j).2).in L af) g1 aG;obtain⟨⟨bH,bX⟩,cj⟩:=ap v.f;have P:=o.a;have go:=o.ai;have aQ:=bX.a;have aV:=bX.ai;have aU:=cj.a;have to:=cj.ai;have:=s3 (a:={kind:=9,cc:=(cM T (aD s)).1.1,c4:=(cM T (aD s)).1.2,pos:=pos}) (e:=q.1) (by have:=gq bH;simp;omega);exact⟨(((o.trans bX).trans cj).trans v).less af,by(try simp only);omega,d+1,af,.make af bH F⟩
   |false=>
    rw[w,aT]at h;cases h;obtain⟨N,n2⟩:=j7 aE i aG;have ax:=n2.a;have Q:=(i n2.f).d;have:=Ey (a:={kind:=8,cc:=(bu T s).1,pos:=pos}) (eO N) rfl;exact⟨n2,by(try simp only);omega,0,by simpa using Q,.new af N⟩
  ·intro s p i h aG;rw[h1]at h;cases w:a1 T (cN T [40] s) [41]with
   |true=>
    rw[w,aZ]at h;cases h;obtain⟨bH,bX,cj,dq,G,ag⟩:=iG aE i (dW w).1;have B:=pM aE (k:=0) af cj.symm dq.symm bX G (.refl G (dW w).1) aG;have am:=B.a;refine⟨B.less af,by simp only[b1];omega,0,af,λe he=>by cases he⟩
   |false=>
    rw[w,aT]at h;obtain⟨q,g1,g2⟩:=fj h;have u:=λj=>x.expr 0 _ q af (λm=>(iG aE i m).2.2.2.2.1) g1 j
    have aH:=λj=>iG aE i (u j).1.f
    by_cases j:q.2.aF=0
    ·obtain⟨v,R,d,O,F⟩:=u j;obtain⟨bH,bX,cj,dq,G,ag⟩:=aH j;have al:=v.ai;have az:=v.a;have B:=(i bX).c;obtain⟨⟨y,A,ad,ae⟩,av,H,aP,aw⟩:=x.xg [q.1] s.at_ q.2 p (λ_=>v.in G af) af (λ_=>⟨by simp only[b1];omega,d,af,λe he=>by
      simp only[List.mem_cons,List.not_mem_nil,or_false]at he;subst he;exact F.low af⟩) g2 aG
     exact⟨⟨bX,aG,af,af,ae⟩,av,H,af,aw⟩
    ·exfalso;cases n with
     |zero=>rw[gT]at g2;cases g2
     |succ n=>
      rw[gT,ev j,aT]at g2;cases g2;have ba:(bl T [41] q.2).aF=0:=aG;unfold bl at ba;rw[ev j,aT]at ba;exact absurd ba (eT cu)
  ·intro l a0 s p i aB he h aG;rw[gT]at h;cases w:a1 T s [44]with
   |true=>
    rw[w,aZ]at h;obtain⟨q,g1,g2⟩:=fj h;have m:=(dW w).1;have o:=fl aE (i m) w;have L:=o.in (i m) af;have u:=λj=>x.expr 0 _ q af (λ_=>L) g1 j
    by_cases j:q.2.aF=0
    ·obtain⟨v,R,d,O,F⟩:=u j;obtain⟨i2,H,i3,i4⟩:=he m;have go:=o.ai;have P:=o.a;have al:=v.ai;have az:=v.a;obtain⟨⟨y,A,ad,ae⟩,av,d2,aP,aw⟩:=x.xg (l++[q.1]) a0 q.2 p (λ_=>v.in L af) af (λ_=>⟨by rw[EA];omega,max d H,pI af af,λe he=>by
      rcases List.mem_append.1 he with he|he
      ·exact(i4 e he).more af
      ·simp only[List.mem_cons,List.not_mem_nil,or_false]at he;subst he;exact(F.low af).more af⟩) g2 aG
     exact⟨⟨m,af,af,ae⟩,av,d2,af,aw⟩
    ·exfalso;cases n with
     |zero=>rw[gT]at g2;cases g2
     |succ n=>
      rw[gT,ev j,aT]at g2;cases g2;have ba:(bl T [41] q.2).aF=0:=aG;unfold bl at ba;rw[ev j,aT]at ba;exact absurd ba (eT cu)
   |false=>
    rw[w,aT]at h;cases h;have ba:(bl T [41] s).aF=0:=aG;obtain⟨t1,t2,t3⟩:=eB aE i ba;have m:=t3.f;obtain⟨i2,H,i3,i4⟩:=he m;have aU:=t3.a;have to:=t3.ai;have sU:=t3.b;have aK:=t3.in (i m) af;have e:dn T [41] s={bl T [41] s with bP:=(bl T [41] s).bP-1}:=by unfold dn;exact vl aK
    simp only[e]at aG ⊢;refine⟨⟨m,by(try simp only);omega,by(try simp only);omega,sU⟩,by(try simp only);omega,H,i3,i4⟩
inductive ea:Nat->bE->Prop
 |var {d x ai z p}:en x=true->jU ai z->ea d (.mk {kind:=1,name:=x,cc:=ai,c4:=z,pos:=p} [] [] [])
 |lets {d x ai z p e}:en x=true->jU ai z->cm d 0 e->ea d (.mk {kind:=2,name:=x,cc:=ai,c4:=z,pos:=p} [e] [] [])
 |set {d x p e}:en x=true->cm d 0 e->ea d (.mk {kind:=3,name:=x,pos:=p} [e] [] [])
 |put {d p e f}:e.kind=5\/e.kind=6->cm d 0 e->cm d 0 f->ea d (.mk {kind:=4,pos:=p} [e,f] [] [])
 |ifs {d p e b c}:cm (d+1) 0 e->(∀s∈b,ea d s)->(∀s∈c,ea d s)->ea (d+1) (.mk {kind:=5,pos:=p} [e] b c)
 |while {d p e b}:cm (d+1) 0 e->(∀s∈b,ea d s)->ea (d+1) (.mk {kind:=6,pos:=p} [e] b [])
 |mZ {d p}:ea d (.mk {kind:=7,pos:=p} [] [] [])
 |m_ {d p e}:cm d 0 e->ea d (.mk {kind:=7,pos:=p} [e] [] [])
 |print {d p e}:cm d 0 e->ea d (.mk {kind:=8,pos:=p} [e] [] [])
 |call {d p e}:e.kind=7->cm d 0 e->ea d (.mk {kind:=9,pos:=p} [e] [] [])
def ea.at{d:Nat}{s:bE}(h:ea d s)(p:Int):ea d (s.at p):=by
 cases h with
 |var a b=>exact .var a b
 |lets a b c=>exact .lets a b c
 |set a b=>exact .set a b
 |put a b c=>exact .put a b c
 |ifs a b c=>exact .ifs a b c
 | «while» a b=>exact .while a b
 |mZ=>exact .mZ
 |m_ a=>exact .m_ a
 |print a=>exact .print a
 |call a b=>exact .call a b
def ea.more{d:Nat}{s:bE}(h:ea d s):∀{e:Nat},d<=e->ea e s:=by
 induction h with
 |var a b=>intro e _;exact .var a b
 |lets a b c=>intro e i;exact .lets a b (c.more i)
 |set a b=>intro e i;exact .set a (b.more i)
 |put a b c=>intro e i;exact .put a (b.more i) (c.more i)
 |ifs a _ _ ih1 ih2=>intro e i;obtain⟨k,rfl⟩:∃k,e=k+1:=⟨e-1,af⟩;exact .ifs (a.more i) (λs aB=>ih1 s aB af) (λs aB=>ih2 s aB af)
 | «while» a _ ih1=>intro e i;obtain⟨k,rfl⟩:∃k,e=k+1:=⟨e-1,af⟩;exact .while (a.more i) (λs aB=>ih1 s aB af)
 |mZ=>intro e _;exact .mZ
 |m_ a=>intro e i;exact .m_ (a.more i)
 |print a=>intro e i;exact .print (a.more i)
 |call a b=>intro e i;exact .call a (b.more i)
mutual
def dY:bE->Nat
 | .mk a es b c=>400+a.name.length+a.cc.length+b1 es+dv b+dv c
def dv:List bE->Nat
 |[]=>0
 |e::r=>dY e+dv r
end
def EC:∀(l:List bE) (e:bE),dv (l++[e])=dv l+dY e
 |[],e=>by simp[dv]
 |x::l,e=>by rw[List.cons_append,dv,EC l e,dv];omega
def MQ(s:bE)(p:Int):dY (s.at p)=dY s:=by cases s;rfl
def EB{a:b2}(c:a.name.length+a.cc.length<=16):(dY (.mk a [] [] []):Int)<=416:=by simp[dY,b1,dv];omega
def q6{a:b2}{e:aL}(c:a.name.length+a.cc.length<=16):(dY (.mk a [e] [] []):Int)<=416+cF e:=by simp[dY,b1,dv];omega
def MR{a:b2}{e f:aL}(c:a.name.length+a.cc.length<=16):(dY (.mk a [e,f] [] []):Int)<=416+cF e+cF f:=by simp[dY,b1,dv];omega
def wy{a:b2}{e:aL}{b c:List bE}(d:a.name.length+a.cc.length<=16):(dY (.mk a [e] b c):Int)<=416+cF e+dv b+dv c:=by simp[dY,b1];omega
section
variable {T:List Tok}{E:Int}{s s' s2:av}
def bR.to{y:av}{k:Int}(c:cJ E s)(h:y.aF=0->bR E s y k)(d:0<=k):cJ E y:=λa=>(h a).in (c (h a).f) d
def mi(T:List Tok):Prop:=∀s,∃p,dP T 800000000 0 s=D p
def mF(aE:Good T E)(d:mi T)(e:cJ E s)(h:(bB T s).2.aF=0):bR E s (bB T s).2 1/\gk s.bP s.at_ 0 (bB T s).1 (bB T s).2.at_:=by
 obtain⟨p,aG⟩:=d s;unfold bB at h ⊢;rw[aG]at h ⊢;obtain⟨a,c⟩:=(vs aE 800000000).expr 0 s p af e aG h;exact⟨a,c.low af⟩
def Et(aE:Good T E)(i:cJ E s)(h:(dX T s).2.aF=0):en (dX T s).1.1=X/\jU (dX T s).1.2.1 (dX T s).1.2.2/\bR E s (dX T s).2 3:=by
 have c:=λj=>j7 aE i j
 have d:=λj=>eB aE (s:=(bu T s).2) (x:=[58]) (bR.to i (λa=>(c a).2) af) j
 have e:=oy aE (s:=bl T [58] (bu T s).2) (bR.to i (λa=>(c (d a).2.2.f).2.trans (d a).2.2) af) h;have l:=d e.2.f;have k:=c l.2.2.f;exact⟨k.1,e.1,((k.2.trans l.2.2).trans e.2).less af⟩
structure Fe(T:List Tok)(E:Int)(n:Nat):Prop where
 block:∀s p,cJ E s->iS T n s=some p->p.2.aF=0->bR E s p.2 2/\(dv p.1:Int)<=400*(p.2.at_-s.at_-2)/\∃d:Nat,s.bP+(d+1)<=50/\∀x∈p.1,ea d x
 loop:∀l a0 s p,cJ E s->(s.aF=0->(dv l:Int)<=400*(s.at_-a0)/\∃d:Nat,s.bP+d<=50/\∀x∈l,ea d x)->mO T n l s=some p->p.2.aF=0->bR E s p.2 0/\(dv p.1:Int)<=400*(p.2.at_-a0)/\∃d:Nat,s.bP+d<=50/\∀x∈p.1,ea d x
 stmt:∀s p,cJ E s->o9 T n s=some p->p.2.aF=0->bR E s p.2 2/\(dY p.1:Int)<=400*(p.2.at_-s.at_)/\∃d:Nat,s.bP+d<=50/\ea d p.1
def IT(aE:Good T E)(G:mi T)(K:cJ E s)(h:(j_ T s).2.aF=0):bR E s (j_ T s).2 2/\(dY (j_ T s).1:Int)<=400*((j_ T s).2.at_-s.at_)/\∃d:Nat,s.bP+d<=50/\ea d (j_ T s).1:=by
 have m:=λc=>mF aE G K c
 have i1:cJ E (bB T s).2:=bR.to K (λw=>(m w).1) af;unfold j_ at h ⊢;cases v:a1 T (bB T s).2 [61]with
 |true=>
  rw[v,aZ]at h;rw[aZ];have u:=(dW v).1;obtain⟨k,P,d,y,n⟩:=m u;have ba:(bl T [59] (bB T (hI T (bB T s).1 (bB T s).2)).2).aF=0:=h;have N:=λc=>eB aE (s:=bif h4 (bB T s).1 then cL T 2 (bB T s).2 else(bB T s).2) (x:=[61]) (λi=>by
   cases j:h4 (bB T s).1 with
   |true=>rw[j,aZ]at i;exact absurd i (eT cu)
   |false=>rw[aT];exact i1 u) c
  have H:(hI T (bB T s).1 (bB T s).2).aF=0->h4 (bB T s).1=U/\bR E (bB T s).2 (hI T (bB T s).1 (bB T s).2) 1:=λc=>by
   have o:=(N c).2.2;cases j:h4 (bB T s).1 with
   |true=>
    have:=o.f;rw[j,aZ]at this;exact absurd this (eT cu)
   |false=>
    rw[j,aT]at o;unfold hI;rw[j,aT];exact⟨rfl,o⟩
  have i2:cJ E (hI T (bB T s).1 (bB T s).2):=λc=>(H c).2.in (i1 u) af
  have p:=λc=>mF aE G i2 c
  have i3:cJ E (bB T (hI T (bB T s).1 (bB T s).2)).2:=bR.to i2 (λw=>(p w).1) af;obtain⟨-,-,t3⟩:=eB aE i3 ba;obtain⟨z,W,B,aa,M⟩:=p t3.f;obtain⟨aY,A⟩:=H z.f;have Q:=k.a;have R:=k.ai;have ad:=A.a;have ae:=A.ai;have ab:=z.a;have S:=t3.a;have rC:bR E s (bl T [59] (bB T (hI T (bB T s).1 (bB T s).2)).2) 2:=(((k.trans A).trans z).trans t3).less af;simp only[vT];refine⟨rC,?_⟩;cases F:(bB T s).1.kind==4 with
  |true=>
   rw[aZ];have l:(bB T s).1.kind=4:=by simpa using F
   have L:en (bB T s).1.name=true:=by
    generalize (bB T s).1=e at n l;cases n with
    |par _ h _=>omega
    |var _ h=>exact h
    |bin V m p _ _=>simp only[aL.kind]at l;omega
    |sign _ m _=>simp only[aL.kind]at l;omega
    |_=>simp[aL.kind]at l
   have:=q6 (a:={kind:=3,name:=(bB T s).1.name}) (e:=(bB T (hI T (bB T s).1 (bB T s).2)).1) (by have:=eO L;simp;omega);exact⟨af,B,af,.set L M⟩
  |false=>
   rw[aT];have l:(bB T s).1.kind≠4:=by simpa using F
   have j:(bB T s).1.kind=5\/(bB T s).1.kind=6:=by
    unfold h4 at aY;simp only[Bool.and_eq_false_iff,bne_eq_false_iff_eq]at aY;rcases aY with q|q|q
    ·exact absurd q l
    ·exact .inl q
    ·exact .inr q
   have:=MR (a:={kind:=4}) (e:=(bB T s).1) (f:=(bB T (hI T (bB T s).1 (bB T s).2)).1) (by simp);exact⟨af,max d B,pI y af,.put j (n.more af) (M.more af)⟩
 |false=>
  rw[v,aT]at h;rw[aT];have ba:(bl T [59] (bif a1 T (bB T s).2 [59]&&(bB T s).1.kind != 7 then cL T 2 (bB T s).2 else(bB T s).2)).aF=0:=h;cases i:a1 T (bB T s).2 [59]&&(bB T s).1.kind != 7 with
  |true=>
   rw[i,aZ]at ba;unfold bl at ba;rw[ev (eT cu),aT,fk (eT cu)]at ba;exact absurd ba (eT cu)
  |false=>
   rw[i,aT]at ba;obtain⟨t1,t2,t3⟩:=eB aE i1 ba;obtain⟨k,P,d,y,n⟩:=m t3.f;rw[t1,Bool.true_and]at i;have O:(bB T s).1.kind=7:=by simpa using i
   have Q:=k.a;have R:=k.ai;have S:=t3.a;have:=q6 (a:={kind:=9}) (e:=(bB T s).1) (by simp);simp only[aT];exact⟨(k.trans t3).less af,af,d,y,.call O n⟩
def Ch(aE:Good T E)(K:mi T):∀n,Fe T E n
 |0=>by
  constructor<;>intros<;>rename_i h _<;>first|cases h|skip
 |n+1=>by
  have N:=Ch aE K n;refine⟨?_,?_,?_⟩
  ·intro s p u h aG;rw[iS]at h;obtain⟨q,g1,g2⟩:=fj h;cases g2;have i:q.2.aF=0:=by
    have ba:(bl T [125] q.2).aF=0:=aG;unfold bl at ba;cases ao:a1 T q.2 [125]with
    |true=>exact(dW ao).1
    |false=>rw[ao,aT]at ba;exact absurd ba (eT cu)
   obtain⟨j,L,d,F,y⟩:=N.loop [] (cN T [123] s).at_ _ q (λag=>(iG aE u ag).2.2.2.2.1) (λag=>⟨by simp[dv],0,by have:=(iG aE u ag).2.2.2.2.1.d;simpa using this,λx o=>by cases o⟩) g1 i;obtain⟨bH,bX,cj,dq,ay,aI⟩:=iG aE u j.f;have M:=pM aE (k:=0) af cj.symm dq.symm bX ay j aG;have aH:q.2.at_+1<=(dn T [125] q.2).at_:=by
    have ba:(bl T [125] q.2).aF=0:=aG;exact(eB aE (λ_=>j.in ay af) ba).2.2.a
   exact⟨M.less af,by(try simp only);omega,d,af,y⟩
  ·intro l a0 s p u he h aG;rw[mO]at h;cases M:(s.aF==0&& !a1 T s [125])with
   |false=>
    rw[M,aT]at h;cases h;exact⟨.refl (u aG) aG,he aG⟩
   |true=>
    rw[M,aZ]at h;simp only[Bool.and_eq_true,beq_iff_eq]at M;obtain⟨q,g1,g2⟩:=fj h;have ad:=λi=>N.stmt s q u g1 i
    obtain⟨i2,az,i3,i4⟩:=he M.1;obtain⟨V,ah,d2,aj,ak⟩:=N.loop (l++[q.1]) a0 q.2 p (bR.to u (λw=>(ad w).1) af) (λi=>by
     obtain⟨j,L,d,F,y⟩:=ad i;refine⟨by rw[EC];omega,max d az,by rw[j.ai];exact pI F i3,λx o=> ?_⟩;rcases List.mem_append.1 o with o|o
     ·exact(i4 x o).more af
     ·simp only[List.mem_cons,List.not_mem_nil,or_false]at o;subst o;exact y.more af) g2 aG
    have j:=(ad V.f).1;exact⟨(j.trans V).less af,ah,d2,by rw[<-j.ai];exact aj,ak⟩
  ·intro s p u h aG;rw[o9]at h;obtain⟨q,g1,g2⟩:=fj h;cases g2;have key:bR E s q.2 2/\(dY q.1:Int)<=400*(q.2.at_-s.at_)/\∃d:Nat,s.bP+d<=50/\ea d q.1:=by
    have i:q.2.aF=0:=aG;clear aG;cases ab:(a1 T s [118,97,114]||a1 T s [108,101,116])with
    |true=>
     rw[ab,aZ]at g1;have m:bR E s (aD s) 1:=by
      rcases Bool.or_eq_true_iff.1 ab with o|o<;>exact fl aE (u (dW o).1) o
     have v:=m.fE u af;have R:=m.a;have go:=m.ai;have t1:=λi=>Et aE v i
     have it:cJ E (dX T (aD s)).2:=bR.to v (λw=>(t1 w).2.2) af;cases G:(au T s.at_).text==[108,101,116]with
     |true=>
      rw[G,aZ]at g1;cases g1;have am:=λi=>eB aE (x:=[61]) it i
      have aq:cJ E (bl T [61] (dX T (aD s)).2):=bR.to it (λw=>(am w).2.2) af;have aw:=λi=>mF aE K aq i
      have B:cJ E (bB T (bl T [61] (dX T (aD s)).2)).2:=bR.to aq (λw=>(aw w).1) af;obtain⟨-,-,dK⟩:=eB aE (x:=[59]) B i;obtain⟨j,L,d,F,y⟩:=aw dK.f;obtain⟨-,-,W⟩:=am j.f;obtain⟨P,n2,O⟩:=t1 W.f;have aa:=dK.a;have av:=j.a;have aJ:=W.a;have aK:=W.ai;have aC:=O.a;have no:=O.ai;have:=q6 (a:={kind:=2,name:=(dX T (aD s)).1.1,cc:=(dX T (aD s)).1.2.1,c4:=(dX T (aD s)).1.2.2}) (e:=(bB T (bl T [61] (dX T (aD s)).2)).1) (by have:=eO P;have:=gq n2;simp;omega);simp only[p9];exact⟨((((m.trans O).trans W).trans j).trans dK).less af,af,d,af,.lets P n2 y⟩
     |false=>
      rw[G,aT]at g1;cases g1;obtain⟨-,-,dK⟩:=eB aE (x:=[59]) it i;obtain⟨P,n2,O⟩:=t1 dK.f;have aa:=dK.a;have aC:=O.a;have ae:=(u m.f).d;have:=EB (a:={kind:=1,name:=(dX T (aD s)).1.1,cc:=(dX T (aD s)).1.2.1,c4:=(dX T (aD s)).1.2.2}) (by have:=eO P;have:=gq n2;simp;omega);simp only[pO];exact⟨((m.trans O).trans dK).less af,af,0,by simpa using ae,.var P n2⟩
    |false=>
     rw[ab,aT]at g1;cases G:a1 T s [105,102]with
     |true=>
      rw[G,aZ]at g1;have m:=fl aE (u (dW G).1) G;have v:=m.fE u af;have R:=m.a;have go:=m.ai;have aw:=λi=>mF aE K v i
      have B:cJ E (bB T (aD s)).2:=bR.to v (λw=>(aw w).1) af;obtain⟨b,g3,g4⟩:=fj g1;have al:=λi=>N.block _ b B g3 i
      cases A:a1 T b.2 [101,108,115,101]with
      |true=>
       rw[A,aZ]at g4;obtain⟨c,g5,g6⟩:=fj g4;cases g6;have an:=al (dW A).1;have ap:cJ E b.2:=an.1.fE B af;have S:=fl aE (ap (dW A).1) A;obtain⟨m1,m2,d2,m3,m4⟩:=N.block _ c (S.fE ap af) g5 i;obtain⟨z,ax,d1,dI,eY⟩:=an;obtain⟨j,L,d,F,y⟩:=aw z.f;have:=wy (a:={kind:=5}) (e:=(bB T (aD s)).1) (b:=b.1) (c:=c.1) (by simp);have aS:=j.a;have a2:=z.a;have a3:=S.a;have a4:=m1.a;have bH:=j.ai;have bX:=z.ai;have cj:=S.ai;refine⟨((((m.trans j).trans z).trans S).trans m1).less af,by(try simp only);omega,max (d-1) (max d1 d2)+1,af,.ifs (y.more af) (λx o=>(eY x o).more af) (λx o=>(m4 x o).more af)⟩
      |false=>
       rw[A,aT]at g4;cases g4;obtain⟨z,ax,d1,dI,eY⟩:=al i;obtain⟨j,L,d,F,y⟩:=aw z.f;have:=wy (a:={kind:=5}) (e:=(bB T (aD s)).1) (b:=b.1) (c:=[]) (by simp);have aS:=j.a;have a2:=z.a;have bH:=j.ai;have aB:dv []=0:=rfl;refine⟨((m.trans j).trans z).less af,by(try simp only);omega,max (d-1) d1+1,af,.ifs (y.more af) (λx o=>(eY x o).more af) (λx o=>by cases o)⟩
     |false=>
      rw[G,aT]at g1;cases A:a1 T s [119,104,105,108,101]with
      |true=>
       rw[A,aZ]at g1;have m:=fl aE (u (dW A).1) A;have v:=m.fE u af;have R:=m.a;have go:=m.ai;have aw:=λi=>mF aE K v i
       have B:cJ E (bB T (aD s)).2:=bR.to v (λw=>(aw w).1) af;obtain⟨b,g3,g4⟩:=fj g1;cases g4;obtain⟨z,ax,d1,dI,eY⟩:=N.block _ b B g3 i;obtain⟨j,L,d,F,y⟩:=aw z.f;have:=wy (a:={kind:=6}) (e:=(bB T (aD s)).1) (b:=b.1) (c:=[]) (by simp);have aS:=j.a;have a2:=z.a;have bH:=j.ai;have aB:dv []=0:=rfl;refine⟨((m.trans j).trans z).less af,by(try simp only);omega,max (d-1) d1+1,af,.while (y.more af) (λx o=>(eY x o).more af)⟩
      |false=>
       rw[A,aT]at g1;cases Q:a1 T s [114,101,116,117,114,110]with
       |true=>
        rw[Q,aZ]at g1;have m:=fl aE (u (dW Q).1) Q;have v:=m.fE u af;have R:=m.a;have go:=m.ai;have ae:=(u m.f).d;cases g1;unfold vD at i ⊢;cases H:a1 T (aD s) [59]with
        |true=>
         rw[H,aZ]at i;rw[aZ];obtain⟨-,-,dK⟩:=eB aE (x:=[59]) v i;have aa:=dK.a;have:=EB (a:={kind:=7}) (by simp);exact⟨(m.trans dK).less af,by(try simp only);omega,0,by simpa using ae,.mZ⟩
        |false=>
         rw[H,aT]at i;rw[aT];have aw:=λi=>mF aE K v i
         have B:cJ E (bB T (aD s)).2:=bR.to v (λw=>(aw w).1) af;obtain⟨-,-,dK⟩:=eB aE (x:=[59]) B i;obtain⟨j,L,d,F,y⟩:=aw dK.f;have aa:=dK.a;have av:=j.a;have:=q6 (a:={kind:=7}) (e:=(bB T (aD s)).1) (by simp);exact⟨((m.trans j).trans dK).less af,by(try simp only);omega,d,af,.m_ y⟩
       |false=>
        rw[Q,aT]at g1;cases H:a1 T s [112,114,105,110,116]with
        |true=>
         rw[H,aZ]at g1;have m:=fl aE (u (dW H).1) H;have v:=m.fE u af;have R:=m.a;have go:=m.ai;cases g1;unfold vt at i ⊢;have aw:=λi=>mF aE K v i
         have B:cJ E (bB T (aD s)).2:=bR.to v (λw=>(aw w).1) af;obtain⟨-,-,dK⟩:=eB aE (x:=[59]) B i;obtain⟨j,L,d,F,y⟩:=aw dK.f;have aa:=dK.a;have av:=j.a;have:=q6 (a:={kind:=8}) (e:=(bB T (aD s)).1) (by simp);exact⟨((m.trans j).trans dK).less af,by(try simp only);omega,d,af,.print y⟩
        |false=>
         rw[H,aT]at g1;cases g1;exact IT aE K u i
   obtain⟨V,ah,d,aj,ak⟩:=key;exact⟨V,by rw[MQ];exact ah,d,aj,ak.at _⟩
end
def Tok.eh(t:Tok):Tok:=⟨t.kind,t.text,t.n,0⟩
def av.eh(s:av):av:=⟨s.at_,s.bP,s.aF,0⟩
def bM.eh(a:bM):bM:={a with pos:=0}
mutual
def aL.eh:aL->aL
 | .mk a ks=> .mk a.eh (ub ks)
def ub:List aL->List aL
 |[]=>[]
 |e::es=>e.eh::ub es
end
def b2.eh(a:b2):b2:={a with pos:=0}
mutual
def bE.eh:bE->bE
 | .mk a es b c=> .mk a.eh (ub es) (ry b) (ry c)
def ry:List bE->List bE
 |[]=>[]
 |e::es=>e.eh::ry es
end
section
variable {α β:Type}{f:α->α}{h:β->β}
end
section
variable (T:List Tok)(s:av)
def bA(t:Tok):t.eh.kind=t.kind:=rfl
def ds(t:Tok):t.eh.text=t.text:=rfl
end
def b7.eh(p:b7):b7:={p with pos:=0}
def e1.eh(r:e1):e1:=⟨r.name,r.fields.map b7.eh,0⟩
def Fn.eh(f:Fn):Fn:=⟨f.name,f.params.map b7.eh,f.has,f.dF,f.rd,ry f.body,0⟩
def dm.eh(g:dm):dm:=⟨g.da.map e1.eh,g.globals.map b7.eh,g.funcs.map Fn.eh⟩
section
variable (T:List Tok)(s:av)
