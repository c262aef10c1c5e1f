/-
  Texts of one proof, laid together: T1 Sq Pa Pb Pc Pd Ea Eb.
-/
import Derived.Test.YtghmbpmaafnodaaDoorMG
set_option linter.unusedVariables false
set_option linter.unusedSimpArgs false
set_option linter.defProp false
open Option renaming some→D,none→Z
open Bool renaming true→X,false→U
namespace Go.Proofs.YtghmbpmaafnodaaDoor
open Go.b9
structure b1 where
 kind:Int
 name:aJ:=[]
 cf:aJ:=[]
 c4:Int:=0
 pos:Int:=0
 ref:Int:=0
inductive bE where
 |mk (a:b1) (es:List aL) (body els:List bE)
def bE.zero:bE:= .mk {kind:=0} [] [] []
def bE.at(p:Int):bE->bE
 | .mk a es b c=> .mk {a with pos:=p} es b c
def aL.kind:aL->Int
 | .mk a _=>a.kind
def aL.name:aL->aJ
 | .mk a _=>a.name
def h4(e:aL):Bool:=e.kind != 4&&(e.kind != 5&&e.kind != 6)
def kK(T:List Tok)(e:aL)(s:aw):aw:=(ej T [61] (bif h4 e then cL T 2 s else s)).2
def bB(T:List Tok)(s:aw):aL×aw:=match dP T 800000000 0 s with
 |some p=>p
 |none=>(.zero,s)
def dX(T:List Tok)(s:aw):(aJ×aJ×Int)×aw:=(((bu T s).1,(cM T (bl T [58] (bu T s).2)).1),(cM T (bl T [58] (bu T s).2)).2)
def pQ(T:List Tok)(s:aw):bE×aw:=(.mk {kind:=1,name:=(dX T s).1.1,cf:=(dX T s).1.2.1,c4:=(dX T s).1.2.2} [] [] [],bl T [59] (dX T s).2)
def qa(T:List Tok)(s:aw):bE×aw:=(.mk {kind:=2,name:=(dX T s).1.1,cf:=(dX T s).1.2.1,c4:=(dX T s).1.2.2} [(bB T (bl T [61] (dX T s).2)).1] [] [],bl T [59] (bB T (bl T [61] (dX T s).2)).2)
def vA(T:List Tok)(s:aw):bE×aw:=bif a1 T s [59]then(.mk {kind:=7} [] [] [],bl T [59] s)else(.mk {kind:=7} [(bB T s).1] [] [],bl T [59] (bB T s).2)
def vr(T:List Tok)(s:aw):bE×aw:=(.mk {kind:=8} [(bB T s).1] [] [],bl T [59] (bB T s).2)
def hH(T:List Tok)(e:aL)(s:aw):aw:=bl T [61] (bif h4 e then cL T 2 s else s)
def vR(T:List Tok)(e:aL)(s:aw):bE×aw:=(bif e.kind==4 then .mk {kind:=3,name:=e.name} [(bB T (hH T e s)).1] [] []else .mk {kind:=4} [e,(bB T (hH T e s)).1] [] [],bl T [59] (bB T (hH T e s)).2)
def kb(T:List Tok)(s:aw):bE×aw:=bif a1 T (bB T s).2 [61]then vR T (bB T s).1 (bB T s).2 else(.mk {kind:=9} [(bB T s).1] [] [],bl T [59] (bif a1 T (bB T s).2 [59]&&(bB T s).1.kind != 7 then cL T 2 (bB T s).2 else(bB T s).2))
mutual
def iU(T:List Tok):Nat->aw->ad (List bE)
 |0,_=>Z
 |n+1,s=>(mK T n [] (cN T [123] s)).bind λp=>D (p.1,dn T [125] p.2)
def mK(T:List Tok):Nat->List bE->aw->ad (List bE)
 |0,_,_=>Z
 |n+1,l,s=>bif s.aF==0&& !a1 T s [125]then(o9 T n s).bind λp=>mK T n (l++[p.1]) p.2 else D (l,s)
def o9(T:List Tok):Nat->aw->ad bE
 |0,_=>Z
 |n+1,s=>(bif a1 T s [118,97,114]||a1 T s [108,101,116]then D (bif (au T s.at_).text==[108,101,116]then qa T (aD s)else pQ T (aD s))
  else bif a1 T s [105,102]then(iU T n (bB T (aD s)).2).bind λb=>bif a1 T b.2 [101,108,115,101]then
   (iU T n (aD b.2)).bind λc=>D (.mk {kind:=5} [(bB T (aD s)).1] b.1 c.1,c.2)else D (.mk {kind:=5} [(bB T (aD s)).1] b.1 [],b.2)
  else bif a1 T s [119,104,105,108,101]then(iU T n (bB T (aD s)).2).bind λb=>D (.mk {kind:=6} [(bB T (aD s)).1] b.1 [],b.2)
  else bif a1 T s [114,101,116,117,114,110]then D (vA T (aD s))
  else bif a1 T s [112,114,105,110,116]then D (vr T (aD s))
  else D (kb T s)).bind λp=>D (p.1.at (au T s.at_).pos,p.2)
end
structure b7 where
 name:aJ
 cf:aJ
 c4:Int
 pos:Int
structure e0 where
 name:aJ
 fields:List b7
 pos:Int
structure Fn where
 name:aJ
 params:List b7
 has:Bool
 dF:aJ
 rd:Int
 body:List bE
 pos:Int
structure dm where
 da:List e0
 globals:List b7
 funcs:List Fn
def dm.none:dm:=⟨[],[],[]⟩
def dD(T:List Tok)(s:aw):b7×aw:=(⟨(dX T s).1.1,(dX T s).1.2.1,(dX T s).1.2.2,(au T s.at_).pos⟩,(dX T s).2)
def oa(T:List Tok):Nat->List b7->aw->ad (List b7)
 |0,_,_=>Z
 |n+1,l,s=>bif s.aF==0&& !a1 T s [125]then
  (bif (au T s.at_).kind==1&&l.length==8 then D (l,cL T 4 s)else oa T n (l++[(dD T s).1]) (bl T [59] (dD T s).2))
  else D (l,s)
def mU(T:List Tok)(n:Nat)(s:aw):ad e0:=(oa T n [] (bl T [123] (bu T s).2)).bind λp=>D (⟨(bu T s).1,p.1,(au T s.at_).pos⟩,bl T [125] p.2)
def lA(T:List Tok)(s:aw):aw:=bif a1 T (bl T [44] s) [41]then cL T 2 (bl T [44] s)else bl T [44] s
def oC(T:List Tok):Nat->List b7->aw->ad (List b7)
 |0,_,_=>Z
 |n+1,l,s=>bif s.aF==0&& !a1 T s [41]then
  (bif (au T s.at_).kind==1&&l.length==6 then D (l,cL T 4 s)else
   oC T n (l++[(dD T s).1]) (bif a1 T (dD T s).2 [41]then(dD T s).2 else lA T (dD T s).2))
  else D (l,s)
def gq(T:List Tok)(s:aw):(Bool×aJ×Int)×aw:=bif a1 T s [58]then((X,(cM T (aD s)).1),(cM T (aD s)).2)else((U,[],0),s)
def mE(T:List Tok)(n:Nat)(s:aw):ad Fn:=(oC T n [] (bl T [40] (bu T s).2)).bind λp=>(iU T n (gq T (bl T [41] p.2)).2).bind λb=>D (⟨(bu T s).1,p.1,(gq T (bl T [41] p.2)).1.1,(gq T (bl T [41] p.2)).1.2.1,(gq T (bl T [41] p.2)).1.2.2,b.1,(au T s.at_).pos⟩,b.2)
def isRec(T:List Tok)(s:aw):Bool:=a1 T s [114,101,99,111,114,100]
def jB(T:List Tok)(s:aw):Bool:=a1 T s [103,108,111,98,97,108]
def isFun(T:List Tok)(s:aw):Bool:=a1 T s [102,117,110,99]
def gX(T:List Tok)(N:Nat):Nat->dm->aw->ad dm
 |0,_,_=>Z
 |n+1,g,s=>bif s.aF==0&&(au T s.at_).kind != 0 then
  (bif (isRec T s&&g.da.length==12)||((jB T s&&g.globals.length==8)||(isFun T s&&g.funcs.length==16))then gX T N n g (cL T 4 s)
  else bif isRec T s then(mU T N (aD s)).bind λp=>gX T N n {g with da:=g.da++[p.1]} p.2
  else bif jB T s then gX T N n {g with globals:=g.globals++[(dD T (aD s)).1]} (bl T [59] (dD T (aD s)).2)
  else bif isFun T s then(mE T N (aD s)).bind λp=>gX T N n {g with funcs:=g.funcs++[p.1]} p.2
  else gX T N n g (cL T 2 s))
  else D (g,s)
def vs(g:dm)(s:aw):dm×Int×Int:=if s.aF=0 then(g,0,0)else(.none,s.aF,s.cS)
def iV:Nat->Nat->aJ->aJ
 |0,_,a=>a
 |f+1,n,a=>if n/10=0 then UInt8.ofNat (48+n%10)::a else iV f (n/10) (UInt8.ofNat (48+n%10)::a)
def sX(t:Tok):aJ:=bif t.kind==2 then iV 20 t.n.toNat []else t.text
def jZ(t:Tok):Prop:=(t.kind=1/\t.n=0/\en t.text=X)\/(t.kind=3/\t.n=0/\jn t.text=X)\/(t.kind=2/\t.text=[]/\0<=t.n/\t.n<=9223372036854775807)\/(t.kind=4/\t.n=0/\(gG t.text jj=X\/∃c,t.text=[c]/\ja c gW=X))
def qj(t:Tok)(b:UInt8):Bool:=bif t.kind==4 then(t.text.length==2|| !gG (t.text++[b]) jj)&& !(t.text==[47]&&b==47)else !ey b&& !eu b
def rW(t:Tok):aJ->Bool
 |[]=>X
 |b::_=>qj t b
def Ck:(10:Nat)^20=100000000000000000000:=cp
def GK{c:UInt8}:eu c=X↔48<=c.toNat/\c.toNat<=57:=by
 simp only[eu,lB,Bool.and_eq_true,decide_eq_true_eq];omega
def yc:∀(f n:Nat) (a:aJ),(iV f n a).length<=f+a.length
 |0,_,_=>by simp[iV]
 |f+1,n,a=>by
  rw[iV];split
  ·rw[List.length_cons];omega
  ·have:=yc f (n/10) (UInt8.ofNat (48+n%10)::a);rw[List.length_cons]at this;omega
def C_{d:Bool}:∀s:aJ,∀c∈s.take (runN d s),(eu c||(!d&&ey c))=X
 |[],_,h=>by simp[runN]at h
 |c::r,x,h=>by
  rw[runN]at h;cases a:(eu c||(!d&&ey c))with
  |false=>rw[a]at h;simp at h
  |true=>
   rw[a]at h;simp only[aY,List.take_succ_cons,List.mem_cons]at h;rcases h with rfl|h
   ·exact a
   ·exact C_ r x h
def EM:∀(l:aJ) (a v:Int),(∀c∈l,eu c=X)->0<=a->a<=9223372036854775807->iM a l=D v->0<=v/\v<=9223372036854775807
 |[],a,v,_,i,j,h=>by simp only[iM,aU]at h;omega
 |c::r,a,v,e,i,j,h=>by
  rw[iM]at h;have d:=GK.1 (e c (List.mem_cons_self));split at h
  ·cases h
  ·exact EM r _ v (λc d=>e c (List.mem_cons_of_mem _ d)) af af h
def Ix{s:aJ}{t:Tok}{m:Nat}(h:hp s=D (t.kind,t.text,t.n,m)):jZ t:=by
 obtain⟨k,x,z,p⟩:=t;rcases s with _|⟨c,r⟩
 ·simp[hp]at h
 rw[hp]at h;cases o:ey c with
 |true=>
  rw[o,aY]at h;generalize (c::r).take (runN U (c::r))=y at*;cases hw:jn y with
  |true=>
   rw[hw,aY]at h;simp only[aU,bY]at h;obtain⟨rfl,rfl,rfl,-⟩:=h;exact .inr (.inl ⟨rfl,rfl,hw⟩)
  |false=>
   rw[hw,aT]at h;cases e:en y with
   |false=>rw[e]at h;cases h
   |true=>
    rw[e,aY]at h;simp only[aU,bY]at h;obtain⟨rfl,rfl,rfl,-⟩:=h;exact .inl ⟨rfl,rfl,e⟩
 |false=>
  rw[o,aT]at h;cases l:eu c with
  |true=>
   rw[l,aY]at h;have u:=C_ (d:=true) (c::r);cases hw:iM 0 ((c::r).take (runN X (c::r)))with
   |none=>rw[hw]at h;cases h
   |some v=>
    rw[hw]at h;simp only at h;have A:=EM _ 0 v (λc w=>by simpa using u c w) af af hw;cases q:((decide (1<runN X (c::r))&&c.toNat==48)||(decide (runN X (c::r)<(c::r).length)&&ey (((c::r)[runN X (c::r)]?).getD 0)))with
    |true=>rw[q]at h;cases h
    |false=>
     rw[q]at h;simp only[aT,aU,bY]at h;obtain⟨rfl,rfl,rfl,-⟩:=h;exact .inr (.inr (.inl ⟨rfl,rfl,A⟩))
  |false=>
   rw[l,aT]at h;cases aB:hc (c::r)==[]with
   |true=>rw[aB]at h;cases h
   |false=>
    rw[aB,aT]at h;simp only[aU,bY]at h;obtain⟨rfl,rfl,rfl,-⟩:=h;refine .inr (.inr (.inr ⟨rfl,rfl,?_⟩));have a:(hc (c::r)==[])=false:=aB;show gG (hc (c::r)) jj=X\/∃d,hc (c::r)=[d]/\ja d gW=X;unfold hc at a ⊢;cases i:(decide (2<=(c::r).length)&&gG ((c::r).take 2) jj)with
    |true=>rw[aY];exact .inl (Bool.and_eq_true_iff.1 i).2
    |false=>
     rw[i]at a;simp only[aT]at a ⊢;cases j:ja c gW with
     |false=>rw[j]at a;cases a
     |true=>exact .inr ⟨c,rfl,j⟩
inductive bN where
 |t (bx:Tok)
 |b (s:aJ)
def bN.sW:bN->aJ
 | .t bx=>sX bx
 | .b s=>s
def flat:List bN->aJ
 |[]=>[]
 |p::r=>p.sW++flat r
def hd:List bN->List Tok
 |[]=>[]
 | .t t::r=>t::hd r
 | .b _::r=>hd r
def nQ:List bN->Prop
 |[]=>True
 | .t t::r=>jZ t/\rW t (flat r)=X/\nQ r
 | .b s::r=>s.all iB=X/\nQ r
def c3:∀a b:List bN,flat (a++b)=flat a++flat b
 |[],_=>rfl
 |p::r,b=>by rw[List.cons_append,flat,c3 r b,flat,List.append_assoc]
def wg:∀a b:List bN,hd (a++b)=hd a++hd b
 |[],_=>rfl
 | .t t::r,b=>by rw[List.cons_append,hd,wg r b,hd,List.cons_append]
 | .b s::r,b=>by rw[List.cons_append,hd,wg r b,hd]
def Bh:∀(n:Nat) (s:aJ) (p:Nat) (l:List Tok),gk n s p= .inr l->∀t∈l,jZ t\/t.kind=0
 |0,_,_,_,h=>by cases h
 |n+1,[],p,l,h=>by cases h;intro t a;simp only[List.mem_cons,List.not_mem_nil,or_false]at a;subst a;exact .inr rfl
 |n+1,c::r,p,l,h=>by
  rw[gk]at h;split at h
  ·cases h
  ·rename_i k t v m e;split at h
   ·cases h
   ·rename_i l' d;cases h;intro u hu;rcases List.mem_cons.1 hu with rfl|hu
    ·exact .inl (Ix (t:=⟨k,t,v,p⟩) e)
    ·exact Bh n _ _ _ d u hu
def D6{s:aJ}:∀t∈(dx s).1,jZ t\/t.kind=0:=by
 unfold dx;split
 ·intro t a;cases a
 ·cases h:qb s with
  |inl e=>intro t a;cases a
  |inr l=>exact Bh _ _ _ _ h
def c6(k:Int):Nat:=if k=24 then 1 else if k=23 then 2 else if 19<=k/\k<=22 then 3 else if k=14\/k=15 then 4 else if 16<=k/\k<=18 then 5 else if k=12\/k=13 then 6 else 7
def aL.cr(e:aL):Nat:=c6 e.kind
def jW(x:aJ)(d:Int):Prop:=0<=d/\d<=3/\(en x=X\/x=[105,110,116]\/x=[98,111,111,108])
inductive cm:Nat->Nat->aL->Prop
 |par {d m e}:cm d 0 e->e.cr<m->m<=7->cm (d+1) m e
 |int {d m n p}:m<=7->0<=n->n<=9223372036854775807->cm d m (.mk {kind:=1,n:=n,pos:=p} [])
 |bool {d m n p}:m<=7->n=0\/n=1->cm d m (.mk {kind:=2,n:=n,pos:=p} [])
 |null {d m x z p}:m<=7->jW x z->cm d m (.mk {kind:=3,cf:=x,c4:=z,pos:=p} [])
 |var {d m x p}:m<=7->en x=true->cm d m (.mk {kind:=4,name:=x,pos:=p} [])
 |field {d m x p e}:m<=7->en x=true->cm d 7 e->cm d m (.mk {kind:=5,name:=x,pos:=p} [e])
 |item {d m p e i}:m<=7->cm (d+1) 7 e->cm d 0 i->cm (d+1) m (.mk {kind:=6,pos:=p} [e,i])
 |call {d m x p l}:m<=7->en x=true->(∀e∈l,cm d 0 e)->cm (d+1) m (.mk {kind:=7,name:=x,pos:=p} l)
 |new {d m x p}:m<=7->en x=true->cm d m (.mk {kind:=8,cf:=x,pos:=p} [])
 |make {d m x z p e}:m<=7->jW x z->cm d 0 e->cm (d+1) m (.mk {kind:=9,cf:=x,c4:=z,pos:=p} [e])
 |len {d m p e}:m<=7->cm d 0 e->cm (d+1) m (.mk {kind:=10,pos:=p} [e])
 |read {d m p}:m<=7->cm (d+1) m (.mk {kind:=11,pos:=p} [])
 |sign {d m k p e}:m<=6->k=12\/k=13->cm d 6 e->cm (d+1) m (.mk {kind:=k,pos:=p} [e])
 |bin {d m k p a b}:m<=c6 k->14<=k->k<=24->cm d (c6 k) a->cm d (c6 k+1) b->cm d m (.mk {kind:=k,pos:=p} [a,b])
def u3(k:Int):1<=c6 k/\c6 k<=7:=by
 unfold c6;(repeat' split)<;>omega
def cm.more{d m:Nat}{e:aL}(h:cm d m e):∀{a:Nat},d<=a->cm a m e:=by
 induction h with
 |par _ n o l=>intro a j;obtain⟨k,rfl⟩:∃k,a=k+1:=⟨a-1,af⟩;exact .par (l af) n o
 |int c i n=>intro a _;exact .int c i n
 |bool c i=>intro a _;exact .bool c i
 |null c i=>intro a _;exact .null c i
 |var c i=>intro a _;exact .var c i
 |field c i _ l=>intro a j;exact .field c i (l j)
 |item c _ _ ih1 ih2=>intro a j;obtain⟨k,rfl⟩:∃k,a=k+1:=⟨a-1,af⟩;exact .item c (ih1 j) (ih2 af)
 |call c i _ l=>intro a j;obtain⟨k,rfl⟩:∃k,a=k+1:=⟨a-1,af⟩;exact .call c i λe he=>l e he af
 |new c i=>intro a _;exact .new c i
 |make c i _ l=>intro a j;obtain⟨k,rfl⟩:∃k,a=k+1:=⟨a-1,af⟩;exact .make c i (l af)
 |len c _ l=>intro a j;obtain⟨k,rfl⟩:∃k,a=k+1:=⟨a-1,af⟩;exact .len c (l af)
 |read c=>intro a j;obtain⟨k,rfl⟩:∃k,a=k+1:=⟨a-1,af⟩;exact .read c
 |sign c i _ l=>intro a j;obtain⟨k,rfl⟩:∃k,a=k+1:=⟨a-1,af⟩;exact .sign c i (l af)
 |bin c i n _ _ ih1 ih2=>intro a j;exact .bin c i n (ih1 j) (ih2 j)
def cm.at{d m:Nat}{e:aL}(h:cm d 0 e)(hm:m<=e.cr):cm d m e:=by
 have n:=(u3 e.kind).2;have j:m<=7:=Nat.le_trans hm n;cases h with
 |par _ h _=>omega
 |int i a c=>exact .int j a c
 |bool i a=>exact .bool j a
 |null i a=>exact .null j a
 |var i a=>exact .var j a
 |field i a c=>exact .field j a c
 |item i a c=>exact .item j a c
 |call i a c=>exact .call j a c
 |new i a=>exact .new j a
 |make i a c=>exact .make j a c
 |len i a=>exact .len j a
 |read i=>exact .read j
 |sign i a c=>exact .sign (by rcases a with rfl|rfl<;>exact hm) a c
 |bin i a c k l=>exact .bin hm a c k l
def cm.low{d m:Nat}{e:aL}(h:cm d m e){m':Nat}(hm:m'<=m):cm d m' e:=by
 cases h with
 |par a c j=>
  by_cases l:e.cr<m'
  ·exact .par a l af
  ·exact(a.at af).more (Nat.le_succ _)
 |int i a c=>exact .int af a c
 |bool i a=>exact .bool af a
 |null i a=>exact .null af a
 |var i a=>exact .var af a
 |field i a c=>exact .field af a c
 |item i a c=>exact .item af a c
 |call i a c=>exact .call af a c
 |new i a=>exact .new af a
 |make i a c=>exact .make af a c
 |len i a=>exact .len af a
 |read i=>exact .read af
 |sign i a c=>exact .sign af a c
 |bin i a c j k=>exact .bin af a c j k
def cm.up{d:Nat}{e:aL}(h:cm d 0 e){m:Nat}(hm:m<=7):cm (d+1) m e:=by
 by_cases a:e.cr<m
 ·exact .par h a hm
 ·exact(h.at af).more (Nat.le_succ _)
mutual
def cE:aL->Nat
 | .mk a kids=>40+a.name.length+a.cf.length+b0 kids
def b0:List aL->Nat
 |[]=>0
 |e::r=>cE e+b0 r
end
def EJ:∀(l:List aL) (e:aL),b0 (l++[e])=b0 l+cE e
 |[],e=>by simp[b0]
 |x::l,e=>by rw[List.cons_append,b0,EJ l e,b0];omega
structure In(E:Int)(s:aw):Prop where
 a:0<=s.at_
 b:s.at_<=E
 c:0<=s.bP
 d:s.bP<=50
structure bR(E:Int)(s s':aw)(k:Int):Prop where
 f:s.aF=0
 iy:s'.aF=0
 ai:s'.bP=s.bP
 a:s.at_+k<=s'.at_
 b:s'.at_<=E
structure Good(T:List Tok)(E:Int):Prop where
 n:E<=20000000
 lt:∀a,(au T a).kind≠0->a<E
 t:∀t∈T,jZ t\/t.kind=0
section
variable {T:List Tok}{E:Int}{s s' s2:aw}
def bR.trans{k l:Int}(h:bR E s s' k)(ba:bR E s' s2 l):bR E s s2 (k+l):=⟨h.f,ba.iy,ba.ai.trans h.ai,by have:=h.a;have:=ba.a;omega,ba.b⟩
def bR.less{k l:Int}(h:bR E s s' k)(c:l<=k):bR E s s' l:=⟨h.f,h.iy,h.ai,by have:=h.a;omega,h.b⟩
def bR.in{k:Int}(e:In E s)(h:bR E s s' k)(i:0<=k):In E s':=⟨by have:=h.a;have:=e.a;omega,h.b,by rw[h.ai];exact e.c,by rw[h.ai];exact e.d⟩
def bR.refl(a:In E s)(h:s.aF=0):bR E s s 0:=⟨h,h,rfl,af,a.b⟩
def wc{a:Int}(h:(au T a).kind≠0):0<=a/\a<T.length/\au T a∈T:=by
 unfold au at h ⊢;split at h
 ·exact absurd rfl h
 ·rename_i c;have:a.toNat<T.length:=af;rw[if_neg c,List.getElem?_eq_getElem this,Option.getD_some];exact⟨af,af,List.getElem_mem _⟩
def D5(aE:Good T E){a:Int}(h:(au T a).kind≠0):jZ (au T a):=(aE.t _ (wc h).2.2).resolve_right h
def MA(aE:Good T E){a:Int}(h:(au T a).kind=1):en (au T a).text=true:=by
 rcases D5 aE (a:=a) af with ba|ba|ba|ba
 ·exact ba.2.2
 all_goals omega
def Mz(aE:Good T E){a:Int}(h:(au T a).kind=2):0<=(au T a).n/\(au T a).n<=9223372036854775807:=by
 rcases D5 aE (a:=a) af with ba|ba|ba|ba
 ·omega
 ·omega
 ·exact ba.2.2
 ·omega
def go_ok(aE:Good T E)(d:In E s)(c:s.aF=0)(h:(au T s.at_).kind≠0):aD s={s with at_:=s.at_+1}/\bR E s (aD s) 1:=by
 have j:=aE.lt _ h;have k:=aE.n;have i:=d.a;have e:aD s={s with at_:=s.at_+1}:=by
  unfold aD jR;rw[IntWalk.i64_in _ ⟨af,af⟩]
 refine⟨e,?_⟩;rw[e];exact⟨c,c,rfl,by simp,by simp only;omega⟩
def eT{e:Int}(he:e≠0):(cL T e s).aF≠0:=by
 unfold cL;split
 ·exact he
 ·assumption
def dW{x:aJ}(h:a1 T s x=X):s.aF=0/\(au T s.at_).kind=kw x/\(au T s.at_).text=x:=uF h
def uL(x:aJ):kw x≠0:=by
 unfold kw;split
 ·split<;>decide
 ·decide
def fk(aE:Good T E)(d:In E s){x:aJ}(h:a1 T s x=X):bR E s (aD s) 1:=by
 obtain⟨a,c,-⟩:=dW h;exact(go_ok aE d a (by rw[c];exact uL x)).2
abbrev cJ(E:Int)(s:aw):Prop:=s.aF=0->In E s
def bR.fD{k:Int}(a:cJ E s)(h:bR E s s' k)(c:0<=k):cJ E s':=λ_=>h.in (a h.f) c
def eB(aE:Good T E)(c:cJ E s){x:aJ}(h:(bl T x s).aF=0):a1 T s x=X/\bl T x s=aD s/\bR E s (bl T x s) 1:=by
 unfold bl at h ⊢;cases a:a1 T s x with
 |true=>rw[aY];exact⟨rfl,rfl,fk aE (c (dW a).1) a⟩
 |false=>rw[a,aT]at h;exact absurd h (eT cp)
def j9(aE:Good T E)(c:cJ E s)(h:(bu T s).2.aF=0):en (bu T s).1=X/\bR E s (bu T s).2 1:=by
 unfold bu at h ⊢;cases a:(s.aF==0&&(au T s.at_).kind==1)with
 |true=>
  simp only[Bool.and_eq_true,beq_iff_eq]at a;rw[aY];exact⟨MA aE a.2,(go_ok aE (c a.1) a.1 af).2⟩
 |false=>rw[a,aT]at h;exact absurd h (eT cp)
def eM{x:aJ}(h:en x=X):x.length<=8:=by
 simp only[en,Bool.and_eq_true,decide_eq_true_eq]at h;exact h.2.1
def gn{x:aJ}{d:Int}(h:jW x d):x.length<=8:=by
 rcases h.2.2 with h|rfl|rfl
 ·exact eM h
 ·decide
 ·decide
def iH(aE:Good T E)(d:cJ E s){x:aJ}(h:(cN T x s).aF=0):a1 T s x=X/\s.aF=0/\(cN T x s).bP=s.bP+1/\(cN T x s).at_=s.at_+1/\In E (cN T x s)/\s.bP+1<=50:=by
 unfold cN at h ⊢;cases i:a1 T s x&&decide (50<=s.bP)with
 |true=>rw[i,aY]at h;exact absurd h (eT cp)
 |false=>
  rw[i,aT]at h;rw[aT];have ba:(bl T x s).aF=0:=h;obtain⟨j,o,l⟩:=eB aE d ba;obtain⟨k,p,-⟩:=dW j;have d:=d k;obtain⟨g1,-⟩:=go_ok aE d k (by rw[p];exact uL x);rw[j,Bool.true_and]at i;have v:s.bP<50:=by have:=of_decide_eq_false i;omega
  have q:=d.c;have e:jR (s.bP+1)=s.bP+1:=IntWalk.i64_in _ ⟨af,af⟩;have m:=l.a;have n:=l.b;have u:=d.a;rw[o,g1]at m n ⊢;simp only[eU,e]at m n ⊢;exact⟨j,k,trivial,trivial,⟨by simp only;omega,by simp only;omega,by simp only;omega,by simp only;omega⟩,af⟩
def vi(a:In E s):eo s={s with bP:=s.bP-1}:=by
 have:=a.c;have:=a.d;unfold eo jR;rw[IntWalk.i64_in _ ⟨af,af⟩]
def pN(aE:Good T E){k:Int}(l:0<=k)(p:s.bP+1=s'.bP)(o:s.at_+1=s'.at_)(e:s.aF=0)(i:In E s')(hw:bR E s' s2 k){x:aJ}(h:(dn T x s2).aF=0):bR E s (dn T x s2) (k+2):=by
 have ba:(bl T x s2).aF=0:=h;have d:=hw.in i l;obtain⟨m,n,c⟩:=eB aE (λ_=>d) ba;have j:=c.in d af;unfold dn at h ⊢;rw[vi j]at h ⊢;have aR:=hw.a;have a2:=c.a;have bH:=hw.ai;have bX:=c.ai;exact⟨e,h,by simp only;omega,by simp only;omega,c.b⟩
def v_(aE:Good T E){x:aJ}:∀(n:Nat) (s:aw),cJ E s->(takeN T x n s).aF=0->bR E s (takeN T x n s) n
 |0,s,c,h=> .refl (c h) h
 |n+1,s,c,h=>by
  have a:(bl T x s).aF=0:=by
   by_cases a:(bl T x s).aF=0
   ·exact a
   ·exfalso;have key:∀(n:Nat) (s:aw),s.aF≠0->(takeN T x n s).aF≠0:=by
     intro n
     induction n with
     |zero=>intro s aB;exact aB
     |succ n e=>intro s aB;exact e _ (by unfold bl;rw[ev aB,aT,fj aB];exact aB)
    exact key n _ a h
  obtain⟨-,-,d⟩:=eB aE c a;have:=d.trans (v_ aE n _ (d.fD c af) h);exact this.less af
def B2(aE:Good T E):∀(n:Nat) (d:Int) (s:aw) {q:Int×aw},In E s->0<=d->gm T n d s= .inl q->s.aF=0->d<=q.1/\q.1<=d+n/\bR E s q.2 (q.1-d)/\a1 T q.2 [91]=U
 |0,d,s,q,c,l,h,e=>by
  rw[gm]at h;cases a:a1 T s [91]with
  |true=>rw[a,aY]at h;cases h
  |false=>
   rw[a,aT]at h;cases h;exact⟨Int.le_refl _,by simp,(bR.refl c e).less (by simp),a⟩
 |n+1,d,s,q,c,l,h,e=>by
  rw[gm]at h;cases a:a1 T s [91]with
  |true=>
   rw[a,aY]at h;have i:=fk aE c a;obtain⟨m,o,j,k⟩:=B2 aE n (d+1) _ (i.in c af) af h i.iy;exact⟨af,af,(i.trans j).less af,k⟩
  |false=>
   rw[a,aT]at h;cases h;exact⟨Int.le_refl _,af,(bR.refl c e).less (by simp),a⟩
def Iv:∀(n:Nat) (d:Int) (s:aw),s.aF≠0->gm T n d s= .inl (d,s)
 |0,d,s,h=>by rw[gm,ev h];rfl
 |n+1,d,s,h=>by rw[gm,ev h];rfl
def v7{x:aJ}:∀(n:Nat) (s:aw),s.aF≠0->(takeN T x n s).aF≠0
 |0,s,aB=>aB
 |n+1,s,aB=>v7 n _ (by unfold bl;rw[ev aB,aT,fj aB];exact aB)
def oy(aE:Good T E)(k:cJ E s)(h:(cM T s).2.aF=0):jW (cM T s).1.1 (cM T s).1.2/\bR E s (cM T s).2 1:=by
 have c:s.aF=0:=by
  by_cases c:s.aF=0
  ·exact c
  ·exfalso;unfold cM at h;rw[Iv 3 0 s c]at h;simp only[fl,ev c,Bool.or_self,aT,BP c]at h;exact v7 _ _ c h
 have k:=k c;unfold cM at h ⊢;cases l:gm T 3 0 s with
 |inr s'=>
  exfalso;rw[l]at h;have key:∀(n:Nat) (d:Int) (s:aw) {s':aw},gm T n d s= .inr s'->s'.aF≠0:=by
   intro n
   induction n with
   |zero=>
    intro d s s' h;rw[gm]at h;cases a:a1 T s [91]<;>rw[a]at h<;>cases h;exact eT cp
   |succ n v=>
    intro d s s' h;rw[gm]at h;cases a:a1 T s [91]<;>rw[a]at h
    ·cases h
    ·exact v _ _ h
  exact key _ _ _ l h
 |inl q=>
  obtain⟨m,o,i,-⟩:=B2 aE 3 0 s k af l c;rw[l]at h;obtain⟨d,s1⟩:=q;simp only at h m o i ⊢;have e:=i.in k af;unfold fl at h ⊢;cases a:a1 T s1 [105,110,116]||a1 T s1 [98,111,111,108]with
  |true=>
   rw[a,aY]at h;rw[aY];have p:bR E s1 (aD s1) 1/\((au T s1.at_).text=[105,110,116]\/(au T s1.at_).text=[98,111,111,108]):=by
    rcases Bool.or_eq_true_iff.1 a with a|a
    ·exact⟨fk aE e a,.inl (dW a).2.2⟩
    ·exact⟨fk aE e a,.inr (dW a).2.2⟩
   have u:=v_ aE _ _ (p.1.fD (λ_=>e) af) h;exact⟨⟨m,by simpa using o,.inr p.2⟩,((i.trans p.1).trans u).less af⟩
  |false=>
   rw[a,aT]at h;rw[aT];have j:(bu T s1).2.aF=0:=by
    by_cases j:(bu T s1).2.aF=0
    ·exact j
    ·exact absurd h (v7 _ _ j)
   obtain⟨w,n2⟩:=j9 aE (λ_=>e) j;have u:=v_ aE _ _ (n2.fD (λ_=>e) af) h;exact⟨⟨m,by simpa using o,.inl w⟩,((i.trans n2).trans u).less af⟩
end
def gi(ai a0:Int)(m:Nat)(e:aL)(aR:Int):Prop:=(cE e:Int)<=60*(aR-a0)/\∃d:Nat,ai+d<=50/\cm d m e
def gi.low{ai a0 aR:Int}{m m':Nat}{e:aL}(h:gi ai a0 m e aR)(hm:m'<=m):gi ai a0 m' e aR:=⟨h.1,h.2.imp λ_ h=>⟨h.1,h.2.low hm⟩⟩
def gi.wide{ai a0 aR a c:Int}{m:Nat}{e:aL}(h:gi ai a0 m e aR)(d:a<=a0)(i:aR<=c):gi ai a m e c:=⟨by have:=h.1;omega,h.2⟩
def sY{a:bM}(d:a.name.length<=8)(c:a.cf=[]):(cE (.mk a []):Int)<=60:=by simp[cE,b0,c];omega
def EH{a:bM}(d:a.cf.length<=8)(c:a.name=[]):(cE (.mk a []):Int)<=60:=by simp[cE,b0,c];omega
def sZ{a:bM}{e:aL}(c:a.name.length+a.cf.length<=8):(cE (.mk a [e]):Int)<=60+cE e:=by simp[cE,b0];omega
def EI{a:bM}{e f:aL}(c:a.name.length+a.cf.length<=8):(cE (.mk a [e,f]):Int)<=60+cE e+cE f:=by simp[cE,b0];omega
def MO{a:bM}{l:List aL}(c:a.name.length+a.cf.length<=8):(cE (.mk a l):Int)<=60+b0 l:=by simp[cE];omega
structure Fc(T:List Tok)(E:Int)(n:Nat):Prop where
 expr:∀lev s p,lev<=5->cJ E s->dP T n lev s=some p->p.2.aF=0->bR E s p.2 1/\gi s.bP s.at_ (lev+1) p.1 p.2.at_
 yp:∀lev e a0 s p,lev<=4->cJ E s->(s.aF=0->gi s.bP a0 (lev+1) e s.at_)->hI T n lev e s=some p->p.2.aF=0->bR E s p.2 0/\gi s.bP a0 (lev+1) p.1 p.2.at_
 unary:∀s p,cJ E s->jl T n s=some p->p.2.aF=0->bR E s p.2 1/\gi s.bP s.at_ 6 p.1 p.2.at_
 sign:∀k s p,k=12\/k=13->cJ E s->kB T n k s=some p->p.2.aF=0->bR E s p.2 1/\gi s.bP s.at_ 6 p.1 p.2.at_
 behind:∀e a0 s p,cJ E s->(s.aF=0->gi s.bP a0 7 e s.at_)->fh T n e s=some p->p.2.aF=0->bR E s p.2 0/\gi s.bP a0 7 p.1 p.2.at_
 inner:∀s p,cJ E s->gT T n s=some p->p.2.aF=0->bR E s p.2 1/\gi (s.bP+1) s.at_ 0 p.1 p.2.at_
 first:∀s p,cJ E s->hJ T n s=some p->p.2.aF=0->bR E s p.2 1/\gi s.bP s.at_ 7 p.1 p.2.at_
 fresh:∀pos s p,cJ E s->j5 T n pos s=some p->p.2.aF=0->bR E s p.2 1/\gi s.bP (s.at_-1) 7 p.1 p.2.at_
 args:∀s p,cJ E s->h1 T n s=some p->p.2.aF=0->bR E s p.2 1/\(b0 p.1:Int)<=60*(p.2.at_-s.at_)/\∃d:Nat,s.bP+1+d<=50/\∀e∈p.1,cm d 0 e
 xi:∀l a0 s p,cJ E s->1<=s.bP->(s.aF=0->(b0 l:Int)<=60*(s.at_-a0)/\∃d:Nat,s.bP+d<=50/\∀e∈l,cm d 0 e)->gS T n l s=some p->p.2.aF=0->(s.aF=0/\p.2.bP=s.bP-1/\s.at_+1<=p.2.at_/\p.2.at_<=E)/\(b0 p.1:Int)<=60*(p.2.at_-a0)/\∃d:Nat,s.bP+d<=50/\∀e∈p.1,cm d 0 e
def fi{α β:Type}{x:Option α}{f:α->Option β}{b:β}(h:x.bind f=D b):∃a,x=D a/\f a=D b:=cR.1 h
def Bc{x:aJ}:∀l:List (aJ×Int),j8 x l≠0->∃k,(x,k)∈l/\j8 x l=k
 |[],h=>absurd rfl h
 |(y,k)::r,h=>by
  rw[j8]at h ⊢;cases a:y==x with
  |true=>
   obtain rfl:y=x:=by simpa using a
   rw[aY];exact⟨k,List.mem_cons_self,rfl⟩
  |false=>
   rw[a,aT]at h;rw[aT];obtain⟨k,c,d⟩:=Bc r h;exact⟨k,List.mem_cons_of_mem _ c,d⟩
def Ij(lev:Nat):Bool:=(jE[lev]?.getD []).all λp=>decide (14<=p.2)&&decide (p.2<=24)&&c6 p.2==lev+1
def Ik:(List.range 5).all Ij=true:=by decide+kernel
def H_{lev:Nat}(e:lev<=4){t:Tok}(h:ez lev t≠0):t.kind=4/\14<=ez lev t/\ez lev t<=24/\c6 (ez lev t)=lev+1/\(t.text,ez lev t)∈jE[lev]?.getD []:=by
 unfold ez at h ⊢;cases a:(t.kind != 4)with
 |true=>rw[a,aY]at h;exact absurd rfl h
 |false=>
  rw[a,aT]at h;rw[aT];obtain⟨k,c,d⟩:=Bc _ h;have:=List.all_eq_true.1 (List.all_eq_true.1 Ik lev (List.mem_range.2 af)) _ c;simp only[Bool.and_eq_true,decide_eq_true_eq,beq_iff_eq]at this;rw[d];exact⟨by simpa using a,this.1.1,this.1.2,this.2,c⟩
def pJ{ai:Int}{d a:Nat}(h:ai+d<=50)(ba:ai+a<=50):ai+(max d a:Nat)<=50:=af
def vq{T:List Tok}{E:Int}(aE:Good T E):∀n,Fc T E n
 |0=>by
  constructor<;>intros<;>rename_i h _<;>first|cases h|skip
 |n+1=>by
  have x:=vq aE n;refine⟨?_,?_,?_,?_,?_,?_,?_,?_,?_,?_⟩
  ·intro lev s p ao i h aG;rw[dP]at h;split at h
   ·rename_i S;subst S;exact x.unary s p i h aG
   ·obtain⟨q,g1,g2⟩:=fi h;have u:=λj=>x.expr (lev+1) s q af i g1 j
    obtain⟨y,A⟩:=x.yp lev q.1 s.at_ q.2 p af (λj=>(u j).1.in (i (u j).1.f) af) (λj=>by rw[(u j).1.ai];exact(u j).2.low af) g2 aG;have u:=u y.f;exact⟨(u.1.trans y).less af,by rw[u.1.ai]at A;exact A⟩
  ·intro lev e a0 s p ao i he h aG;rw[hI]at h;cases B:(s.aF==0&&ez lev (au T s.at_) != 0)with
   |false=>
    rw[B,aT]at h;cases h;exact⟨.refl (i aG) aG,he aG⟩
   |true=>
    rw[B,aY]at h;simp only[Bool.and_eq_true,beq_iff_eq,bne_iff_ne,ne_eq]at B;obtain⟨m,aM⟩:=B;obtain⟨aW,aR,aS,aC,-⟩:=H_ ao aM;have o:=(go_ok aE (i m) m af).2;have L:=o.in (i m) af;obtain⟨q,g1,g2⟩:=fi h;have u:=λj=>x.expr (lev+1) (aD s) q af (λ_=>L) g1 j
    have key:∀j:q.2.aF=0,gi q.2.bP a0 (lev+1) (.mk {kind:=ez lev (au T s.at_),pos:=(au T s.at_).pos} [e,q.1]) q.2.at_:=by
     intro j;obtain⟨v,R,d,O,F⟩:=u j;obtain⟨i2,H,i3,i4⟩:=he m;have:=EI (a:={kind:=ez lev (au T s.at_),pos:=(au T s.at_).pos}) (e:=e) (f:=q.1) (by simp);have P:=o.a;have go:=o.ai;have al:=v.ai;refine⟨af,max d H,by rw[al,go];exact pJ (by rw[<-go];exact O) i3,?_⟩;refine .bin af aR aS ?_ ?_
     ·rw[aC];exact i4.more af
     ·rw[aC];exact F.more af
    obtain⟨y,A⟩:=x.yp lev _ a0 q.2 p ao (λj=>(u j).1.in L af) key g2 aG;have u:=u y.f;refine⟨((o.trans u.1).trans y).less af,?_⟩;rw[u.1.ai,o.ai]at A;exact A
  ·intro s p i h aG;rw[jl]at h;cases w:a1 T s [45]with
   |true=>rw[w,aY]at h;exact x.sign 12 s p (.inl rfl) i h aG
   |false=>
    rw[w,aT]at h;cases W:a1 T s [33]with
    |true=>rw[W,aY]at h;exact x.sign 13 s p (.inr rfl) i h aG
    |false=>
     rw[W,aT]at h;obtain⟨q,g1,g2⟩:=fi h;have u:=λj=>x.first s q i g1 j
     obtain⟨y,A⟩:=x.behind q.1 s.at_ q.2 p (λj=>(u j).1.in (i (u j).1.f) af) (λj=>by rw[(u j).1.ai];exact(u j).2) g2 aG;have u:=u y.f;exact⟨(u.1.trans y).less af,by rw[u.1.ai]at A;exact A.low af⟩
  ·intro k s p aL i h aG;rw[kB]at h;obtain⟨q,g1,g2⟩:=fi h;cases g2;have j:q.2.aF=0:=aG;have aO:(cN T (au T s.at_).text s).aF=0->cJ E (cN T (au T s.at_).text s):=λm _=>(iH aE i m).2.2.2.2.1
   obtain⟨v,R,d,O,F⟩:=x.expr 5 _ q af (λm=>aO m m) g1 j;obtain⟨bH,bX,ck,dr,G,ag⟩:=iH aE i v.f;have aJ:=v.in G af;have aN:=vi aJ;simp only[aN]at aG ⊢;have az:=v.a;have al:=v.ai;have aq:=v.b;have:=sZ (a:={kind:=k,pos:=(au T s.at_).pos}) (e:=q.1) (by simp);refine⟨⟨bX,aG,by(try simp only);omega,by(try simp only);omega,aq⟩,by(try simp only);omega,d+1,af,.sign af aL F⟩
  ·intro e a0 s p i he h aG;rw[fh]at h;cases w:a1 T s [46]with
   |true=>
    rw[w,aY]at h;have m:=(dW w).1;have o:=fk aE (i m) w;have L:=o.in (i m) af;have V:=λj=>j9 aE (s:=aD s) (λ_=>L) j
    obtain⟨i2,H,i3,i4⟩:=he m;obtain⟨y,A⟩:=x.behind _ a0 _ p (λj=>(V j).2.in L af) (λj=>by
     obtain⟨N,n2⟩:=V j;have:=sZ (a:={kind:=5,name:=(bu T (aD s)).1,pos:=(au T s.at_).pos}) (e:=e) (by have:=eM N;simp;omega);have ax:=n2.a;have P:=o.a;refine⟨af,H,by rw[n2.ai,o.ai];exact i3,.field af N i4⟩) h aG
    have n2:=(V y.f).2;refine⟨((o.trans n2).trans y).less af,?_⟩;rw[n2.ai,o.ai]at A;exact A
   |false=>
    rw[w,aT]at h;cases W:a1 T s [91]with
    |true=>
     rw[W,aY]at h;have m:=(dW W).1;obtain⟨q,g1,g2⟩:=fi h;obtain⟨i2,H,i3,i4⟩:=he m;have u:=λj=>x.expr 0 _ q af (λm=>(iH aE i m).2.2.2.2.1) g1 j
     have aI:(dn T [93] q.2).aF=0->q.2.aF=0:=λM=>by
      have ba:(bl T [93] q.2).aF=0:=M;unfold bl at ba;cases K:a1 T q.2 [93]with
      |true=>exact(dW K).1
      |false=>rw[K,aT]at ba;exact absurd ba (eT cp)
     have key:∀M:(dn T [93] q.2).aF=0,bR E s (dn T [93] q.2) 3/\gi s.bP a0 7 (.mk {kind:=6,pos:=(au T s.at_).pos} [e,q.1]) (dn T [93] q.2).at_:=by
      intro M;obtain⟨v,R,d,O,F⟩:=u (aI M);obtain⟨bH,bX,ck,dr,G,ag⟩:=iH aE i v.f;have B:=pN aE af ck.symm dr.symm m G v M;have am:=B.a;have aq:q.2.at_+1<=(dn T [93] q.2).at_:=by
       have ba:(bl T [93] q.2).aF=0:=M;have:=(eB aE (λ_=>v.in G af) ba).2.2.a;exact this
      have:=EI (a:={kind:=6,pos:=(au T s.at_).pos}) (e:=e) (f:=q.1) (by simp);refine⟨B.less af,af,max H (d+1),pJ i3 af,?_⟩;obtain⟨z,K⟩:∃z,max H (d+1)=z+1:=⟨max H (d+1)-1,af⟩;rw[K];exact .item af (i4.more af) ((F.low af).more af)
     obtain⟨y,A⟩:=x.behind _ a0 _ p (λM=>(key M).1.in (i m) af) (λM=>by rw[(key M).1.ai];exact(key M).2) g2 aG;have ad:=(key y.f).1;refine⟨(ad.trans y).less af,?_⟩;rw[ad.ai]at A;exact A
    |false=>
     rw[W,aT]at h;cases h;exact⟨.refl (i aG) aG,he aG⟩
  ·intro s p i h aG;rw[gT]at h;obtain⟨q,g1,g2⟩:=fi h;cases g2;have j:q.2.aF=0:=by
    have ba:(bl T [41] q.2).aF=0:=aG;unfold bl at ba;cases K:a1 T q.2 [41]with
    |true=>exact(dW K).1
    |false=>rw[K,aT]at ba;exact absurd ba (eT cp)
   obtain⟨v,R,d,O,F⟩:=x.expr 0 _ q af (λm=>(iH aE i m).2.2.2.2.1) g1 j;obtain⟨bH,bX,ck,dr,G,ag⟩:=iH aE i v.f;have B:=pN aE af ck.symm dr.symm bX G v aG;have am:=B.a;have aq:q.2.at_+1<=(dn T [41] q.2).at_:=by
    have ba:(bl T [41] q.2).aF=0:=aG;exact(eB aE (λ_=>v.in G af) ba).2.2.a
   refine⟨B.less af,by(try simp only);omega,d,by rw[<-ck];exact O,F.low af⟩
  ·intro s p i h aG;rw[hJ]at h;cases u:(s.aF==0&&(au T s.at_).kind==2)with
   |true=>
    rw[u,aY]at h;cases h;simp only[Bool.and_eq_true,beq_iff_eq]at u;have o:=(go_ok aE (i u.1) u.1 af).2;have V:=Mz aE u.2;have P:=o.a;have:=sY (a:={kind:=1,n:=(au T s.at_).n,pos:=(au T s.at_).pos}) (by simp) rfl;have Q:=(i u.1).d;exact⟨o,by(try simp only);omega,0,by simpa using Q,.int af V.1 V.2⟩
   |false=>
    rw[u,aT]at h;cases aa:(a1 T s [116,114,117,101]||a1 T s [102,97,108,115,101])with
    |true=>
     rw[aa,aY]at h;cases h;have o:bR E s (aD s) 1:=by
      rcases Bool.or_eq_true_iff.1 aa with w|w<;>exact fk aE (i (dW w).1) w
     have P:=o.a;have Q:=(i o.f).d;have:=sY (a:={kind:=2,n:=bif (au T s.at_).text==[116,114,117,101]then 1 else 0,pos:=(au T s.at_).pos}) (by simp) rfl;refine⟨o,by(try simp only);omega,0,by simpa using Q,.bool af ?_⟩;cases(au T s.at_).text==[116,114,117,101]
     ·exact .inl rfl
     ·exact .inr rfl
    |false=>
     rw[aa,aT]at h;cases ah:a1 T s [110,117,108,108]with
     |true=>
      rw[ah,aY]at h;cases h;have m:=(dW ah).1;have o:=fk aE (i m) ah;obtain⟨bH,bX⟩:=oy aE (o.fD i af) aG;have P:=o.a;have aQ:=bX.a;have Q:=(i m).d;have:=EH (a:={kind:=3,cf:=(cM T (aD s)).1.1,c4:=(cM T (aD s)).1.2,pos:=(au T s.at_).pos}) (gn bH) rfl;exact⟨(o.trans bX).less af,by(try simp only);omega,0,by simpa using Q,.null af bH⟩
     |false=>
      rw[ah,aT]at h;cases ab:a1 T s [110,101,119]with
      |true=>
       rw[ab,aY]at h;have m:=(dW ab).1;have o:=fk aE (i m) ab;obtain⟨y,A⟩:=x.fresh _ _ p (o.fD i af) h aG;have P:=o.a;have ge:=(go_ok aE (i m) m (by rw[(dW ab).2.1];exact uL _)).1;rw[o.ai]at A;exact⟨(o.trans y).less af,A.wide (by rw[ge];simp) (Int.le_refl _)⟩
      |false=>
       rw[ab,aT]at h;cases S:a1 T s [108,101,110]with
       |true=>
        rw[S,aY]at h;have m:=(dW S).1;have o:=fk aE (i m) S;obtain⟨q,g1,g2⟩:=fi h;cases g2;obtain⟨v,R,d,O,F⟩:=x.inner _ q (o.fD i af) g1 aG;have P:=o.a;have go:=o.ai;have:=sZ (a:={kind:=10,pos:=(au T s.at_).pos}) (e:=q.1) (by simp);exact⟨(o.trans v).less af,by(try simp only);omega,d+1,af,.len af F⟩
       |false=>
        rw[S,aT]at h;cases ak:a1 T s [114,101,97,100]with
        |true=>
         rw[ak,aY]at h;cases h;have m:=(dW ak).1;have o:=fk aE (i m) ak;have j:(cN T [40] (aD s)).aF=0:=by
          have ba:(bl T [41] (cN T [40] (aD s))).aF=0:=aG;unfold bl at ba;cases K:a1 T (cN T [40] (aD s)) [41]with
          |true=>exact(dW K).1
          |false=>rw[K,aT]at ba;exact absurd ba (eT cp)
         obtain⟨bH,bX,ck,dr,G,ag⟩:=iH aE (o.fD i af) j;have B:=pN aE (k:=0) af ck.symm dr.symm bX G (.refl G j) aG;have P:=o.a;have go:=o.ai;have am:=B.a;have:=sY (a:={kind:=11,pos:=(au T s.at_).pos}) (by simp) rfl;exact⟨(o.trans B).less af,by(try simp only);omega,1,af,.read af⟩
        |false=>
         rw[ak,aT]at h;cases ay:a1 T s [40]with
         |true=>
          rw[ay,aY]at h;obtain⟨v,R,d,O,F⟩:=x.inner s p i h aG;exact⟨v,R,d+1,af,F.up af⟩
         |false=>
          rw[ay,aT]at h;have Q:s.aF=0->s.bP<=50:=λm=>(i m).d
          cases an:a1 T (bu T s).2 [40]with
          |true=>
           rw[an,aY]at h;obtain⟨q,g1,g2⟩:=fi h;cases g2;obtain⟨N,n2⟩:=j9 aE i (dW an).1;obtain⟨y,A,d,ad,ae⟩:=x.args _ q (n2.fD i af) g1 aG;have ax:=n2.a;have no:=n2.ai;have:=MO (a:={kind:=7,name:=(bu T s).1,pos:=(au T s.at_).pos}) (l:=q.1) (by have:=eM N;simp;omega);exact⟨(n2.trans y).less af,by(try simp only);omega,d+1,af,.call af N ae⟩
          |false=>
           rw[an,aT]at h;cases h;obtain⟨N,n2⟩:=j9 aE i aG;have ax:=n2.a;have:=sY (a:={kind:=4,name:=(bu T s).1,pos:=(au T s.at_).pos}) (eM N) rfl;exact⟨n2,by(try simp only);omega,0,by simpa using Q n2.f,.var af N⟩
  ·intro pos s p i h aG;rw[j5]at h;cases w:a1 T s [91]with
   |true=>
    rw[w,aY]at h;obtain⟨q,g1,g2⟩:=fi h;cases g2;have m:=(dW w).1;have o:=fk aE (i m) w;have L:=o.in (i m) af;have ap:=λj:(bl T [93] (cM T (aD s)).2).aF=0=>by
     have aa:(cM T (aD s)).2.aF=0:=by
      unfold bl at j;cases K:a1 T (cM T (aD s)).2 [93]with
      |true=>exact(dW K).1
      |false=>rw[K,aT]at j;exact absurd j (eT cp)
     have ai:=oy aE (λ_=>L) aa;exact aj ai (eB aE (λ_=>ai.2.in L af) j).2.2
    obtain⟨v,R,d,O,F⟩:=x.inner _ q (λj=>((ap j).1.2.trans (ap j).2).in L af) g1 aG;obtain⟨⟨bH,bX⟩,ck⟩:=ap v.f;have P:=o.a;have go:=o.ai;have aQ:=bX.a;have aV:=bX.ai;have aU:=ck.a;have to:=ck.ai;have:=sZ (a:={kind:=9,cf:=(cM T (aD s)).1.1,c4:=(cM T (aD s)).1.2,pos:=pos}) (e:=q.1) (by have:=gn bH;simp;omega);exact⟨(((o.trans bX).trans ck).trans v).less af,by(try simp only);omega,d+1,af,.make af bH F⟩
   |false=>
    rw[w,aT]at h;cases h;obtain⟨N,n2⟩:=j9 aE i aG;have ax:=n2.a;have Q:=(i n2.f).d;have:=EH (a:={kind:=8,cf:=(bu T s).1,pos:=pos}) (eM N) rfl;exact⟨n2,by(try simp only);omega,0,by simpa using Q,.new af N⟩
  ·intro s p i h aG;rw[h1]at h;cases w:a1 T (cN T [40] s) [41]with
   |true=>
    rw[w,aY]at h;cases h;obtain⟨bH,bX,ck,dr,G,ag⟩:=iH aE i (dW w).1;have B:=pN aE (k:=0) af ck.symm dr.symm bX G (.refl G (dW w).1) aG;have am:=B.a;refine⟨B.less af,by simp only[b0];omega,0,af,λe he=>by cases he⟩
   |false=>
    rw[w,aT]at h;obtain⟨q,g1,g2⟩:=fi h;have u:=λj=>x.expr 0 _ q af (λm=>(iH aE i m).2.2.2.2.1) g1 j
    have aH:=λj=>iH aE i (u j).1.f
    by_cases j:q.2.aF=0
    ·obtain⟨v,R,d,O,F⟩:=u j;obtain⟨bH,bX,ck,dr,G,ag⟩:=aH j;have al:=v.ai;have az:=v.a;have B:=(i bX).c;obtain⟨⟨y,A,ad,ae⟩,av,H,aP,aw⟩:=x.xi [q.1] s.at_ q.2 p (λ_=>v.in G af) af (λ_=>⟨by simp only[b0];omega,d,af,λe he=>by
      simp only[List.mem_cons,List.not_mem_nil,or_false]at he;subst he;exact F.low af⟩) g2 aG
     exact⟨⟨bX,aG,af,af,ae⟩,av,H,af,aw⟩
    ·exfalso;cases n with
     |zero=>rw[gS]at g2;cases g2
     |succ n=>
      rw[gS,ev j,aT]at g2;cases g2;have ba:(bl T [41] q.2).aF=0:=aG;unfold bl at ba;rw[ev j,aT]at ba;exact absurd ba (eT cp)
  ·intro l a0 s p i aB he h aG;rw[gS]at h;cases w:a1 T s [44]with
   |true=>
    rw[w,aY]at h;obtain⟨q,g1,g2⟩:=fi h;have m:=(dW w).1;have o:=fk aE (i m) w;have L:=o.in (i m) af;have u:=λj=>x.expr 0 _ q af (λ_=>L) g1 j
    by_cases j:q.2.aF=0
    ·obtain⟨v,R,d,O,F⟩:=u j;obtain⟨i2,H,i3,i4⟩:=he m;have go:=o.ai;have P:=o.a;have al:=v.ai;have az:=v.a;obtain⟨⟨y,A,ad,ae⟩,av,d2,aP,aw⟩:=x.xi (l++[q.1]) a0 q.2 p (λ_=>v.in L af) af (λ_=>⟨by rw[EJ];omega,max d H,pJ af af,λe he=>by
      rcases List.mem_append.1 he with he|he
      ·exact(i4 e he).more af
      ·simp only[List.mem_cons,List.not_mem_nil,or_false]at he;subst he;exact(F.low af).more af⟩) g2 aG
     exact⟨⟨m,af,af,ae⟩,av,d2,af,aw⟩
    ·exfalso;cases n with
     |zero=>rw[gS]at g2;cases g2
     |succ n=>
      rw[gS,ev j,aT]at g2;cases g2;have ba:(bl T [41] q.2).aF=0:=aG;unfold bl at ba;rw[ev j,aT]at ba;exact absurd ba (eT cp)
   |false=>
    rw[w,aT]at h;cases h;have ba:(bl T [41] s).aF=0:=aG;obtain⟨t1,t2,t3⟩:=eB aE i ba;have m:=t3.f;obtain⟨i2,H,i3,i4⟩:=he m;have aU:=t3.a;have to:=t3.ai;have sT:=t3.b;have aK:=t3.in (i m) af;have e:dn T [41] s={bl T [41] s with bP:=(bl T [41] s).bP-1}:=by unfold dn;exact vi aK
    simp only[e]at aG ⊢;refine⟨⟨m,by(try simp only);omega,by(try simp only);omega,sT⟩,by(try simp only);omega,H,i3,i4⟩
inductive ea:Nat->bE->Prop
 |var {d x ai z p}:en x=true->jW ai z->ea d (.mk {kind:=1,name:=x,cf:=ai,c4:=z,pos:=p} [] [] [])
 |lets {d x ai z p e}:en x=true->jW ai z->cm d 0 e->ea d (.mk {kind:=2,name:=x,cf:=ai,c4:=z,pos:=p} [e] [] [])
 |set {d x p e}:en x=true->cm d 0 e->ea d (.mk {kind:=3,name:=x,pos:=p} [e] [] [])
 |put {d p e f}:e.kind=5\/e.kind=6->cm d 0 e->cm d 0 f->ea d (.mk {kind:=4,pos:=p} [e,f] [] [])
 |ifs {d p e b c}:cm (d+1) 0 e->(∀s∈b,ea d s)->(∀s∈c,ea d s)->ea (d+1) (.mk {kind:=5,pos:=p} [e] b c)
 |while {d p e b}:cm (d+1) 0 e->(∀s∈b,ea d s)->ea (d+1) (.mk {kind:=6,pos:=p} [e] b [])
 |mV {d p}:ea d (.mk {kind:=7,pos:=p} [] [] [])
 |mW {d p e}:cm d 0 e->ea d (.mk {kind:=7,pos:=p} [e] [] [])
 |print {d p e}:cm d 0 e->ea d (.mk {kind:=8,pos:=p} [e] [] [])
 |call {d p e}:e.kind=7->cm d 0 e->ea d (.mk {kind:=9,pos:=p} [e] [] [])
def ea.at{d:Nat}{s:bE}(h:ea d s)(p:Int):ea d (s.at p):=by
 cases h with
 |var a b=>exact .var a b
 |lets a b c=>exact .lets a b c
 |set a b=>exact .set a b
 |put a b c=>exact .put a b c
 |ifs a b c=>exact .ifs a b c
 | «while» a b=>exact .while a b
 |mV=>exact .mV
 |mW a=>exact .mW a
 |print a=>exact .print a
 |call a b=>exact .call a b
def ea.more{d:Nat}{s:bE}(h:ea d s):∀{e:Nat},d<=e->ea e s:=by
 induction h with
 |var a b=>intro e _;exact .var a b
 |lets a b c=>intro e i;exact .lets a b (c.more i)
 |set a b=>intro e i;exact .set a (b.more i)
 |put a b c=>intro e i;exact .put a (b.more i) (c.more i)
 |ifs a _ _ ih1 ih2=>intro e i;obtain⟨k,rfl⟩:∃k,e=k+1:=⟨e-1,af⟩;exact .ifs (a.more i) (λs aB=>ih1 s aB af) (λs aB=>ih2 s aB af)
 | «while» a _ ih1=>intro e i;obtain⟨k,rfl⟩:∃k,e=k+1:=⟨e-1,af⟩;exact .while (a.more i) (λs aB=>ih1 s aB af)
 |mV=>intro e _;exact .mV
 |mW a=>intro e i;exact .mW (a.more i)
 |print a=>intro e i;exact .print (a.more i)
 |call a b=>intro e i;exact .call a (b.more i)
mutual
def dY:bE->Nat
 | .mk a es b c=>400+a.name.length+a.cf.length+b0 es+du b+du c
def du:List bE->Nat
 |[]=>0
 |e::r=>dY e+du r
end
def EL:∀(l:List bE) (e:bE),du (l++[e])=du l+dY e
 |[],e=>by simp[du]
 |x::l,e=>by rw[List.cons_append,du,EL l e,du];omega
def MQ(s:bE)(p:Int):dY (s.at p)=dY s:=by cases s;rfl
def EK{a:b1}(c:a.name.length+a.cf.length<=16):(dY (.mk a [] [] []):Int)<=416:=by simp[dY,b0,du];omega
def q5{a:b1}{e:aL}(c:a.name.length+a.cf.length<=16):(dY (.mk a [e] [] []):Int)<=416+cE e:=by simp[dY,b0,du];omega
def MR{a:b1}{e f:aL}(c:a.name.length+a.cf.length<=16):(dY (.mk a [e,f] [] []):Int)<=416+cE e+cE f:=by simp[dY,b0,du];omega
def wu{a:b1}{e:aL}{b c:List bE}(d:a.name.length+a.cf.length<=16):(dY (.mk a [e] b c):Int)<=416+cE e+du b+du c:=by simp[dY,b0];omega
section
variable {T:List Tok}{E:Int}{s s' s2:aw}
def bR.to{y:aw}{k:Int}(c:cJ E s)(h:y.aF=0->bR E s y k)(d:0<=k):cJ E y:=λa=>(h a).in (c (h a).f) d
def mg(T:List Tok):Prop:=∀s,∃p,dP T 800000000 0 s=D p
def mB(aE:Good T E)(d:mg T)(e:cJ E s)(h:(bB T s).2.aF=0):bR E s (bB T s).2 1/\gi s.bP s.at_ 0 (bB T s).1 (bB T s).2.at_:=by
 obtain⟨p,aG⟩:=d s;unfold bB at h ⊢;rw[aG]at h ⊢;obtain⟨a,c⟩:=(vq aE 800000000).expr 0 s p af e aG h;exact⟨a,c.low af⟩
def Ez(aE:Good T E)(i:cJ E s)(h:(dX T s).2.aF=0):en (dX T s).1.1=X/\jW (dX T s).1.2.1 (dX T s).1.2.2/\bR E s (dX T s).2 3:=by
 have c:=λj=>j9 aE i j
 have d:=λj=>eB aE (s:=(bu T s).2) (x:=[58]) (bR.to i (λa=>(c a).2) af) j
 have e:=oy aE (s:=bl T [58] (bu T s).2) (bR.to i (λa=>(c (d a).2.2.f).2.trans (d a).2.2) af) h;have l:=d e.2.f;have k:=c l.2.2.f;exact⟨k.1,e.1,((k.2.trans l.2.2).trans e.2).less af⟩
structure Ff(T:List Tok)(E:Int)(n:Nat):Prop where
 block:∀s p,cJ E s->iU T n s=some p->p.2.aF=0->bR E s p.2 2/\(du p.1:Int)<=400*(p.2.at_-s.at_-2)/\∃d:Nat,s.bP+(d+1)<=50/\∀x∈p.1,ea d x
 loop:∀l a0 s p,cJ E s->(s.aF=0->(du l:Int)<=400*(s.at_-a0)/\∃d:Nat,s.bP+d<=50/\∀x∈l,ea d x)->mK T n l s=some p->p.2.aF=0->bR E s p.2 0/\(du p.1:Int)<=400*(p.2.at_-a0)/\∃d:Nat,s.bP+d<=50/\∀x∈p.1,ea d x
 stmt:∀s p,cJ E s->o9 T n s=some p->p.2.aF=0->bR E s p.2 2/\(dY p.1:Int)<=400*(p.2.at_-s.at_)/\∃d:Nat,s.bP+d<=50/\ea d p.1
def IW(aE:Good T E)(G:mg T)(K:cJ E s)(h:(kb T s).2.aF=0):bR E s (kb T s).2 2/\(dY (kb T s).1:Int)<=400*((kb T s).2.at_-s.at_)/\∃d:Nat,s.bP+d<=50/\ea d (kb T s).1:=by
 have m:=λc=>mB aE G K c
 have i1:cJ E (bB T s).2:=bR.to K (λw=>(m w).1) af;unfold kb at h ⊢;cases v:a1 T (bB T s).2 [61]with
 |true=>
  rw[v,aY]at h;rw[aY];have u:=(dW v).1;obtain⟨k,P,d,y,n⟩:=m u;have ba:(bl T [59] (bB T (hH T (bB T s).1 (bB T s).2)).2).aF=0:=h;have N:=λc=>eB aE (s:=bif h4 (bB T s).1 then cL T 2 (bB T s).2 else(bB T s).2) (x:=[61]) (λi=>by
   cases j:h4 (bB T s).1 with
   |true=>rw[j,aY]at i;exact absurd i (eT cp)
   |false=>rw[aT];exact i1 u) c
  have H:(hH T (bB T s).1 (bB T s).2).aF=0->h4 (bB T s).1=U/\bR E (bB T s).2 (hH T (bB T s).1 (bB T s).2) 1:=λc=>by
   have o:=(N c).2.2;cases j:h4 (bB T s).1 with
   |true=>
    have:=o.f;rw[j,aY]at this;exact absurd this (eT cp)
   |false=>
    rw[j,aT]at o;unfold hH;rw[j,aT];exact⟨rfl,o⟩
  have i2:cJ E (hH T (bB T s).1 (bB T s).2):=λc=>(H c).2.in (i1 u) af
  have p:=λc=>mB aE G i2 c
  have i3:cJ E (bB T (hH T (bB T s).1 (bB T s).2)).2:=bR.to i2 (λw=>(p w).1) af;obtain⟨-,-,t3⟩:=eB aE i3 ba;obtain⟨z,W,B,aa,M⟩:=p t3.f;obtain⟨aZ,A⟩:=H z.f;have Q:=k.a;have R:=k.ai;have ad:=A.a;have ae:=A.ai;have ab:=z.a;have S:=t3.a;have rA:bR E s (bl T [59] (bB T (hH T (bB T s).1 (bB T s).2)).2) 2:=(((k.trans A).trans z).trans t3).less af;simp only[vR];refine⟨rA,?_⟩;cases F:(bB T s).1.kind==4 with
  |true=>
   rw[aY];have l:(bB T s).1.kind=4:=by simpa using F
   have L:en (bB T s).1.name=true:=by
    generalize (bB T s).1=e at n l;cases n with
    |par _ h _=>omega
    |var _ h=>exact h
    |bin V m p _ _=>simp only[aL.kind]at l;omega
    |sign _ m _=>simp only[aL.kind]at l;omega
    |_=>simp[aL.kind]at l
   have:=q5 (a:={kind:=3,name:=(bB T s).1.name}) (e:=(bB T (hH T (bB T s).1 (bB T s).2)).1) (by have:=eM L;simp;omega);exact⟨af,B,af,.set L M⟩
  |false=>
   rw[aT];have l:(bB T s).1.kind≠4:=by simpa using F
   have j:(bB T s).1.kind=5\/(bB T s).1.kind=6:=by
    unfold h4 at aZ;simp only[Bool.and_eq_false_iff,bne_eq_false_iff_eq]at aZ;rcases aZ with q|q|q
    ·exact absurd q l
    ·exact .inl q
    ·exact .inr q
   have:=MR (a:={kind:=4}) (e:=(bB T s).1) (f:=(bB T (hH T (bB T s).1 (bB T s).2)).1) (by simp);exact⟨af,max d B,pJ y af,.put j (n.more af) (M.more af)⟩
 |false=>
  rw[v,aT]at h;rw[aT];have ba:(bl T [59] (bif a1 T (bB T s).2 [59]&&(bB T s).1.kind != 7 then cL T 2 (bB T s).2 else(bB T s).2)).aF=0:=h;cases i:a1 T (bB T s).2 [59]&&(bB T s).1.kind != 7 with
  |true=>
   rw[i,aY]at ba;unfold bl at ba;rw[ev (eT cp),aT,fj (eT cp)]at ba;exact absurd ba (eT cp)
  |false=>
   rw[i,aT]at ba;obtain⟨t1,t2,t3⟩:=eB aE i1 ba;obtain⟨k,P,d,y,n⟩:=m t3.f;rw[t1,Bool.true_and]at i;have O:(bB T s).1.kind=7:=by simpa using i
   have Q:=k.a;have R:=k.ai;have S:=t3.a;have:=q5 (a:={kind:=9}) (e:=(bB T s).1) (by simp);simp only[aT];exact⟨(k.trans t3).less af,af,d,y,.call O n⟩
def Cl(aE:Good T E)(K:mg T):∀n,Ff T E n
 |0=>by
  constructor<;>intros<;>rename_i h _<;>first|cases h|skip
 |n+1=>by
  have N:=Cl aE K n;refine⟨?_,?_,?_⟩
  ·intro s p u h aG;rw[iU]at h;obtain⟨q,g1,g2⟩:=fi h;cases g2;have i:q.2.aF=0:=by
    have ba:(bl T [125] q.2).aF=0:=aG;unfold bl at ba;cases ao:a1 T q.2 [125]with
    |true=>exact(dW ao).1
    |false=>rw[ao,aT]at ba;exact absurd ba (eT cp)
   obtain⟨j,L,d,F,y⟩:=N.loop [] (cN T [123] s).at_ _ q (λag=>(iH aE u ag).2.2.2.2.1) (λag=>⟨by simp[du],0,by have:=(iH aE u ag).2.2.2.2.1.d;simpa using this,λx o=>by cases o⟩) g1 i;obtain⟨bH,bX,ck,dr,ay,aI⟩:=iH aE u j.f;have M:=pN aE (k:=0) af ck.symm dr.symm bX ay j aG;have aH:q.2.at_+1<=(dn T [125] q.2).at_:=by
    have ba:(bl T [125] q.2).aF=0:=aG;exact(eB aE (λ_=>j.in ay af) ba).2.2.a
   exact⟨M.less af,by(try simp only);omega,d,af,y⟩
  ·intro l a0 s p u he h aG;rw[mK]at h;cases M:(s.aF==0&& !a1 T s [125])with
   |false=>
    rw[M,aT]at h;cases h;exact⟨.refl (u aG) aG,he aG⟩
   |true=>
    rw[M,aY]at h;simp only[Bool.and_eq_true,beq_iff_eq]at M;obtain⟨q,g1,g2⟩:=fi h;have ad:=λi=>N.stmt s q u g1 i
    obtain⟨i2,az,i3,i4⟩:=he M.1;obtain⟨V,ah,d2,aj,ak⟩:=N.loop (l++[q.1]) a0 q.2 p (bR.to u (λw=>(ad w).1) af) (λi=>by
     obtain⟨j,L,d,F,y⟩:=ad i;refine⟨by rw[EL];omega,max d az,by rw[j.ai];exact pJ F i3,λx o=> ?_⟩;rcases List.mem_append.1 o with o|o
     ·exact(i4 x o).more af
     ·simp only[List.mem_cons,List.not_mem_nil,or_false]at o;subst o;exact y.more af) g2 aG
    have j:=(ad V.f).1;exact⟨(j.trans V).less af,ah,d2,by rw[<-j.ai];exact aj,ak⟩
  ·intro s p u h aG;rw[o9]at h;obtain⟨q,g1,g2⟩:=fi h;cases g2;have key:bR E s q.2 2/\(dY q.1:Int)<=400*(q.2.at_-s.at_)/\∃d:Nat,s.bP+d<=50/\ea d q.1:=by
    have i:q.2.aF=0:=aG;clear aG;cases ab:(a1 T s [118,97,114]||a1 T s [108,101,116])with
    |true=>
     rw[ab,aY]at g1;have m:bR E s (aD s) 1:=by
      rcases Bool.or_eq_true_iff.1 ab with o|o<;>exact fk aE (u (dW o).1) o
     have v:=m.fD u af;have R:=m.a;have go:=m.ai;have t1:=λi=>Ez aE v i
     have it:cJ E (dX T (aD s)).2:=bR.to v (λw=>(t1 w).2.2) af;cases G:(au T s.at_).text==[108,101,116]with
     |true=>
      rw[G,aY]at g1;cases g1;have am:=λi=>eB aE (x:=[61]) it i
      have aq:cJ E (bl T [61] (dX T (aD s)).2):=bR.to it (λw=>(am w).2.2) af;have av:=λi=>mB aE K aq i
      have B:cJ E (bB T (bl T [61] (dX T (aD s)).2)).2:=bR.to aq (λw=>(av w).1) af;obtain⟨-,-,dK⟩:=eB aE (x:=[59]) B i;obtain⟨j,L,d,F,y⟩:=av dK.f;obtain⟨-,-,W⟩:=am j.f;obtain⟨P,n2,O⟩:=t1 W.f;have aa:=dK.a;have aw:=j.a;have aJ:=W.a;have aK:=W.ai;have aC:=O.a;have no:=O.ai;have:=q5 (a:={kind:=2,name:=(dX T (aD s)).1.1,cf:=(dX T (aD s)).1.2.1,c4:=(dX T (aD s)).1.2.2}) (e:=(bB T (bl T [61] (dX T (aD s)).2)).1) (by have:=eM P;have:=gn n2;simp;omega);simp only[qa];exact⟨((((m.trans O).trans W).trans j).trans dK).less af,af,d,af,.lets P n2 y⟩
     |false=>
      rw[G,aT]at g1;cases g1;obtain⟨-,-,dK⟩:=eB aE (x:=[59]) it i;obtain⟨P,n2,O⟩:=t1 dK.f;have aa:=dK.a;have aC:=O.a;have ae:=(u m.f).d;have:=EK (a:={kind:=1,name:=(dX T (aD s)).1.1,cf:=(dX T (aD s)).1.2.1,c4:=(dX T (aD s)).1.2.2}) (by have:=eM P;have:=gn n2;simp;omega);simp only[pQ];exact⟨((m.trans O).trans dK).less af,af,0,by simpa using ae,.var P n2⟩
    |false=>
     rw[ab,aT]at g1;cases G:a1 T s [105,102]with
     |true=>
      rw[G,aY]at g1;have m:=fk aE (u (dW G).1) G;have v:=m.fD u af;have R:=m.a;have go:=m.ai;have av:=λi=>mB aE K v i
      have B:cJ E (bB T (aD s)).2:=bR.to v (λw=>(av w).1) af;obtain⟨b,g3,g4⟩:=fi g1;have al:=λi=>N.block _ b B g3 i
      cases A:a1 T b.2 [101,108,115,101]with
      |true=>
       rw[A,aY]at g4;obtain⟨c,g5,g6⟩:=fi g4;cases g6;have an:=al (dW A).1;have ap:cJ E b.2:=an.1.fD B af;have S:=fk aE (ap (dW A).1) A;obtain⟨m1,m2,d2,m3,m4⟩:=N.block _ c (S.fD ap af) g5 i;obtain⟨z,ax,d1,dI,eZ⟩:=an;obtain⟨j,L,d,F,y⟩:=av z.f;have:=wu (a:={kind:=5}) (e:=(bB T (aD s)).1) (b:=b.1) (c:=c.1) (by simp);have aR:=j.a;have a2:=z.a;have a3:=S.a;have a4:=m1.a;have bH:=j.ai;have bX:=z.ai;have ck:=S.ai;refine⟨((((m.trans j).trans z).trans S).trans m1).less af,by(try simp only);omega,max (d-1) (max d1 d2)+1,af,.ifs (y.more af) (λx o=>(eZ x o).more af) (λx o=>(m4 x o).more af)⟩
      |false=>
       rw[A,aT]at g4;cases g4;obtain⟨z,ax,d1,dI,eZ⟩:=al i;obtain⟨j,L,d,F,y⟩:=av z.f;have:=wu (a:={kind:=5}) (e:=(bB T (aD s)).1) (b:=b.1) (c:=[]) (by simp);have aR:=j.a;have a2:=z.a;have bH:=j.ai;have aB:du []=0:=rfl;refine⟨((m.trans j).trans z).less af,by(try simp only);omega,max (d-1) d1+1,af,.ifs (y.more af) (λx o=>(eZ x o).more af) (λx o=>by cases o)⟩
     |false=>
      rw[G,aT]at g1;cases A:a1 T s [119,104,105,108,101]with
      |true=>
       rw[A,aY]at g1;have m:=fk aE (u (dW A).1) A;have v:=m.fD u af;have R:=m.a;have go:=m.ai;have av:=λi=>mB aE K v i
       have B:cJ E (bB T (aD s)).2:=bR.to v (λw=>(av w).1) af;obtain⟨b,g3,g4⟩:=fi g1;cases g4;obtain⟨z,ax,d1,dI,eZ⟩:=N.block _ b B g3 i;obtain⟨j,L,d,F,y⟩:=av z.f;have:=wu (a:={kind:=6}) (e:=(bB T (aD s)).1) (b:=b.1) (c:=[]) (by simp);have aR:=j.a;have a2:=z.a;have bH:=j.ai;have aB:du []=0:=rfl;refine⟨((m.trans j).trans z).less af,by(try simp only);omega,max (d-1) d1+1,af,.while (y.more af) (λx o=>(eZ x o).more af)⟩
      |false=>
       rw[A,aT]at g1;cases Q:a1 T s [114,101,116,117,114,110]with
       |true=>
        rw[Q,aY]at g1;have m:=fk aE (u (dW Q).1) Q;have v:=m.fD u af;have R:=m.a;have go:=m.ai;have ae:=(u m.f).d;cases g1;unfold vA at i ⊢;cases H:a1 T (aD s) [59]with
        |true=>
         rw[H,aY]at i;rw[aY];obtain⟨-,-,dK⟩:=eB aE (x:=[59]) v i;have aa:=dK.a;have:=EK (a:={kind:=7}) (by simp);exact⟨(m.trans dK).less af,by(try simp only);omega,0,by simpa using ae,.mV⟩
        |false=>
         rw[H,aT]at i;rw[aT];have av:=λi=>mB aE K v i
         have B:cJ E (bB T (aD s)).2:=bR.to v (λw=>(av w).1) af;obtain⟨-,-,dK⟩:=eB aE (x:=[59]) B i;obtain⟨j,L,d,F,y⟩:=av dK.f;have aa:=dK.a;have aw:=j.a;have:=q5 (a:={kind:=7}) (e:=(bB T (aD s)).1) (by simp);exact⟨((m.trans j).trans dK).less af,by(try simp only);omega,d,af,.mW y⟩
       |false=>
        rw[Q,aT]at g1;cases H:a1 T s [112,114,105,110,116]with
        |true=>
         rw[H,aY]at g1;have m:=fk aE (u (dW H).1) H;have v:=m.fD u af;have R:=m.a;have go:=m.ai;cases g1;unfold vr at i ⊢;have av:=λi=>mB aE K v i
         have B:cJ E (bB T (aD s)).2:=bR.to v (λw=>(av w).1) af;obtain⟨-,-,dK⟩:=eB aE (x:=[59]) B i;obtain⟨j,L,d,F,y⟩:=av dK.f;have aa:=dK.a;have aw:=j.a;have:=q5 (a:={kind:=8}) (e:=(bB T (aD s)).1) (by simp);exact⟨((m.trans j).trans dK).less af,by(try simp only);omega,d,af,.print y⟩
        |false=>
         rw[H,aT]at g1;cases g1;exact IW aE K u i
   obtain⟨V,ah,d,aj,ak⟩:=key;exact⟨V,by rw[MQ];exact ah,d,aj,ak.at _⟩
end
def Tok.eh(t:Tok):Tok:=⟨t.kind,t.text,t.n,0⟩
def aw.eh(s:aw):aw:=⟨s.at_,s.bP,s.aF,0⟩
def bM.eh(a:bM):bM:={a with pos:=0}
mutual
def aL.eh:aL->aL
 | .mk a ks=> .mk a.eh (tY ks)
def tY:List aL->List aL
 |[]=>[]
 |e::es=>e.eh::tY es
end
def b1.eh(a:b1):b1:={a with pos:=0}
mutual
def bE.eh:bE->bE
 | .mk a es b c=> .mk a.eh (tY es) (ru b) (ru c)
def ru:List bE->List bE
 |[]=>[]
 |e::es=>e.eh::ru es
end
section
variable {α β:Type}{f:α->α}{h:β->β}
end
section
variable (T:List Tok)(s:aw)
def bx(t:Tok):t.eh.kind=t.kind:=rfl
def dy(t:Tok):t.eh.text=t.text:=rfl
end
def b7.eh(p:b7):b7:={p with pos:=0}
def e0.eh(r:e0):e0:=⟨r.name,r.fields.map b7.eh,0⟩
def Fn.eh(f:Fn):Fn:=⟨f.name,f.params.map b7.eh,f.has,f.dF,f.rd,ru f.body,0⟩
def dm.eh(g:dm):dm:=⟨g.da.map e0.eh,g.globals.map b7.eh,g.funcs.map Fn.eh⟩
section
variable (T:List Tok)(s:aw)
