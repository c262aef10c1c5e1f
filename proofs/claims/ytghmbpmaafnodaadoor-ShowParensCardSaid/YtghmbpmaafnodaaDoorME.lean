/-
  Texts of one proof, laid together: Hv24 Base Hv25 Pk Tab Hv26.
-/
import Derived.Test.YtghmbpmaafnodaaDoorMD
import Derived.Test.YtghmbpmaafnodaaDoorProg
import Derived.KernelRfl
import Derived.Lib.ItoaNum
import Derived.Lib.Join
import Derived.Lib.Repeat
import Derived.Lib.Small
import Derived.ProofKit
import Derived.OpenShut
import Derived.ShutString
import Derived.ChangeOld
import Derived.Below
import Derived.Carry
set_option linter.unusedVariables false
set_option linter.unusedSimpArgs false
set_option linter.defProp false
open Option renaming some→D,none→Z
open Bool renaming true→X,false→U
namespace Go.b9
def W(m:O)(Q:aa->ae->Prop):Prop:=∃v H,m=D (v,H)/\Q v H
def bb{v:aa}{H:ae}{Q:aa->ae->Prop}:W (D (v,H)) Q↔Q v H:=by
 constructor
 ·rintro⟨a,H',h,q⟩;simp only[aU,bY]at h;obtain⟨rfl,rfl⟩:=h;exact q
 ·exactλq=>⟨v,H,rfl,q⟩
def W.mono{m:O}{Q a:aa->ae->Prop}(h:W m Q)(c:∀v H,Q v H->a v H):W m a:=by
 obtain⟨v,H,e,q⟩:=h;exact⟨v,H,e,c v H q⟩
def aN{r:O}{H:ae}{k:aa->ae->O}{Q a:aa->ae->Prop}(h:W r a)(i:∀v H',a v H'->H.next<=H'.next/\W (k v H') Q):W (aI H r k) Q:=by
 obtain⟨v,H',e,q⟩:=h;obtain⟨c,d⟩:=i v H' q;rw[e];simp only[aI,decide_eq_true c,aY];exact d
def iR{r:O}{H:ae}{q:K->O}{Q a:aa->ae->Prop}(h:W r a)(i:∀v H',a v H'->H.next<=H'.next/\W (q (.dL v H')) Q):W (eJ H r q) Q:=by
 obtain⟨v,H',e,j⟩:=h;obtain⟨c,d⟩:=i v H' j;rw[e];simp only[eJ,decide_eq_true c,aY];exact d
def lr{r:O}{H:ae}{x:aa}{k:aa->ae->O}{Q:aa->ae->Prop}(h:W r λv H'=>v=x/\H'=H)(a:W (k x H) Q):W (aI H r k) Q:=by
 refine aN h ?_;rintro _ H' ⟨rfl,e⟩;rw[e];exact⟨bk _,a⟩
def nT{r:O}{H:ae}{x:aa}{q:K->O}{Q:aa->ae->Prop}(h:W r λv H'=>v=x/\H'=H)(a:W (q (.dL x H)) Q):W (eJ H r q) Q:=by
 refine iR h ?_;rintro _ H' ⟨rfl,e⟩;rw[e];exact⟨bk _,a⟩
def cz{m m':O}{Q:aa->ae->Prop}(a:∀r,m=D r->m'=D r)(h:W m Q):W m' Q:=by
 obtain⟨v,H,e,q⟩:=h;exact⟨v,H,a _ e,q⟩
def gw:Nat:=0
def M3:Nat:=0
def E4:gw=M3:=rfl
def po(v:aa)(H:ae)(k:aa->ae->O):O:=k v H
section
variable {r cU:Option aa}{ai ox:O}{m m':Option (aa×bO)}{h ba:Option ae}{H H':ae}{a bZ:aa}{b cx:Bool}{z:Nat}
 @[congr] theorem Nj {k:aa->ae->O} (e:a=bZ) (d:H=H') (y:gw=z):po a H k=po bZ H' k:=by rw[e,d]
def ET(H:ae)(cs:List aa)(k:aa->ae->O):cg H cs k=po (.ptr H.next 0 0) (H.push (.row U cs.length [cs])) k:=rfl
def E0(v:aa)(H:ae)(k:aa->ae->O):po v H k=k v H:=rfl
 @[congr] theorem Nb {k:aa->O} (e:r=cU) (y:gw=z):j r k=j cU k:=by rw[e]
 @[congr] theorem Nd {k:aa->ae->O} (d:H=H') (e:ai=ox) (y:gw=z):aI H ai k=aI H' ox k:=by rw[d,e]
 @[congr] theorem Nf {k:K->O} (d:H=H') (e:ai=ox) (y:gw=z):eJ H ai k=eJ H' ox k:=by rw[d,e]
 @[congr] theorem No {k:ae->O} (d:H=H') (e:h=ba) (y:gw=z):a7 H h k=a7 H' ba k:=by rw[d,e]
 @[congr] theorem Nk {k:aa->ae->O} (d:H=H') (e:m=m') (y:gw=z):bS H m k=bS H' m' k:=by rw[d,e]
 @[congr] theorem Nl {k:K->O} (e:m=m') (y:gw=z):s7 m k=s7 m' k:=by rw[e]
 @[congr] theorem Ni {p q:O} (e:r=cU) (y:gw=z):aW r p q=aW cU p q:=by rw[e]
 @[congr] theorem M4 {p q:O} (e:b=cx) (y:gw=z):cond b p q=cond cx p q:=by rw[e]
 @[congr] theorem Ng {w:Bool} {f:(K->O)->O} {k:aa->ae->O} (e:a=bZ) (y:gw=z):aQ a w H f k=aQ bZ w H f k:=by rw[e]
 @[congr] theorem Nh {w:Bool} {f:(K->O)->O} {k:K->O} (e:a=bZ) (y:gw=z):pn a w f k=pn bZ w f k:=by rw[e]
 @[congr] theorem Nc {s s':Option aa} {k:K->O} (e:r=cU) (d:s=s') (y:gw=z):gg r s k=gg cU s' k:=by rw[d,e]
 @[congr] theorem M7 {q:K->O} (e:r=cU) (y:gw=z):bA r q=bA cU q:=by rw[e]
 @[congr] theorem M8 {q:K->O} (e:r=cU) (y:gw=z):qr r q=qr cU q:=by rw[e]
 @[congr] theorem M9 {q:K->O} (e:a=bZ) (y:gw=z):ca a q=ca bZ q:=by rw[e]
def Cr(v:aa)(q:K->O):bA (D v) q=q (.pure v):=rfl
def Cs(v:aa)(q:K->O):qr (D v) q=q (.read v):=rfl
def Cw(v:aa)(q:K->O):ca v q=q (.pure v):=rfl
end
def CA(k:IntKind)(n:Int):bj (D (.int k n)) (.int k n)=true:=by simp[bj,aa.beq]
def CC(x:List UInt8):bj (D (.str x)) (.str x)=true:=by simp[bj,aa.beq]
def Cz(x:Bool):bj (D (.bool x)) (.bool x)=true:=by simp[bj,aa.beq]
def kS(l i n e:Nat)(c:Option Nat):bj (D (.aA l i n e c)) (.aA l i n e c)=true:=by simp[bj,aa.beq]
def vu:bj (D .ar) .ar=true:=rfl
def CB(x:List UInt8)(k:IntKind)(n:Int):bj (D (.agg [.str x,.int k n])) (.agg [.str x,.int k n])=true:=by simp[bj,aa.beq,fX.beq]
def ae.p0(H:ae)(b:bO)(l:Nat):(H.push b).get l=if l=H.next then D b else H.get l:=by
 split
 ·rename_i h;subst h;exact ae.bC H b
 ·rename_i h;exact ae.dp h
def bn.r_{α:Type}(x y:α):∀(p:List jT) (t:bn α),bn.dE y p (bn.dE x p t)=bn.dE y p t
 |[],.leaf=>rfl
 |[],.node .. =>rfl
 |d::p,.leaf=>by cases d<;>simp[bn.dE,bn.r_ x y p]
 |d::p,.node .. =>by cases d<;>simp[bn.dE,bn.r_ x y p]
def ae.I0(H:ae)(b c:bO):(H.push b).set H.next c=H.push c:=by
 simp only[ae.push,ae.set,bn.put,bn.r_]
def ae.set_set(H:ae)(l:Nat)(b c:bO):(H.set l b).set l c=H.set l c:=by
 simp only[ae.set,bn.put,bn.r_]
def ae.rC{H:ae}{b:bO}{l:Nat}(h:l<=H.next)(ba:H.next<=l):(H.push b).get l=D b:=by
 obtain rfl:l=H.next:=af
 exact ae.bC H b
def ae.Cn{H:ae}{b c:bO}{l:Nat}(h:l<=H.next)(ba:H.next<=l):(H.push b).set l c=H.push c:=by
 obtain rfl:l=H.next:=af
 exact ae.I0 H b c
def cP(S:Nat->Prop)(H H':ae):Prop:=H.next<=H'.next/\∀l,l<H.next->¬S l->H'.get l=H.get l
def aO(H H':ae):Prop:=H.next<=H'.next/\∀l,l<H.next->H'.get l=H.get l
def aO.refl(H:ae):aO H H:=⟨bk _,λ_ _=>rfl⟩
def aO.trans{H H1 a:ae}(h:aO H H1)(k:aO H1 a):aO H a:=⟨Nat.le_trans h.1 k.1,λl c=>(k.2 l (Nat.lt_of_lt_of_le c h.1)).trans (h.2 l c)⟩
def aO.push(H:ae)(b:bO):aO H (H.push b):=⟨by simp,λl a=>ae.dp af⟩
def aO.bt{H H1:ae}(h:aO H H1)(b:bO):aO H (H1.push b):=h.trans (aO.push H1 b)
def aO.cw{H H1:ae}(h:aO H H1){l:Nat}(c:H.next<=l)(b:bO):aO H (H1.set l b):=
 ⟨h.1,λj a=>by rw[ae.get_set_other af];exact h.2 j a⟩
def aO.get{H H':ae}(h:aO H H'){l:Nat}{b:bO}(a:H.get l=D b):H'.get l=D b:=by rw[h.2 l (ae.aS a)];exact a
def aO.mut{H H':ae}(h:aO H H')(S:Nat->Prop):cP S H H':=⟨h.1,λl a _=>h.2 l a⟩
def cP.refl(S:Nat->Prop)(H:ae):cP S H H:=(aO.refl H).mut S
def cP.trans{S:Nat->Prop}{H H1 a:ae}(h:cP S H H1)(k:cP S H1 a):cP S H a:=⟨Nat.le_trans h.1 k.1,λl c aB=>(k.2 l (Nat.lt_of_lt_of_le c h.1) aB).trans (h.2 l c aB)⟩
def cP.bt{S:Nat->Prop}{H H1:ae}(h:cP S H H1)(b:bO):cP S H (H1.push b):=h.trans ((aO.push H1 b).mut S)
def cP.cw{S:Nat->Prop}{H H1:ae}(h:cP S H H1){l:Nat}(c:S l\/H.next<=l)(b:bO):cP S H (H1.set l b):=
 ⟨h.1,λj a aB=>by rw[ae.get_set_other (by rintro rfl;exact c.elim aB af)];exact h.2 j a aB⟩
def cP.get{S:Nat->Prop}{H H':ae}(h:cP S H H'){l:Nat}{b:bO}(a:H.get l=D b)(aB:¬S l):H'.get l=D b:=by rw[h.2 l (ae.aS a) aB];exact a
section
variable {P:Program}{H:ae}
def dG(v:aa)(k:aa->O):j (D v) k=k v:=rfl
def ek(b:Bool)(x y:O):aW (D (.bool b)) x y=bif b then x else y:=rfl
def eI{v:aa}{H':ae}{k:aa->ae->O}(h:H.next<=H'.next):aI H (D (v,H')) k=k v H':=by
 simp only[aI,decide_eq_true h,aY]
def s8{H':ae}{k:ae->O}(h:H.next<=H'.next):a7 H (D H') k=k H':=by
 simp only[a7,Option.bind_some];exact eI h
def s6(v:aa)(b:bO)(k:aa->ae->O):bS H (D (v,b)) k=k v (H.push b):=rfl
def EZ(m:(K->O)->O)(k:aa->ae->O):aQ (.bool X) X H m k=m (λx=>po x.val (x.heap H) k):=rfl
def EV(m:(K->O)->O)(k:aa->ae->O):aQ (.bool U) U H m k=m (λx=>po x.val (x.heap H) k):=rfl
def EY(m:(K->O)->O)(k:aa->ae->O):aQ (.bool X) U H m k=k (.tuple []) H:=rfl
def EW(m:(K->O)->O)(k:aa->ae->O):aQ (.bool U) X H m k=k (.tuple []) H:=rfl
def EX(w:Bool)(m:(K->O)->O)(k:aa->ae->O):aQ (.tuple []) w H m k=k (.tuple []) H:=rfl
def EU(v:aa)(b:Option aa)(k:K->O):gg (D v) b k=k (.pure v):=rfl
def Ci(a b:Option aa):cB (.bool X) a b=a:=rfl
def Ch(a b:Option aa):cB (.bool U) a b=b:=rfl
def xm(b:Bool):e2 .not (.bool b)=D (.bool (!b)):=rfl
def xb(l i c:Nat):bW (.ptr l i c)=D (.ptr l i c):=rfl
def wQ(v:aa):(K.pure v).val=v:=rfl
def wR(v:aa):(K.read v).val=v:=rfl
def wP(v:aa)(b:bO):(K.new v b).val=v:=rfl
def wO(v:aa)(H':ae):(K.dL v H').val=v:=rfl
def wS:K.skip.val= .tuple []:=rfl
def wL(v:aa):(K.pure v).heap H=H:=rfl
def wM(v:aa):(K.read v).heap H=H:=rfl
def wK(v:aa)(b:bO):(K.new v b).heap H=H.push b:=rfl
def wJ(v:aa)(H':ae):(K.dL v H').heap H=H':=rfl
def wN:K.skip.heap H=H:=rfl
def w8(a:List aa)(i:Nat):eg (.tuple a) i=a[i]? :=rfl
def zf(t:TypeId)(c:Bool)(k:IntKind)(a b:Int):aq P .add t c (.int k a) (.int k b)=D (.int k (k.wrap (a+b))):=by simp[aq,hj]
def zo(t:TypeId)(c:Bool)(k:IntKind)(a b:Int):aq P .sub t c (.int k a) (.int k b)=D (.int k (k.wrap (a-b))):=by simp[aq,hj]
def GW(t:TypeId)(c:Bool)(k:IntKind)(a b:Int):aq P .mul t c (.int k a) (.int k b)=D (.int k (k.wrap (a*b))):=by simp[aq,hj]
def zg(t:TypeId)(c:Bool)(k:IntKind)(a b:Int):aq P .eql t c (.int k a) (.int k b)=D (.bool (a==b)):=by simp[aq,hj]
def zl(t:TypeId)(c:Bool)(k:IntKind)(a b:Int):aq P .neq t c (.int k a) (.int k b)=D (.bool (a != b)):=by simp[aq,hj]
def zk(t:TypeId)(c:Bool)(k:IntKind)(a b:Int):aq P .lss t c (.int k a) (.int k b)=D (.bool (decide (a<b))):=by simp[aq,hj]
def zj(t:TypeId)(c:Bool)(k:IntKind)(a b:Int):aq P .leq t c (.int k a) (.int k b)=D (.bool (decide (a<=b))):=by simp[aq,hj]
def zi(t:TypeId)(c:Bool)(k:IntKind)(a b:Int):aq P .gtr t c (.int k a) (.int k b)=D (.bool (decide (b<a))):=by simp[aq,hj]
def zh(t:TypeId)(c:Bool)(k:IntKind)(a b:Int):aq P .geq t c (.int k a) (.int k b)=D (.bool (decide (b<=a))):=by simp[aq,hj]
def zm(t:TypeId)(c:Bool)(a b:List UInt8):aq P .eql t c (.str a) (.str b)=D (.bool (a==b)):=rfl
def zn(t:TypeId)(c:Bool)(a b:List UInt8):aq P .neq t c (.str a) (.str b)=D (.bool (!(a==b))):=rfl
def jy(t:TypeId)(c:Bool)(a b:List UInt8)(h:a.length+b.length<=9223372036854775807):aq P .add t c (.str a) (.str b)=D (.str (a++b)):=by
 simp only[aq,qW,if_pos h]
def Dx{t:TypeId}{n:Nat}(j:cn P t=D n){l i c esz:Nat}{els:List (List aa)}{e:List aa}{v:aa}(h:H.get l=D (.row U esz els))(he:els[i]? =D e)(a:v.cells.length=n)(k:v.cells.all aa.one=X)(d:c+n<=esz):
  aV P H t (.ptr l i c) v=D (H.set l (.row U esz (els.set i (cI e c v.cells)))):=by
 simp only[aV,h,he];rw[if_pos ⟨by rw[j,a],by rw[a];exact d,k⟩]
def gH(k:IntKind)(n:Int):(aa.int k n).one=true:=rfl
def hq(x:List UInt8):(aa.str x).one=true:=rfl
def qn(x:Bool):(aa.bool x).one=true:=rfl
def ve(l i c:Nat):(aa.ptr l i c).one=true:=rfl
def vf(l i n e:Nat)(c:Option Nat):(aa.aA l i n e c).one=true:=rfl
def rZ:aa.ar.one=true:=rfl
def vd(f:Fn)(a c:List aa):(aa.func f a c).one=true:=rfl
def h2{v:aa}(h:v.one=X):v.cells=[v]:=by cases v<;>first|rfl|cases h
def hh(l:Nat)(cs:List aa)(h:cs.all aa.one=X):dS l (.agg cs)=D (.ptr l 0 0,.row U cs.length [cs]):=by
 simp only[dS,aa.cells,h,aY]
end
end Go.b9
namespace Go.Proofs.YtghmbpmaafnodaaDoor
open Go.b9
noncomputable def P:Program:=Tryd.prog
noncomputable abbrev bh(f:Func):dT:=kT P f.results.toList
noncomputable abbrev rm(f:Func)(G:ay)(N:Nat):dT:=bo P G N (bs f) (bh f) [] (bh f)
def bK{A B zC:dT}(h:∀ad H,A ad H=B ad H)(a:∀ad H,B ad H=zC ad H):∀ad H,A ad H=zC ad H:=λad H=>(h ad H).trans (a ad H)
def dN{A B:dT}{ad:cv}{H:ae}{t:O}(h:∀ad H,A ad H=B ad H)(a:B ad H=t):A ad H=t:=(h ad H).trans a
def E1(H:ae)(r:Option ae)(k:aa->ae->O):O:=aI H (r.bind λH'=>D (.tuple [],H')) k
 @[congr] theorem Nn {H a:ae} {h ba:Option ae} {z:Nat} {k:aa->ae->O} (d:H=a) (e:h=ba) (c:gw=z):E1 H h k=E1 a ba k:=by rw[d,e]
def ji:List (List aa):=Lib.pow10Tab.map λn=>[.int .u64 n]
def hA:Env:=λl=>match l with
 |0=>D ⟨0,0,1,20⟩
 |_=>Z
def lg:List (List aa)->Option (List (List UInt8))
 |[]=>D []
 |[.str s]::es=>(lg es).map (s:: ·)
 |_=>Z
open Classical in
noncomputable def az:ay:=λf args H=>match f,args with
 |42,[.int .i64 n]=>if-9223372036854775808<=n/\n<=9223372036854775807/\H.get 0=D (.row X 1 ji)then D (.str (Lib.itoa n),H)else Z
 |43,[.bool b]=>D (.str (Lib.formatBool b),H)
 |54,[.str s,.int .i64 n]=>if 0<=n/\n<=9223372036854775807/\s.length*n.toNat<=140737488355328 then D (.str (Lib.repeatL s n.toNat),H)else Z
 |59,[.ar,.str _]=>D (.str [],H)
 |59,[.aA l i n 1 _,.str sep]=>(match er H l i n 1 with
  |some es=>(match lg es with
   |some xs=>if xs.length<=140737488355328/\(Lib.join xs sep).length<=140737488355328 then D (.str (Lib.join xs sep),H)else Z
   |none=>Z)
  |none=>Z)
 |80,[.ptr l 0 0]=>(match H.get l with
  |some (.bU 81 2 [[.nilPtr,b]])=>if b.one=X then D (.tuple [],H.set l (.bU 81 2 [[.ptr l 0 0,b]]))else Z
  |some (.bU 81 2 [[.ptr l' 0 0,_]])=>if l'=l then D (.tuple [],H)else Z
  |_=>Z)
 |32,[.ptr l 0 0]=>(match H.get l with
  |some (.bU 81 2 [[_,.ar]])=>D (.str [],H)
  |some (.bU 81 2 [[_,.aA m j n 1 _]])=>(match H.get m with
   |some (.bU 5 1 es)=>(match bytesOf ((es.drop j).take n)with
    |some a=>if 0<n/\j+n<=es.length/\j=0/\n<=140737488355328/\(es.drop j).take n=a.map (λb=>[.int .u8 b.toNat])then D (.str a,H.set m .dead)else Z
    |none=>Z)
   |_=>Z)
  |_=>Z)
 |_,_=>Z
def Ki{f:Nat}{fn:Func}{N:Nat}{args:List aa}{H:ae}{r:aa×ae}(a:az f args H=Z)(e:P.funcs[f]? =D fn)(c:fn.body=D (bs fn))(d:iv fn.ntmps (bs fn)=X)(i:Nat.ble args.length fn.ntmps=X)(h:rm fn (aC P az) N (kI args) H=D r):aC P az f args H=D r:=GP a e c d i h
def cO{f:Nat}{fn:Func}(N:Nat){args:List aa}{H:ae}{r:aa×ae}{S:ay->O}(e:P.funcs[f]? =D fn)(he:∀G,rm fn G N (kI args) H=S G)(h:S (aC P az)=D r)(a:az f args H=none:=by first|kernel_rfl)(c:fn.body=D (bs fn):=by first|kernel_rfl)(d:iv fn.ntmps (bs fn)=true:=by first|kernel_rfl)(i:Nat.ble args.length fn.ntmps=true:=by first|kernel_rfl):aC P az f args H=D r:=Ki a e c d i ((he _).trans h)
end Go.Proofs.YtghmbpmaafnodaaDoor
namespace Go.b9
def bn.vt{α:Type}(x y:α):∀(p q:List jT) (t:bn α),p≠q->bn.dE x p (bn.dE y q t)=bn.dE y q (bn.dE x p t)
 |[],[],_,h=>absurd rfl h
 |[],d::q,.leaf,_=>by cases d<;>simp[bn.dE]
 |[],d::q,.node ..,_=>by cases d<;>simp[bn.dE]
 |d::p,[],.leaf,_=>by cases d<;>simp[bn.dE]
 |d::p,[],.node ..,_=>by cases d<;>simp[bn.dE]
 |d::p,e::q,.leaf,h=>by
  by_cases a:d=e
  ·subst a;have j:=bn.vt x y p q .leaf (λi=>h (by rw[i]));cases d<;>simp[bn.dE,j]
  ·cases d<;>cases e<;>first|exact absurd rfl a|simp[bn.dE]
 |d::p,e::q,.node v k l m n o s u w,h=>by
  by_cases a:d=e
  ·subst a;have j:=λc=>bn.vt x y p q c (λi=>h (by rw[i]))
   cases d<;>simp[bn.dE,j]
  ·cases d<;>cases e<;>first|exact absurd rfl a|simp[bn.dE]
def ae.hr{H:ae}{b c:bO}{l:Nat}(h:l<H.next):(H.push b).set l c=(H.set l c).push b:=by
 simp only[ae.push,ae.set,bn.put];rw[bn.vt _ _ _ _ _ (λe=>by have:=Cf e;omega)]
section
variable {E:Env}{P:Program}{az:ay}
def yj(e:mj P){G:ay}(n:iN E P G){N f:Nat}{args:List aa}{H H1:ae}{fn:Func}{c:Code}{ex:aL}{ad:a_}{l:List aa}
  (a:P.funcs[f]? =D fn) (h:fn.body=D c) (s:cy (e3 P G) N c (a_.enter fn.ntmps args) H=D (ex,ad,H1)) (z:∀id,ex≠ .exit id) (F:gR P ad H1 fn.results.toList=D l):ih E P f args H (lv l) H1:=by
 intro ρ w xs o u p M next A
 have q:=yk (N:=N) CI (CJ e.mixed n) c (e.Cj _ _ _ a h);have y:(fn.name== "runtime.NumGoroutine")=false:=e.names fn (Array.mem_of_getElem? a);have B:(callFunc f xs.toArray).run P w= .ok (.enter f xs.toArray) w:=by
  unfold callFunc;simp[a,h];intro v;simp[v]at y
 unfold lq;rw[B];simp only
 refine calls_of_wp a h (q _ _ _ _ _ s ρ w _ _ o u (yg p fn.ntmps) λL bZ K d j=> ?_);obtain⟨x,i,m⟩:=CM j.rel d F;have k:=A x K L m j;cases ex with
 |normal=>exact⟨d.none,x,i,k⟩
 |ret=>exact⟨d.none,x,i,k⟩
 |exit id=>exact absurd rfl (z id)
def GB(j:mj P){G:ay}(i:iN E P G){f:Nat}{args:List aa}{H:ae}{fn:Func}{c:Code}{M:Nat}{r:aa×ae}(m:P.funcs[f]? =D fn)(l:fn.body=D c)(n:iv fn.ntmps c=X)(o:Nat.ble args.length fn.ntmps=X)
  (h:bo P G M c (kT P fn.results.toList) [] (kT P fn.results.toList) (kI args) H=D r):ih E P f args H r.1 r.2:=by
 have aB:(a_.enter fn.ntmps args).size=fn.ntmps:=by have:=Nat.le_of_ble_eq_true o;simp only[a_.enter];omega
 rw[<-xh fn.ntmps,x9 c _ _ _ _ _ (by rw[aB];exact n)]at h;unfold n8 at h;have fin:∀(ad:a_) (H':ae),kT P fn.results.toList ad.get H'=D r->∃d,gR P ad H' fn.results.toList=D d/\r=(lv d,H'):=by
  intro ad H' a;unfold kT at a;rw[sb]at a;cases k:gR P ad H' fn.results.toList with
  |none=>rw[k]at a;cases a
  |some d=>rw[k]at a;exact⟨d,rfl,(Option.some.inj a).symm⟩
 split at h
 ·rename_i ad H' he;obtain⟨d,e,rfl⟩:=fin ad H' h;exact yj j i m l he (λid=>by intro a;cases a) e
 ·cases h
 ·rename_i ad H' he;obtain⟨d,e,rfl⟩:=fin ad H' h;exact yj j i m l he (λid=>by intro a;cases a) e
 ·cases h
def Rel.HP{ρ:Env}{H:ae}{w k:World}(h:Rel ρ H w)(m:∀b,b<w.heap.size->k.heap[b]? =w.heap[b]?):Rel ρ H k:=by
 have key:∀b x,w.heap[b]? =D x->k.heap[b]? =D x:=λb x e=>by
  rw[m b ?_];exact e;exact(Array.getElem?_eq_some_iff.1 e).1
 refine⟨λl ro esz els e=> ?_,λl es e=> ?_,λl t esz els e=> ?_,h.apart⟩
 ·obtain⟨loc,a,d,c,t,n,i,j⟩:=h.row l ro esz els e;exact⟨loc,a,d,c,t,n,key _ _ i,j⟩
 ·obtain⟨loc,a,ents,clock,i,j⟩:=h.map l es e;exact⟨loc,a,ents,clock,key _ _ i,j⟩
 ·obtain⟨loc,a,d⟩:=h.bU l t esz els e;exact⟨loc,a,d.frame ρ.le_refl (m _ d.1.lt)⟩
def ae.pR(l:Nat):ae.empty.get l=none:=by
 cases h:ae.empty.get l with
 |none=>rfl
 |some b=>exact absurd (ae.aS h) (Nat.not_lt_zero l)
def Ja(w:World):Rel (λ_=>Z) ae.empty w:=by
 refine⟨λl ro esz els e=> ?_,λl es e=> ?_,λl t esz els e=> ?_,λl l' loc a _ _ _ h=> ?_⟩
 ·rw[ae.pR]at e;cases e
 ·rw[ae.pR]at e;cases e
 ·rw[ae.pR]at e;cases e
 ·cases h
end
end Go.b9
namespace Go.Proofs.YtghmbpmaafnodaaDoor
open Go.b9
section
def It(a:List Func):Bool:=a.all λfn=> !(fn.name== "runtime.NumGoroutine")
def Gq(a:List Func):Bool:=a.all λfn=>match fn.body with
 |some c=>jH c
 |none=>X
def IZ{P:Program}(a:P.follows .mixedOrders=X)(d:It P.funcs.toList=X)(e:Gq P.funcs.toList=X):mj P:=by
 refine⟨a,λfn j=> ?_,λf fn c i h=> ?_⟩
 ·have:=List.all_eq_true.1 d fn (Array.mem_toList_iff.2 j);simpa using this
 ·have:=List.all_eq_true.1 e fn (Array.mem_toList_iff.2 (Array.mem_of_getElem? i));simpa [h]using this
set_option maxRecDepth 1000000
def r7:mj P:=IZ ah ah ah
end
def DJ:dJ P 3=D false:=ah
def Eh:cn P 3=D 1:=ah
def DL:dJ P 4=D false:=ah
def Ej:cn P 4=D 1:=ah
def yh{c:Bool}(a b:Bool):aq P .eql 4 c (.bool a) (.bool b)=D (.bool (a==b)):=ah
def BQ{c:Bool}(a b:Bool):aq P .neq 4 c (.bool a) (.bool b)=D (.bool (!(a==b))):=ah
def DQ:dJ P 5=D false:=ah
def nJ:cn P 5=D 1:=ah
def D0:dJ P 9=D false:=ah
def wm:cn P 9=D 1:=ah
def Bv{H:ae}{s:List UInt8}:b2 P H .len [9] [.str s]=D (.int .i64 s.length):=ah
def DC:dJ P 22=D false:=ah
def Eb:cn P 22=D 1:=ah
def Hu(l i n:Nat)(cap:Option Nat)(k:Int):cc P 22 (.aA l i n 3 cap) (.int .i64 k)=if 3=3/\0<=k/\k<n then D (.ptr l (i+k.toNat) 0)else none:=ah
def Az{l i n:Nat}{cap:Option Nat}{k:Int}(a:0<=k)(c:k<n):cc P 22 (.aA l i n 3 cap) (.int .i64 k)=D (.ptr l (i+k.toNat) 0):=by rw[Hu,if_pos ⟨rfl,a,c⟩]
def qd{H:ae}{l i n e:Nat}{cap:Option Nat}:b2 P H .len [22] [.aA l i n e cap]=D (.int .i64 n):=ah
def rO{H:ae}:b2 P H .len [22] [.ar]=D (.int .i64 0):=ah
def DD:dJ P 23=D false:=ah
def Ec:cn P 23=D 1:=ah
def Hv(l i n:Nat)(cap:Option Nat)(k:Int):cc P 23 (.aA l i n 4 cap) (.int .i64 k)=if 4=4/\0<=k/\k<n then D (.ptr l (i+k.toNat) 0)else none:=ah
def AA{l i n:Nat}{cap:Option Nat}{k:Int}(a:0<=k)(c:k<n):cc P 23 (.aA l i n 4 cap) (.int .i64 k)=D (.ptr l (i+k.toNat) 0):=by rw[Hv,if_pos ⟨rfl,a,c⟩]
def qe{H:ae}{l i n e:Nat}{cap:Option Nat}:b2 P H .len [23] [.aA l i n e cap]=D (.int .i64 n):=ah
def rP{H:ae}:b2 P H .len [23] [.ar]=D (.int .i64 0):=ah
def DF:dJ P 24=D false:=ah
def Ed:cn P 24=D 1:=ah
def Hw(l i n:Nat)(cap:Option Nat)(k:Int):cc P 24 (.aA l i n 7 cap) (.int .i64 k)=if 7=7/\0<=k/\k<n then D (.ptr l (i+k.toNat) 0)else none:=ah
def AD{l i n:Nat}{cap:Option Nat}{k:Int}(a:0<=k)(c:k<n):cc P 24 (.aA l i n 7 cap) (.int .i64 k)=D (.ptr l (i+k.toNat) 0):=by rw[Hw,if_pos ⟨rfl,a,c⟩]
def qf{H:ae}{l i n e:Nat}{cap:Option Nat}:b2 P H .len [24] [.aA l i n e cap]=D (.int .i64 n):=ah
def rQ{H:ae}:b2 P H .len [24] [.ar]=D (.int .i64 0):=ah
def DG:dJ P 26=D true:=ah
def Ee:cn P 26=D 3:=ah
def yC(l i c:Nat):aK P 26 (.ptr l i c) 0=D (.ptr l i (c+0)):=ah
def zE(a0 aR a2:aa):cA P 26 (.agg [a0,aR,a2]) 0=D a0:=ah
def yD(l i c:Nat):aK P 26 (.ptr l i c) 1=D (.ptr l i (c+1)):=ah
def zF(a0 aR a2:aa):cA P 26 (.agg [a0,aR,a2]) 1=D aR:=ah
def yE(l i c:Nat):aK P 26 (.ptr l i c) 2=D (.ptr l i (c+2)):=ah
def zG(a0 aR a2:aa):cA P 26 (.agg [a0,aR,a2]) 2=D a2:=ah
def DH:dJ P 27=D false:=ah
def Ef:cn P 27=D 1:=ah
def DI:dJ P 29=D true:=ah
def Eg:cn P 29=D 2:=ah
def yF(l i c:Nat):aK P 29 (.ptr l i c) 0=D (.ptr l i (c+0)):=ah
def zH(a0 aR:aa):cA P 29 (.agg [a0,aR]) 0=D a0:=ah
def yG(l i c:Nat):aK P 29 (.ptr l i c) 1=D (.ptr l i (c+1)):=ah
def zI(a0 aR:aa):cA P 29 (.agg [a0,aR]) 1=D aR:=ah
def DK:dJ P 36=D false:=ah
def Ei:cn P 36=D 1:=ah
def Hx(l i n:Nat)(cap:Option Nat)(k:Int):cc P 36 (.aA l i n 4 cap) (.int .i64 k)=if 4=4/\0<=k/\k<n then D (.ptr l (i+k.toNat) 0)else none:=ah
def uC{l i n:Nat}{cap:Option Nat}{k:Int}(a:0<=k)(c:k<n):cc P 36 (.aA l i n 4 cap) (.int .i64 k)=D (.ptr l (i+k.toNat) 0):=by rw[Hx,if_pos ⟨rfl,a,c⟩]
def rR{H:ae}{l i n e:Nat}{cap:Option Nat}:b2 P H .len [36] [.aA l i n e cap]=D (.int .i64 n):=ah
def u1{H:ae}:b2 P H .len [36] [.ar]=D (.int .i64 0):=ah
def DM:dJ P 40=D true:=ah
def Ek:cn P 40=D 2:=ah
def yH(l i c:Nat):aK P 40 (.ptr l i c) 0=D (.ptr l i (c+0)):=ah
def zJ(a0 aR:aa):cA P 40 (.agg [a0,aR]) 0=D a0:=ah
def yI(l i c:Nat):aK P 40 (.ptr l i c) 1=D (.ptr l i (c+1)):=ah
def zK(a0 aR:aa):cA P 40 (.agg [a0,aR]) 1=D aR:=ah
def DN:dJ P 41=D false:=ah
def El:cn P 41=D 1:=ah
def Hy(l i n:Nat)(cap:Option Nat)(k:Int):cc P 41 (.aA l i n 11 cap) (.int .i64 k)=if 11=11/\0<=k/\k<n then D (.ptr l (i+k.toNat) 0)else none:=ah
def AE{l i n:Nat}{cap:Option Nat}{k:Int}(a:0<=k)(c:k<n):cc P 41 (.aA l i n 11 cap) (.int .i64 k)=D (.ptr l (i+k.toNat) 0):=by rw[Hy,if_pos ⟨rfl,a,c⟩]
def lJ{H:ae}{l i n e:Nat}{cap:Option Nat}:b2 P H .len [41] [.aA l i n e cap]=D (.int .i64 n):=ah
def qg{H:ae}:b2 P H .len [41] [.ar]=D (.int .i64 0):=ah
def DO:dJ P 43=D true:=ah
def Em:cn P 43=D 3:=ah
def yJ(l i c:Nat):aK P 43 (.ptr l i c) 0=D (.ptr l i (c+0)):=ah
def zL(a0 aR a2:aa):cA P 43 (.agg [a0,aR,a2]) 0=D a0:=ah
def yK(l i c:Nat):aK P 43 (.ptr l i c) 1=D (.ptr l i (c+1)):=ah
def zM(a0 aR a2:aa):cA P 43 (.agg [a0,aR,a2]) 1=D aR:=ah
def yL(l i c:Nat):aK P 43 (.ptr l i c) 2=D (.ptr l i (c+2)):=ah
def zN(a0 aR a2:aa):cA P 43 (.agg [a0,aR,a2]) 2=D a2:=ah
def DP:dJ P 45=D true:=ah
def sU:cn P 45=D 11:=ah
def yM(l i c:Nat):aK P 45 (.ptr l i c) 0=D (.ptr l i (c+0)):=ah
def zO(a0 aR a2 a3 a4 a5 c d e a9 a:aa):cA P 45 (.agg [a0,aR,a2,a3,a4,a5,c,d,e,a9,a]) 0=D a0:=ah
def yN(l i c:Nat):aK P 45 (.ptr l i c) 1=D (.ptr l i (c+1)):=ah
def zP(a0 aR a2 a3 a4 a5 c d e a9 a:aa):cA P 45 (.agg [a0,aR,a2,a3,a4,a5,c,d,e,a9,a]) 1=D aR:=ah
def yO(l i c:Nat):aK P 45 (.ptr l i c) 2=D (.ptr l i (c+2)):=ah
def zQ(a0 aR a2 a3 a4 a5 c d e a9 a:aa):cA P 45 (.agg [a0,aR,a2,a3,a4,a5,c,d,e,a9,a]) 2=D a2:=ah
def yP(l i c:Nat):aK P 45 (.ptr l i c) 3=D (.ptr l i (c+3)):=ah
def zR(a0 aR a2 a3 a4 a5 c d e a9 a:aa):cA P 45 (.agg [a0,aR,a2,a3,a4,a5,c,d,e,a9,a]) 3=D (.agg [a3,a4]):=ah
def yQ(l i c:Nat):aK P 45 (.ptr l i c) 4=D (.ptr l i (c+5)):=ah
def zS(a0 aR a2 a3 a4 a5 c d e a9 a:aa):cA P 45 (.agg [a0,aR,a2,a3,a4,a5,c,d,e,a9,a]) 4=D a5:=ah
def yR(l i c:Nat):aK P 45 (.ptr l i c) 5=D (.ptr l i (c+6)):=ah
def zT(a0 aR a2 a3 a4 a5 a d e a9 c:aa):cA P 45 (.agg [a0,aR,a2,a3,a4,a5,a,d,e,a9,c]) 5=D a:=ah
def yS(l i c:Nat):aK P 45 (.ptr l i c) 6=D (.ptr l i (c+7)):=ah
def zU(a0 aR a2 a3 a4 a5 e a c a9 d:aa):cA P 45 (.agg [a0,aR,a2,a3,a4,a5,e,a,c,a9,d]) 6=D (.agg [a,c,a9]):=ah
def yT(l i c:Nat):aK P 45 (.ptr l i c) 7=D (.ptr l i (c+10)):=ah
def zV(a0 aR a2 a3 a4 a5 c d e a9 a:aa):cA P 45 (.agg [a0,aR,a2,a3,a4,a5,c,d,e,a9,a]) 7=D a:=ah
def qX:dJ P 50=D false:=ah
def En:cn P 50=D 1:=ah
def Hz(l i n:Nat)(cap:Option Nat)(k:Int):cc P 50 (.aA l i n 1 cap) (.int .i64 k)=if 1=1/\0<=k/\k<n then D (.ptr l (i+k.toNat) 0)else none:=ah
def uD{l i n:Nat}{cap:Option Nat}{k:Int}(a:0<=k)(c:k<n):cc P 50 (.aA l i n 1 cap) (.int .i64 k)=D (.ptr l (i+k.toNat) 0):=by rw[Hz,if_pos ⟨rfl,a,c⟩]
def Bp{H:ae}{l i n e:Nat}{cap:Option Nat}:b2 P H .len [50] [.aA l i n e cap]=D (.int .i64 n):=ah
def Bq{H:ae}:b2 P H .len [50] [.ar]=D (.int .i64 0):=ah
def qY:dJ P 51=D false:=ah
def Eo:cn P 51=D 1:=ah
def HA(l i n:Nat)(cap:Option Nat)(k:Int):cc P 51 (.aA l i n 1 cap) (.int .i64 k)=if 1=1/\0<=k/\k<n then D (.ptr l (i+k.toNat) 0)else none:=ah
def uE{l i n:Nat}{cap:Option Nat}{k:Int}(a:0<=k)(c:k<n):cc P 51 (.aA l i n 1 cap) (.int .i64 k)=D (.ptr l (i+k.toNat) 0):=by rw[HA,if_pos ⟨rfl,a,c⟩]
def Br{H:ae}{l i n e:Nat}{cap:Option Nat}:b2 P H .len [51] [.aA l i n e cap]=D (.int .i64 n):=ah
def Bs{H:ae}:b2 P H .len [51] [.ar]=D (.int .i64 0):=ah
def n9(l i c:Nat):aK P 59 (.ptr l i c) 0=D (.ptr l i (c+0)):=ah
def zW(a0 aR a2 a3 a4:aa):cA P 59 (.agg [a0,aR,a2,a3,a4]) 0=D a0:=ah
def n_(l i c:Nat):aK P 59 (.ptr l i c) 1=D (.ptr l i (c+1)):=ah
def zX(a0 aR a2 a3 a4:aa):cA P 59 (.agg [a0,aR,a2,a3,a4]) 1=D aR:=ah
def yU(l i c:Nat):aK P 59 (.ptr l i c) 2=D (.ptr l i (c+2)):=ah
def zY(a0 aR a2 a3 a4:aa):cA P 59 (.agg [a0,aR,a2,a3,a4]) 2=D a2:=ah
def yV(l i c:Nat):aK P 59 (.ptr l i c) 3=D (.ptr l i (c+3)):=ah
def zZ(a0 aR a2 a3 a4:aa):cA P 59 (.agg [a0,aR,a2,a3,a4]) 3=D (.agg [a3,a4]):=ah
def DR:dJ P 61=D true:=ah
def sV:cn P 61=D 4:=ah
def yW(l i c:Nat):aK P 61 (.ptr l i c) 0=D (.ptr l i (c+0)):=ah
def z1(a0 aR a2 a3:aa):cA P 61 (.agg [a0,aR,a2,a3]) 0=D a0:=ah
def yX(l i c:Nat):aK P 61 (.ptr l i c) 1=D (.ptr l i (c+1)):=ah
def z6(a0 aR a2 a3:aa):cA P 61 (.agg [a0,aR,a2,a3]) 1=D aR:=ah
def yY(l i c:Nat):aK P 61 (.ptr l i c) 2=D (.ptr l i (c+2)):=ah
def z7(a0 aR a2 a3:aa):cA P 61 (.agg [a0,aR,a2,a3]) 2=D a2:=ah
def yZ(l i c:Nat):aK P 61 (.ptr l i c) 3=D (.ptr l i (c+3)):=ah
def z8(a0 aR a2 a3:aa):cA P 61 (.agg [a0,aR,a2,a3]) 3=D a3:=ah
def DS:dJ P 65=D true:=ah
def wi:cn P 65=D 3:=ah
def y0(l i c:Nat):aK P 65 (.ptr l i c) 0=D (.ptr l i (c+0)):=ah
def z_(a0 aR a2:aa):cA P 65 (.agg [a0,aR,a2]) 0=D a0:=ah
def y1(l i c:Nat):aK P 65 (.ptr l i c) 1=D (.ptr l i (c+1)):=ah
def Aa(a0 aR a2:aa):cA P 65 (.agg [a0,aR,a2]) 1=D aR:=ah
def y2(l i c:Nat):aK P 65 (.ptr l i c) 2=D (.ptr l i (c+2)):=ah
def Ab(a0 aR a2:aa):cA P 65 (.agg [a0,aR,a2]) 2=D a2:=ah
def DT:dJ P 68=D true:=ah
def wj:cn P 68=D 4:=ah
def y3(l i c:Nat):aK P 68 (.ptr l i c) 0=D (.ptr l i (c+0)):=ah
def Ac(a0 aR a2 a3:aa):cA P 68 (.agg [a0,aR,a2,a3]) 0=D a0:=ah
def y4(l i c:Nat):aK P 68 (.ptr l i c) 1=D (.ptr l i (c+1)):=ah
def Ad(a0 aR a2 a3:aa):cA P 68 (.agg [a0,aR,a2,a3]) 1=D (.agg [aR,a2]):=ah
def y5(l i c:Nat):aK P 68 (.ptr l i c) 2=D (.ptr l i (c+3)):=ah
def Ae(a0 aR a2 a3:aa):cA P 68 (.agg [a0,aR,a2,a3]) 2=D a3:=ah
def vZ:dJ P 71=D false:=ah
def qZ:cn P 71=D 1:=ah
def HB(l i n:Nat)(cap:Option Nat)(k:Int):cc P 71 (.aA l i n 9 cap) (.int .i64 k)=if 9=9/\0<=k/\k<n then D (.ptr l (i+k.toNat) 0)else none:=ah
def AF{l i n:Nat}{cap:Option Nat}{k:Int}(a:0<=k)(c:k<n):cc P 71 (.aA l i n 9 cap) (.int .i64 k)=D (.ptr l (i+k.toNat) 0):=by rw[HB,if_pos ⟨rfl,a,c⟩]
def rS{H:ae}{l i n e:Nat}{cap:Option Nat}:b2 P H .len [71] [.aA l i n e cap]=D (.int .i64 n):=ah
def u2{H:ae}:b2 P H .len [71] [.ar]=D (.int .i64 0):=ah
def DU:dJ P 73=D true:=ah
def wk:cn P 73=D 7:=ah
def y6(l i c:Nat):aK P 73 (.ptr l i c) 0=D (.ptr l i (c+0)):=ah
def Af(a0 aR a2 a3 a4 a5 a:aa):cA P 73 (.agg [a0,aR,a2,a3,a4,a5,a]) 0=D a0:=ah
def y7(l i c:Nat):aK P 73 (.ptr l i c) 1=D (.ptr l i (c+1)):=ah
def Ag(a0 aR a2 a3 a4 a5 a:aa):cA P 73 (.agg [a0,aR,a2,a3,a4,a5,a]) 1=D aR:=ah
def y8(l i c:Nat):aK P 73 (.ptr l i c) 2=D (.ptr l i (c+2)):=ah
def Ah(a0 aR a2 a3 a4 a5 a:aa):cA P 73 (.agg [a0,aR,a2,a3,a4,a5,a]) 2=D a2:=ah
def y9(l i c:Nat):aK P 73 (.ptr l i c) 3=D (.ptr l i (c+3)):=ah
def Ai(a0 aR a2 a3 a4 a5 a:aa):cA P 73 (.agg [a0,aR,a2,a3,a4,a5,a]) 3=D (.agg [a3,a4]):=ah
def y_(l i c:Nat):aK P 73 (.ptr l i c) 4=D (.ptr l i (c+5)):=ah
def Aj(a0 aR a2 a3 a4 a5 a:aa):cA P 73 (.agg [a0,aR,a2,a3,a4,a5,a]) 4=D a5:=ah
def za(l i c:Nat):aK P 73 (.ptr l i c) 5=D (.ptr l i (c+6)):=ah
def Ak(a0 aR a2 a3 a4 a5 a:aa):cA P 73 (.agg [a0,aR,a2,a3,a4,a5,a]) 5=D a:=ah
def DV:dJ P 75=D false:=ah
def Ep:cn P 75=D 1:=ah
def DW:dJ P 76=D false:=ah
def Er:cn P 76=D 1:=ah
def DX:dJ P 77=D false:=ah
def Es:cn P 77=D 1:=ah
def HC(l i n:Nat)(cap:Option Nat)(k:Int):cc P 77 (.aA l i n 1 cap) (.int .i64 k)=if 1=1/\0<=k/\k<n then D (.ptr l (i+k.toNat) 0)else none:=ah
def AG{l i n:Nat}{cap:Option Nat}{k:Int}(a:0<=k)(c:k<n):cc P 77 (.aA l i n 1 cap) (.int .i64 k)=D (.ptr l (i+k.toNat) 0):=by rw[HC,if_pos ⟨rfl,a,c⟩]
def Bt{H:ae}{l i n e:Nat}{cap:Option Nat}:b2 P H .len [77] [.aA l i n e cap]=D (.int .i64 n):=ah
def Bu{H:ae}:b2 P H .len [77] [.ar]=D (.int .i64 0):=ah
def DY:dJ P 79=D true:=ah
def Et:cn P 79=D 2:=ah
def zb(l i c:Nat):aK P 79 (.ptr l i c) 0=D (.ptr l i (c+0)):=ah
def Al(a0 aR:aa):cA P 79 (.agg [a0,aR]) 0=D a0:=ah
def zc(l i c:Nat):aK P 79 (.ptr l i c) 1=D (.ptr l i (c+1)):=ah
def Am(a0 aR:aa):cA P 79 (.agg [a0,aR]) 1=D aR:=ah
def DZ:dJ P 81=D true:=ah
def Eu:cn P 81=D 2:=ah
def zd(l i c:Nat):aK P 81 (.ptr l i c) 0=D (.ptr l i (c+0)):=ah
def An(a0 aR:aa):cA P 81 (.agg [a0,aR]) 0=D (.agg [a0,aR]):=ah
def vY:dJ P 112=D true:=ah
def pb:cn P 112=D 9:=ah
def yt(l i c:Nat):aK P 112 (.ptr l i c) 0=D (.ptr l i (c+0)):=ah
def zt(a0 aR a2 a3 a4 a5 a c d:aa):cA P 112 (.agg [a0,aR,a2,a3,a4,a5,a,c,d]) 0=D a0:=ah
def yu(l i c:Nat):aK P 112 (.ptr l i c) 1=D (.ptr l i (c+1)):=ah
def zu(a0 aR a2 a3 a4 a5 a c d:aa):cA P 112 (.agg [a0,aR,a2,a3,a4,a5,a,c,d]) 1=D aR:=ah
def yv(l i c:Nat):aK P 112 (.ptr l i c) 2=D (.ptr l i (c+2)):=ah
def zv(a0 aR a2 a3 a4 a5 a c d:aa):cA P 112 (.agg [a0,aR,a2,a3,a4,a5,a,c,d]) 2=D (.agg [a2,a3]):=ah
def yw(l i c:Nat):aK P 112 (.ptr l i c) 3=D (.ptr l i (c+4)):=ah
def zw(a0 aR a2 a3 a4 a5 a c d:aa):cA P 112 (.agg [a0,aR,a2,a3,a4,a5,a,c,d]) 3=D a4:=ah
def yx(l i c:Nat):aK P 112 (.ptr l i c) 4=D (.ptr l i (c+5)):=ah
def zx(a0 aR a2 a3 a4 a5 a c d:aa):cA P 112 (.agg [a0,aR,a2,a3,a4,a5,a,c,d]) 4=D a5:=ah
def yy(l i c:Nat):aK P 112 (.ptr l i c) 5=D (.ptr l i (c+6)):=ah
def zy(a0 aR a2 a3 a4 a5 a c d:aa):cA P 112 (.agg [a0,aR,a2,a3,a4,a5,a,c,d]) 5=D a:=ah
def yA(l i c:Nat):aK P 112 (.ptr l i c) 6=D (.ptr l i (c+7)):=ah
def zz(a0 aR a2 a3 a4 a5 c a d:aa):cA P 112 (.agg [a0,aR,a2,a3,a4,a5,c,a,d]) 6=D a:=ah
def yB(l i c:Nat):aK P 112 (.ptr l i c) 7=D (.ptr l i (c+8)):=ah
def zB(a0 aR a2 a3 a4 a5 c d a:aa):cA P 112 (.agg [a0,aR,a2,a3,a4,a5,c,d,a]) 7=D a:=ah
def DA:dJ P 131=D false:=ah
def D_:cn P 131=D 1:=ah
def Hs(l i n:Nat)(cap:Option Nat)(k:Int):cc P 131 (.aA l i n 1 cap) (.int .i64 k)=if 1=1/\0<=k/\k<n then D (.ptr l (i+k.toNat) 0)else none:=ah
def uA{l i n:Nat}{cap:Option Nat}{k:Int}(a:0<=k)(c:k<n):cc P 131 (.aA l i n 1 cap) (.int .i64 k)=D (.ptr l (i+k.toNat) 0):=by rw[Hs,if_pos ⟨rfl,a,c⟩]
def Bl{H:ae}{l i n e:Nat}{cap:Option Nat}:b2 P H .len [131] [.aA l i n e cap]=D (.int .i64 n):=ah
def Bm{H:ae}:b2 P H .len [131] [.ar]=D (.int .i64 0):=ah
def DB:dJ P 132=D false:=ah
def Ea:cn P 132=D 1:=ah
def Ht(l i n:Nat)(cap:Option Nat)(k:Int):cc P 132 (.aA l i n 1 cap) (.int .i64 k)=if 1=1/\0<=k/\k<n then D (.ptr l (i+k.toNat) 0)else none:=ah
def uB{l i n:Nat}{cap:Option Nat}{k:Int}(a:0<=k)(c:k<n):cc P 132 (.aA l i n 1 cap) (.int .i64 k)=D (.ptr l (i+k.toNat) 0):=by rw[Ht,if_pos ⟨rfl,a,c⟩]
def Bn{H:ae}{l i n e:Nat}{cap:Option Nat}:b2 P H .len [132] [.aA l i n e cap]=D (.int .i64 n):=ah
def Bo{H:ae}:b2 P H .len [132] [.ar]=D (.int .i64 0):=ah
def xM:cj P 59 [(0,aa.ar)]=D (.agg [aa.ar,.int .i64 0,.int .i64 0,.int .i64 0,.int .i64 0]):=ah
def xN(e:Nat)(d:Nat)(h:Nat)(c:Nat)(a:Option Nat):cj P 59 [(0,(.aA e d h c a))]=D (.agg [.aA e d h c a,.int .i64 0,.int .i64 0,.int .i64 0,.int .i64 0]):=ah
def xv(a0:List UInt8)(aR:Int):cj P 40 [(0,(.str a0)),(1,(.int .i64 aR))]=D (.agg [.str a0,.int .i64 aR]):=ah
def xr(a0:Int):cj P 29 [(0,(.int .i64 a0))]=D (.agg [.int .i64 a0,.int .i64 0]):=ah
def xt(a0:Int)(aR:Int):cj P 29 [(0,(.int .i64 a0)),(1,(.int .i64 aR))]=D (.agg [.int .i64 a0,.int .i64 aR]):=ah
def xR(a0:Int)(a3:Int):cj P 61 [(0,(.int .i64 a0)),(3,(.int .i64 a3))]=D (.agg [.int .i64 a0,.str [],.int .i64 0,.int .i64 a3]):=ah
def xI(aR:Int)(a2:Int):cj P 59 [(0,aa.ar),(1,(.int .i64 aR)),(2,(.int .i64 a2))]=D (.agg [aa.ar,.int .i64 aR,.int .i64 a2,.int .i64 0,.int .i64 0]):=ah
def xJ(e:Nat)(d:Nat)(h:Nat)(c:Nat)(a:Option Nat)(aR:Int)(a2:Int):cj P 59 [(0,(.aA e d h c a)),(1,(.int .i64 aR)),(2,(.int .i64 a2))]=D (.agg [.aA e d h c a,.int .i64 aR,.int .i64 a2,.int .i64 0,.int .i64 0]):=ah
def xK(aR:Int):cj P 59 [(0,aa.ar),(1,(.int .i64 aR))]=D (.agg [aa.ar,.int .i64 aR,.int .i64 0,.int .i64 0,.int .i64 0]):=ah
def xL(e:Nat)(d:Nat)(h:Nat)(c:Nat)(a:Option Nat)(aR:Int):cj P 59 [(0,(.aA e d h c a)),(1,(.int .i64 aR))]=D (.agg [.aA e d h c a,.int .i64 aR,.int .i64 0,.int .i64 0,.int .i64 0]):=ah
def xO(a0:Int):cj P 61 [(0,(.int .i64 a0))]=D (.agg [.int .i64 a0,.str [],.int .i64 0,.int .i64 0]):=ah
def xS(a2:Int):cj P 65 [(2,(.int .i64 a2))]=D (.agg [.str [],aa.ar,.int .i64 a2]):=ah
def xT(a2:Int):cj P 68 [(2,(.int .i64 a2))]=D (.agg [.str [],.str [],.int .i64 0,.int .i64 a2]):=ah
def xU(a5:Int):cj P 73 [(5,(.int .i64 a5))]=D (.agg [.str [],aa.ar,.bool U,.str [],.int .i64 0,aa.ar,.int .i64 a5]):=ah
def xP(a0:Int)(aR:List UInt8)(a3:Int):cj P 61 [(0,(.int .i64 a0)),(1,(.str aR)),(3,(.int .i64 a3))]=D (.agg [.int .i64 a0,.str aR,.int .i64 0,.int .i64 a3]):=ah
def xQ(a0:Int)(a2:Int)(a3:Int):cj P 61 [(0,(.int .i64 a0)),(2,(.int .i64 a2)),(3,(.int .i64 a3))]=D (.agg [.int .i64 a0,.str [],.int .i64 a2,.int .i64 a3]):=ah
def xF(a0:Int)(a5:Int):cj P 45 [(0,(.int .i64 a0)),(4,aa.ar),(5,(.int .i64 a5))]=D (.agg [.int .i64 a0,.int .i64 0,.str [],.str [],.int .i64 0,aa.ar,.int .i64 a5,.int .i64 0,.int .i64 0,.int .i64 0,.int .i64 0]):=ah
def xG(a0:Int)(e:Nat)(d:Nat)(h:Nat)(c:Nat)(a:Option Nat)(a5:Int):cj P 45 [(0,(.int .i64 a0)),(4,(.aA e d h c a)),(5,(.int .i64 a5))]=D (.agg [.int .i64 a0,.int .i64 0,.str [],.str [],.int .i64 0,.aA e d h c a,.int .i64 a5,.int .i64 0,.int .i64 0,.int .i64 0,.int .i64 0]):=ah
def xw(aR:Int):cj P 40 [(1,(.int .i64 aR))]=D (.agg [.str [],.int .i64 aR]):=ah
def xq(a:Int):cj P 112 [(6,(.int .i64 a))]=D (.agg [.int .i64 0,.str [],.str [],.int .i64 0,aa.ar,aa.ar,aa.ar,.int .i64 a,.int .i64 0]):=ah
def xz(a0:Int)(a2:List UInt8)(a5:Int):cj P 45 [(0,(.int .i64 a0)),(2,(.str a2)),(4,aa.ar),(5,(.int .i64 a5))]=D (.agg [.int .i64 a0,.int .i64 0,.str a2,.str [],.int .i64 0,aa.ar,.int .i64 a5,.int .i64 0,.int .i64 0,.int .i64 0,.int .i64 0]):=ah
def xA(a0:Int)(a2:List UInt8)(e:Nat)(d:Nat)(h:Nat)(c:Nat)(a:Option Nat)(a5:Int):cj P 45 [(0,(.int .i64 a0)),(2,(.str a2)),(4,(.aA e d h c a)),(5,(.int .i64 a5))]=D (.agg [.int .i64 a0,.int .i64 0,.str a2,.str [],.int .i64 0,.aA e d h c a,.int .i64 a5,.int .i64 0,.int .i64 0,.int .i64 0,.int .i64 0]):=ah
def xx(a0:Int)(aR:Int)(a5:Int):cj P 45 [(0,(.int .i64 a0)),(1,(.int .i64 aR)),(5,(.int .i64 a5))]=D (.agg [.int .i64 a0,.int .i64 aR,.str [],.str [],.int .i64 0,aa.ar,.int .i64 a5,.int .i64 0,.int .i64 0,.int .i64 0,.int .i64 0]):=ah
def xE(a0:Int)(a:List UInt8)(c:Int)(a5:Int):cj P 45 [(0,(.int .i64 a0)),(3,(.agg [.str a,.int .i64 c])),(5,(.int .i64 a5))]=D (.agg [.int .i64 a0,.int .i64 0,.str [],.str a,.int .i64 c,aa.ar,.int .i64 a5,.int .i64 0,.int .i64 0,.int .i64 0,.int .i64 0]):=ah
def xH(a0:Int)(a5:Int):cj P 45 [(0,(.int .i64 a0)),(5,(.int .i64 a5))]=D (.agg [.int .i64 a0,.int .i64 0,.str [],.str [],.int .i64 0,aa.ar,.int .i64 a5,.int .i64 0,.int .i64 0,.int .i64 0,.int .i64 0]):=ah
def xB(a0:Int)(a2:List UInt8)(a5:Int):cj P 45 [(0,(.int .i64 a0)),(2,(.str a2)),(5,(.int .i64 a5))]=D (.agg [.int .i64 a0,.int .i64 0,.str a2,.str [],.int .i64 0,aa.ar,.int .i64 a5,.int .i64 0,.int .i64 0,.int .i64 0,.int .i64 0]):=ah
def xu(a0:List UInt8):cj P 40 [(0,(.str a0))]=D (.agg [.str a0,.int .i64 0]):=ah
def xC(a0:Int)(a:List UInt8)(c:Int)(a5:Int):cj P 45 [(0,(.int .i64 a0)),(3,(.agg [.str a,.int .i64 c])),(4,aa.ar),(5,(.int .i64 a5))]=D (.agg [.int .i64 a0,.int .i64 0,.str [],.str a,.int .i64 c,aa.ar,.int .i64 a5,.int .i64 0,.int .i64 0,.int .i64 0,.int .i64 0]):=ah
def xD(a0:Int)(a:List UInt8)(c:Int)(i:Nat)(h:Nat)(j:Nat)(e:Nat)(d:Option Nat)(a5:Int):cj P 45 [(0,(.int .i64 a0)),(3,(.agg [.str a,.int .i64 c])),(4,(.aA i h j e d)),(5,(.int .i64 a5))]=D (.agg [.int .i64 a0,.int .i64 0,.str [],.str a,.int .i64 c,.aA i h j e d,.int .i64 a5,.int .i64 0,.int .i64 0,.int .i64 0,.int .i64 0]):=ah
end Go.Proofs.YtghmbpmaafnodaaDoor
namespace Go.b9
open Go.ChangeShapes Go.WideShapes Go.ChangeAt Go.RowKit
def wT(E:Env)(P:Program)(f:Nat)(args:List Value)(W:World):Prop:=∃(ρ:Env) (H:ae) (a:List aa) (H':ae),Rel ρ H W/\(∀l,¬H.rw l)/\(∀l,H.next<=l->ρ l=Z)/\E.le ρ/\H.next<=H'.next/\bq ρ a args/\ih E P f a H (.bool X) H'
def HV{E:Env}{P:Program}{f:Nat}{fn:Func}{c:Code}{args:List Value}{W:World}(w:mj P)(m:P.funcs[f]? =D fn)(y:fn.body=D c)(h:wT E P f args W):
  Calls P f args.toArray W λe a=>e= .returned (.bool X)/\Below W.heap.size W a:=by
 obtain⟨ρ,H,L,H',n,o,p,v,q,s,u⟩:=h;have F:∀b,¬hY ρ H b:=by rintro b ⟨l,loc,j,_⟩;exact o l j
 have i:=u ρ W args n ⟨λl j _=>p l j,v⟩ s q (λx a=>x= .bool X/\Below W.heap.size W a) (λx a M K aB=>by
  cases K;exact⟨rfl,aB.os,aB.tape,aB.output,aB.size,λk A=>aB.frame k A (F k)⟩)
 have B:(fn.name== "runtime.NumGoroutine")=false:=w.names fn (Array.mem_of_getElem? m);have G:(callFunc f args.toArray).run P W= .ok (.enter f args.toArray) W:=by
  unfold callFunc;simp[m,y];intro z;simp[z]at B
 unfold lq at i;rw[G]at i;simp only at i;refine i.mono λe a d=> ?_
 split at d
 ·exact⟨by rw[d.1],d.2⟩
 ·exact d.elim
def D8{H:Type}{enc:TypeId×Value->H}{P:Program}{W j:World}(n:laidOutB P=X)(l:Below W.heap.size W j):∀{ts:List TypeId} {c:List Value} {a:List (DataW H)} {i:List MemPlace},(∀t∈ts,P.readableRec t=X/\t<P.types.size)->
  DataW.TrodAll enc P W 0 (λ_=>X) X ts c a i->∃o,DataW.TrodAll enc P j 0 (λb=>decide (b<W.heap.size)) X ts c a o
 |[],c,a,i,_,h=>by
  obtain⟨rfl,rfl,rfl⟩:=trodAll_nil h;exact⟨[],trodAll_mk0⟩
 |t::ts,c,a,i,e,h=>by
  obtain⟨v,A,d,z,p,q,rfl,rfl,rfl,k,s⟩:=trodAll_cons h;obtain⟨o,u⟩:=D8 n l (λt y=>e t (List.mem_cons_of_mem _ y)) s;have w:∀x∈p,x.block<W.heap.size:=by obtain⟨m,hm⟩:=k;exact DataW.trod_lt m _ _ _ hm
  exact⟨_,trodAll_cons_mk (Below.trod n (e t (List.mem_cons_self ..)).1 (e t (List.mem_cons_self ..)).2 k l w) u⟩
structure Seen(ρ:Env)(H:ae)(W:World):Prop where
 rel:Rel ρ H W
 ro:∀l,¬H.rw l
 top:∀l,H.next<=l->ρ l=none
def Seen.empty(W:World):Seen (λ_=>Z) ae.empty W:=
 have c:∀l,¬ae.empty.rw l:=λl a=>by
  rcases a with⟨e,s,h⟩|⟨es,h⟩|⟨t,e,s,h⟩<;>rw[ae.pR]at h<;>cases h
 ⟨Ja W,c,λ_ _=>rfl⟩
def Seen.p6{ρ:Env}{H:ae}{W:World}(h:Seen ρ H W)(loc:Go.b9.Loc):ρ.le (ρ.ec H.next loc):=λl a e=>by
 have:l≠H.next:=by rintro rfl;rw[h.top _ (bk _)]at e;cases e
 simp only[Env.ec,if_neg this];exact e
def fc.mono{ρ d:Env}(hle:ρ.le d){w:World}{loc:Go.b9.Loc}{ro:Bool}{esz:Nat}{els:List (List aa)}(h:fc ρ w loc ro esz els):fc d w loc ro esz els:=by
 obtain⟨l,c,t,k,m,n,a⟩:=h;refine⟨l,c,t,k,m,n,λi e he=>⟨(a i e he).1,λj v o=> ?_⟩⟩;obtain⟨aZ,x,p,q⟩:=(a i e he).2 j v o;exact⟨aZ,x,p,q.mono hle⟩
def Seen.push{ρ:Env}{H:ae}{W:World}(h:Seen ρ H W){loc:Go.b9.Loc}{esz:Nat}{els:List (List aa)}(k:fc ρ W loc X esz els):Seen (ρ.ec H.next loc) (H.push (.row X esz els)) W:=by
 have hle:=h.p6 loc;have d:∀l,¬(H.push (.row X esz els)).rw l:=by
  rintro l (⟨e,s,a⟩|⟨es,a⟩|⟨t,e,s,a⟩)
  ·rw[ae.p0]at a;split at a
   ·cases a
   ·exact h.ro l (.inl ⟨e,s,a⟩)
  ·rw[ae.p0]at a;split at a
   ·cases a
   ·exact h.ro l (.inr (.inl ⟨es,a⟩))
  ·rw[ae.p0]at a;split at a
   ·cases a
   ·exact h.ro l (.inr (.inr ⟨t,e,s,a⟩))
 refine⟨⟨λl ro e s a=> ?_,λl es a=> ?_,λl t e s a=>absurd (.inr (.inr ⟨t,e,s,a⟩)) (d l),λl l' _ _ c=>absurd c (d l)⟩,d,λl c=> ?_⟩
 ·rw[ae.p0]at a;split at a
  ·rename_i c;cases a;exact⟨loc,by simp[Env.ec,c],k.mono hle⟩
  ·obtain⟨m,i,j⟩:=h.rel.row l ro e s a;exact⟨m,hle _ _ i,j.mono hle⟩
 ·exact absurd (.inr (.inl ⟨es,a⟩)) (d l)
 ·simp only[ae.bT]at c;have:l≠H.next:=af
  simp only[Env.ec,if_neg this];exact h.top l af
