/-
  Texts of one proof, laid together: Hv24 Base Hv25 Pk Tab Hv26.
-/
import Derived.Test.YtghmbpmaafnodaaDoorMD
import Derived.Test.YtghmbpmaafnodaaDoorProg
import Derived.KernelRfl
import Derived.Lib.ItoaNum
import Derived.Lib.Join
import Derived.Lib.Repeat
import Derived.Lib.Small
import Derived.ProofKit
import Derived.OpenShut
import Derived.ShutString
import Derived.ChangeOld
import Derived.Below
import Derived.Carry
set_option linter.unusedVariables false
set_option linter.unusedSimpArgs false
set_option linter.defProp false
open Option renaming some→D,none→Z
open Bool renaming true→X,false→U
namespace Go.b9
def W(m:O)(Q:aa->ad->Prop):Prop:=∃v H,m=D (v,H)/\Q v H
def bb{v:aa}{H:ad}{Q:aa->ad->Prop}:W (D (v,H)) Q↔Q v H:=by
 constructor
 ·rintro⟨a,H',h,q⟩;simp only[aU,bY]at h;obtain⟨rfl,rfl⟩:=h;exact q
 ·exactλq=>⟨v,H,rfl,q⟩
def W.mono{m:O}{Q a:aa->ad->Prop}(h:W m Q)(c:∀v H,Q v H->a v H):W m a:=by
 obtain⟨v,H,e,q⟩:=h;exact⟨v,H,e,c v H q⟩
def aN{r:O}{H:ad}{k:aa->ad->O}{Q a:aa->ad->Prop}(h:W r a)(i:∀v H',a v H'->H.next<=H'.next/\W (k v H') Q):W (aH H r k) Q:=by
 obtain⟨v,H',e,q⟩:=h;obtain⟨c,d⟩:=i v H' q;rw[e];simp only[aH,decide_eq_true c,aZ];exact d
def iP{r:O}{H:ad}{q:K->O}{Q a:aa->ad->Prop}(h:W r a)(i:∀v H',a v H'->H.next<=H'.next/\W (q (.dL v H')) Q):W (eL H r q) Q:=by
 obtain⟨v,H',e,j⟩:=h;obtain⟨c,d⟩:=i v H' j;rw[e];simp only[eL,decide_eq_true c,aZ];exact d
def ln{r:O}{H:ad}{x:aa}{k:aa->ad->O}{Q:aa->ad->Prop}(h:W r λv H'=>v=x/\H'=H)(a:W (k x H) Q):W (aH H r k) Q:=by
 refine aN h ?_;rintro _ H' ⟨rfl,e⟩;rw[e];exact⟨bj _,a⟩
def nV{r:O}{H:ad}{x:aa}{q:K->O}{Q:aa->ad->Prop}(h:W r λv H'=>v=x/\H'=H)(a:W (q (.dL x H)) Q):W (eL H r q) Q:=by
 refine iP h ?_;rintro _ H' ⟨rfl,e⟩;rw[e];exact⟨bj _,a⟩
def cz{m m':O}{Q:aa->ad->Prop}(a:∀r,m=D r->m'=D r)(h:W m Q):W m' Q:=by
 obtain⟨v,H,e,q⟩:=h;exact⟨v,H,a _ e,q⟩
def gy:Nat:=0
def M3:Nat:=0
def E3:gy=M3:=rfl
def pn(v:aa)(H:ad)(k:aa->ad->O):O:=k v H
section
variable {r cU:Option aa}{ai ox:O}{m m':Option (aa×bO)}{h ba:Option ad}{H H':ad}{a b0:aa}{b cw:Bool}{z:Nat}
 @[congr] theorem Nj {k:aa->ad->O} (e:a=b0) (d:H=H') (y:gy=z):pn a H k=pn b0 H' k:=by rw[e,d]
def EM(H:ad)(cs:List aa)(k:aa->ad->O):cf H cs k=pn (.ptr H.next 0 0) (H.push (.row U cs.length [cs])) k:=rfl
def EZ(v:aa)(H:ad)(k:aa->ad->O):pn v H k=k v H:=rfl
 @[congr] theorem Nb {k:aa->O} (e:r=cU) (y:gy=z):j r k=j cU k:=by rw[e]
 @[congr] theorem Nd {k:aa->ad->O} (d:H=H') (e:ai=ox) (y:gy=z):aH H ai k=aH H' ox k:=by rw[d,e]
 @[congr] theorem Nf {k:K->O} (d:H=H') (e:ai=ox) (y:gy=z):eL H ai k=eL H' ox k:=by rw[d,e]
 @[congr] theorem No {k:ad->O} (d:H=H') (e:h=ba) (y:gy=z):a7 H h k=a7 H' ba k:=by rw[d,e]
 @[congr] theorem Nk {k:aa->ad->O} (d:H=H') (e:m=m') (y:gy=z):bS H m k=bS H' m' k:=by rw[d,e]
 @[congr] theorem Nl {k:K->O} (e:m=m') (y:gy=z):s7 m k=s7 m' k:=by rw[e]
 @[congr] theorem Ni {p q:O} (e:r=cU) (y:gy=z):aW r p q=aW cU p q:=by rw[e]
 @[congr] theorem M4 {p q:O} (e:b=cw) (y:gy=z):cond b p q=cond cw p q:=by rw[e]
 @[congr] theorem Ng {w:Bool} {f:(K->O)->O} {k:aa->ad->O} (e:a=b0) (y:gy=z):aQ a w H f k=aQ b0 w H f k:=by rw[e]
 @[congr] theorem Nh {w:Bool} {f:(K->O)->O} {k:K->O} (e:a=b0) (y:gy=z):eZ a w f k=eZ b0 w f k:=by rw[e]
 @[congr] theorem Nc {s s':Option aa} {k:K->O} (e:r=cU) (d:s=s') (y:gy=z):gj r s k=gj cU s' k:=by rw[d,e]
 @[congr] theorem M7 {q:K->O} (e:r=cU) (y:gy=z):bz r q=bz cU q:=by rw[e]
 @[congr] theorem M8 {q:K->O} (e:r=cU) (y:gy=z):qr r q=qr cU q:=by rw[e]
 @[congr] theorem M9 {q:K->O} (e:a=b0) (y:gy=z):ca a q=ca b0 q:=by rw[e]
def Cn(v:aa)(q:K->O):bz (D v) q=q (.pure v):=rfl
def Co(v:aa)(q:K->O):qr (D v) q=q (.read v):=rfl
def Cs(v:aa)(q:K->O):ca v q=q (.pure v):=rfl
end
def Cw(k:IntKind)(n:Int):bh (D (.int k n)) (.int k n)=true:=by simp[bh,aa.beq]
def vy(x:List UInt8):bh (D (.str x)) (.str x)=true:=by simp[bh,aa.beq]
def Cv(x:Bool):bh (D (.bool x)) (.bool x)=true:=by simp[bh,aa.beq]
def kP(l i n e:Nat)(c:Option Nat):bh (D (.aA l i n e c)) (.aA l i n e c)=true:=by simp[bh,aa.beq]
def vx:bh (D .ar) .ar=true:=rfl
def Cx(x:List UInt8)(k:IntKind)(n:Int):bh (D (.agg [.str x,.int k n])) (.agg [.str x,.int k n])=true:=by simp[bh,aa.beq,fY.beq]
def ad.pY(H:ad)(b:bO)(l:Nat):(H.push b).get l=if l=H.next then D b else H.get l:=by
 split
 ·rename_i h;subst h;exact ad.bC H b
 ·rename_i h;exact ad.dp h
def bm.sa{α:Type}(x y:α):∀(p:List jR) (t:bm α),bm.dE y p (bm.dE x p t)=bm.dE y p t
 |[],.leaf=>rfl
 |[],.node .. =>rfl
 |d::p,.leaf=>by cases d<;>simp[bm.dE,bm.sa x y p]
 |d::p,.node .. =>by cases d<;>simp[bm.dE,bm.sa x y p]
def ad.IX(H:ad)(b c:bO):(H.push b).set H.next c=H.push c:=by
 simp only[ad.push,ad.set,bm.put,bm.sa]
def ad.set_set(H:ad)(l:Nat)(b c:bO):(H.set l b).set l c=H.set l c:=by
 simp only[ad.set,bm.put,bm.sa]
def ad.rE{H:ad}{b:bO}{l:Nat}(h:l<=H.next)(ba:H.next<=l):(H.push b).get l=D b:=by
 obtain rfl:l=H.next:=af
 exact ad.bC H b
def ad.Cj{H:ad}{b c:bO}{l:Nat}(h:l<=H.next)(ba:H.next<=l):(H.push b).set l c=H.push c:=by
 obtain rfl:l=H.next:=af
 exact ad.IX H b c
def cP(S:Nat->Prop)(H H':ad):Prop:=H.next<=H'.next/\∀l,l<H.next->¬S l->H'.get l=H.get l
def aO(H H':ad):Prop:=H.next<=H'.next/\∀l,l<H.next->H'.get l=H.get l
def aO.refl(H:ad):aO H H:=⟨bj _,λ_ _=>rfl⟩
def aO.trans{H H1 a:ad}(h:aO H H1)(k:aO H1 a):aO H a:=⟨Nat.le_trans h.1 k.1,λl c=>(k.2 l (Nat.lt_of_lt_of_le c h.1)).trans (h.2 l c)⟩
def aO.push(H:ad)(b:bO):aO H (H.push b):=⟨by simp,λl a=>ad.dp af⟩
def aO.bt{H H1:ad}(h:aO H H1)(b:bO):aO H (H1.push b):=h.trans (aO.push H1 b)
def aO.cv{H H1:ad}(h:aO H H1){l:Nat}(c:H.next<=l)(b:bO):aO H (H1.set l b):=
 ⟨h.1,λj a=>by rw[ad.get_set_other af];exact h.2 j a⟩
def aO.get{H H':ad}(h:aO H H'){l:Nat}{b:bO}(a:H.get l=D b):H'.get l=D b:=by rw[h.2 l (ad.aR a)];exact a
def aO.mut{H H':ad}(h:aO H H')(S:Nat->Prop):cP S H H':=⟨h.1,λl a _=>h.2 l a⟩
def cP.refl(S:Nat->Prop)(H:ad):cP S H H:=(aO.refl H).mut S
def cP.trans{S:Nat->Prop}{H H1 a:ad}(h:cP S H H1)(k:cP S H1 a):cP S H a:=⟨Nat.le_trans h.1 k.1,λl c aB=>(k.2 l (Nat.lt_of_lt_of_le c h.1) aB).trans (h.2 l c aB)⟩
def cP.bt{S:Nat->Prop}{H H1:ad}(h:cP S H H1)(b:bO):cP S H (H1.push b):=h.trans ((aO.push H1 b).mut S)
def cP.cv{S:Nat->Prop}{H H1:ad}(h:cP S H H1){l:Nat}(c:S l\/H.next<=l)(b:bO):cP S H (H1.set l b):=
 ⟨h.1,λj a aB=>by rw[ad.get_set_other (by rintro rfl;exact c.elim aB af)];exact h.2 j a aB⟩
def cP.get{S:Nat->Prop}{H H':ad}(h:cP S H H'){l:Nat}{b:bO}(a:H.get l=D b)(aB:¬S l):H'.get l=D b:=by rw[h.2 l (ad.aR a) aB];exact a
section
variable {P:Program}{H:ad}
def dG(v:aa)(k:aa->O):j (D v) k=k v:=rfl
def ek(b:Bool)(x y:O):aW (D (.bool b)) x y=bif b then x else y:=rfl
def eK{v:aa}{H':ad}{k:aa->ad->O}(h:H.next<=H'.next):aH H (D (v,H')) k=k v H':=by
 simp only[aH,decide_eq_true h,aZ]
def s8{H':ad}{k:ad->O}(h:H.next<=H'.next):a7 H (D H') k=k H':=by
 simp only[a7,Option.bind_some];exact eK h
def s6(v:aa)(b:bO)(k:aa->ad->O):bS H (D (v,b)) k=k v (H.push b):=rfl
def ET(m:(K->O)->O)(k:aa->ad->O):aQ (.bool X) X H m k=m (λx=>pn x.val (x.heap H) k):=rfl
def EO(m:(K->O)->O)(k:aa->ad->O):aQ (.bool U) U H m k=m (λx=>pn x.val (x.heap H) k):=rfl
def ES(m:(K->O)->O)(k:aa->ad->O):aQ (.bool X) U H m k=k (.tuple []) H:=rfl
def EP(m:(K->O)->O)(k:aa->ad->O):aQ (.bool U) X H m k=k (.tuple []) H:=rfl
def ER(w:Bool)(m:(K->O)->O)(k:aa->ad->O):aQ (.tuple []) w H m k=k (.tuple []) H:=rfl
def EN(v:aa)(b:Option aa)(k:K->O):gj (D v) b k=k (.pure v):=rfl
def Ce(a b:Option aa):cD (.bool X) a b=a:=rfl
def Cd(a b:Option aa):cD (.bool U) a b=b:=rfl
def xk(b:Bool):ff .not (.bool b)=D (.bool (!b)):=rfl
def w_(l i c:Nat):bW (.ptr l i c)=D (.ptr l i c):=rfl
def tg(v:aa):(K.pure v).val=v:=rfl
def wP(v:aa):(K.read v).val=v:=rfl
def wO(v:aa)(b:bO):(K.new v b).val=v:=rfl
def wN(v:aa)(H':ad):(K.dL v H').val=v:=rfl
def wQ:K.skip.val= .tuple []:=rfl
def te(v:aa):(K.pure v).heap H=H:=rfl
def tf(v:aa):(K.read v).heap H=H:=rfl
def wL(v:aa)(b:bO):(K.new v b).heap H=H.push b:=rfl
def td(v:aa)(H':ad):(K.dL v H').heap H=H':=rfl
def wM:K.skip.heap H=H:=rfl
def w6(a:List aa)(i:Nat):eg (.tuple a) i=a[i]? :=rfl
def zd(t:TypeId)(c:Bool)(k:IntKind)(a b:Int):aq P .add t c (.int k a) (.int k b)=D (.int k (k.wrap (a+b))):=by simp[aq,hj]
def zm(t:TypeId)(c:Bool)(k:IntKind)(a b:Int):aq P .sub t c (.int k a) (.int k b)=D (.int k (k.wrap (a-b))):=by simp[aq,hj]
def GX(t:TypeId)(c:Bool)(k:IntKind)(a b:Int):aq P .mul t c (.int k a) (.int k b)=D (.int k (k.wrap (a*b))):=by simp[aq,hj]
def ze(t:TypeId)(c:Bool)(k:IntKind)(a b:Int):aq P .eql t c (.int k a) (.int k b)=D (.bool (a==b)):=by simp[aq,hj]
def zj(t:TypeId)(c:Bool)(k:IntKind)(a b:Int):aq P .neq t c (.int k a) (.int k b)=D (.bool (a != b)):=by simp[aq,hj]
def zi(t:TypeId)(c:Bool)(k:IntKind)(a b:Int):aq P .lss t c (.int k a) (.int k b)=D (.bool (decide (a<b))):=by simp[aq,hj]
def zh(t:TypeId)(c:Bool)(k:IntKind)(a b:Int):aq P .leq t c (.int k a) (.int k b)=D (.bool (decide (a<=b))):=by simp[aq,hj]
def zg(t:TypeId)(c:Bool)(k:IntKind)(a b:Int):aq P .gtr t c (.int k a) (.int k b)=D (.bool (decide (b<a))):=by simp[aq,hj]
def zf(t:TypeId)(c:Bool)(k:IntKind)(a b:Int):aq P .geq t c (.int k a) (.int k b)=D (.bool (decide (b<=a))):=by simp[aq,hj]
def zk(t:TypeId)(c:Bool)(a b:List UInt8):aq P .eql t c (.str a) (.str b)=D (.bool (a==b)):=rfl
def zl(t:TypeId)(c:Bool)(a b:List UInt8):aq P .neq t c (.str a) (.str b)=D (.bool (!(a==b))):=rfl
def jw(t:TypeId)(c:Bool)(a b:List UInt8)(h:a.length+b.length<=9223372036854775807):aq P .add t c (.str a) (.str b)=D (.str (a++b)):=by
 simp only[aq,qW,if_pos h]
def Dr{t:TypeId}{n:Nat}(j:cl P t=D n){l i c esz:Nat}{els:List (List aa)}{e:List aa}{v:aa}(h:H.get l=D (.row U esz els))(he:els[i]? =D e)(a:v.cells.length=n)(k:v.cells.all aa.one=X)(d:c+n<=esz):
  aV P H t (.ptr l i c) v=D (H.set l (.row U esz (els.set i (cE e c v.cells)))):=by
 simp only[aV,h,he];rw[if_pos ⟨by rw[j,a],by rw[a];exact d,k⟩]
def gJ(k:IntKind)(n:Int):(aa.int k n).one=true:=rfl
def hq(x:List UInt8):(aa.str x).one=true:=rfl
def qm(x:Bool):(aa.bool x).one=true:=rfl
def vh(l i c:Nat):(aa.ptr l i c).one=true:=rfl
def vi(l i n e:Nat)(c:Option Nat):(aa.aA l i n e c).one=true:=rfl
def r1:aa.ar.one=true:=rfl
def vg(f:Fn)(a c:List aa):(aa.func f a c).one=true:=rfl
def h2{v:aa}(h:v.one=X):v.cells=[v]:=by cases v<;>first|rfl|cases h
def hh(l:Nat)(cs:List aa)(h:cs.all aa.one=X):dS l (.agg cs)=D (.ptr l 0 0,.row U cs.length [cs]):=by
 simp only[dS,aa.cells,h,aZ]
end
end Go.b9
namespace Go.Proofs.YtghmbpmaafnodaaDoor
open Go.b9
noncomputable def P:Program:=Tryd.prog
noncomputable abbrev bk(f:Func):dT:=kQ P f.results.toList
noncomputable abbrev rp(f:Func)(G:az)(N:Nat):dT:=bp P G N (bs f) (bk f) [] (bk f)
def bL{A B zC:dT}(h:∀ae H,A ae H=B ae H)(a:∀ae H,B ae H=zC ae H):∀ae H,A ae H=zC ae H:=λae H=>(h ae H).trans (a ae H)
def dN{A B:dT}{ae:ct}{H:ad}{t:O}(h:∀ae H,A ae H=B ae H)(a:B ae H=t):A ae H=t:=(h ae H).trans a
def E0(H:ad)(r:Option ad)(k:aa->ad->O):O:=aH H (r.bind λH'=>D (.tuple [],H')) k
 @[congr] theorem Nn {H a:ad} {h ba:Option ad} {z:Nat} {k:aa->ad->O} (d:H=a) (e:h=ba) (c:gy=z):E0 H h k=E0 a ba k:=by rw[d,e]
def jg:List (List aa):=Lib.pow10Tab.map λn=>[.int .u64 n]
def hA:Env:=λl=>match l with
 |0=>D ⟨0,0,1,20⟩
 |_=>Z
def lb:List (List aa)->Option (List (List UInt8))
 |[]=>D []
 |[.str s]::es=>(lb es).map (s:: ·)
 |_=>Z
open Classical in
noncomputable def ay:az:=λf args H=>match f,args with
 |42,[.int .i64 n]=>if-9223372036854775808<=n/\n<=9223372036854775807/\H.get 0=D (.row X 1 jg)then D (.str (Lib.itoa n),H)else Z
 |43,[.bool b]=>D (.str (Lib.formatBool b),H)
 |54,[.str s,.int .i64 n]=>if 0<=n/\n<=9223372036854775807/\s.length*n.toNat<=140737488355328 then D (.str (Lib.repeatL s n.toNat),H)else Z
 |59,[.ar,.str _]=>D (.str [],H)
 |59,[.aA l i n 1 _,.str sep]=>(match er H l i n 1 with
  |some es=>(match lb es with
   |some xs=>if xs.length<=140737488355328/\(Lib.join xs sep).length<=140737488355328 then D (.str (Lib.join xs sep),H)else Z
   |none=>Z)
  |none=>Z)
 |80,[.ptr l 0 0]=>(match H.get l with
  |some (.bU 81 2 [[.nilPtr,b]])=>if b.one=X then D (.tuple [],H.set l (.bU 81 2 [[.ptr l 0 0,b]]))else Z
  |some (.bU 81 2 [[.ptr l' 0 0,_]])=>if l'=l then D (.tuple [],H)else Z
  |_=>Z)
 |32,[.ptr l 0 0]=>(match H.get l with
  |some (.bU 81 2 [[_,.ar]])=>D (.str [],H)
  |some (.bU 81 2 [[_,.aA m j n 1 _]])=>(match H.get m with
   |some (.bU 5 1 es)=>(match bytesOf ((es.drop j).take n)with
    |some a=>if 0<n/\j+n<=es.length/\j=0/\n<=140737488355328/\(es.drop j).take n=a.map (λb=>[.int .u8 b.toNat])then D (.str a,H.set m .dead)else Z
    |none=>Z)
   |_=>Z)
  |_=>Z)
 |_,_=>Z
def Kf{f:Nat}{fn:Func}{N:Nat}{args:List aa}{H:ad}{r:aa×ad}(a:ay f args H=Z)(e:P.funcs[f]? =D fn)(c:fn.body=D (bs fn))(d:iv fn.ntmps (bs fn)=X)(i:Nat.ble args.length fn.ntmps=X)(h:rp fn (aC P ay) N (kF args) H=D r):aC P ay f args H=D r:=GQ a e c d i h
def cO{f:Nat}{fn:Func}(N:Nat){args:List aa}{H:ad}{r:aa×ad}{S:az->O}(e:P.funcs[f]? =D fn)(he:∀G,rp fn G N (kF args) H=S G)(h:S (aC P ay)=D r)(a:ay f args H=none:=by first|kernel_rfl)(c:fn.body=D (bs fn):=by first|kernel_rfl)(d:iv fn.ntmps (bs fn)=true:=by first|kernel_rfl)(i:Nat.ble args.length fn.ntmps=true:=by first|kernel_rfl):aC P ay f args H=D r:=Kf a e c d i ((he _).trans h)
end Go.Proofs.YtghmbpmaafnodaaDoor
namespace Go.b9
def bm.vv{α:Type}(x y:α):∀(p q:List jR) (t:bm α),p≠q->bm.dE x p (bm.dE y q t)=bm.dE y q (bm.dE x p t)
 |[],[],_,h=>absurd rfl h
 |[],d::q,.leaf,_=>by cases d<;>simp[bm.dE]
 |[],d::q,.node ..,_=>by cases d<;>simp[bm.dE]
 |d::p,[],.leaf,_=>by cases d<;>simp[bm.dE]
 |d::p,[],.node ..,_=>by cases d<;>simp[bm.dE]
 |d::p,e::q,.leaf,h=>by
  by_cases a:d=e
  ·subst a;have j:=bm.vv x y p q .leaf (λi=>h (by rw[i]));cases d<;>simp[bm.dE,j]
  ·cases d<;>cases e<;>first|exact absurd rfl a|simp[bm.dE]
 |d::p,e::q,.node v k l m n o s u w,h=>by
  by_cases a:d=e
  ·subst a;have j:=λc=>bm.vv x y p q c (λi=>h (by rw[i]))
   cases d<;>simp[bm.dE,j]
  ·cases d<;>cases e<;>first|exact absurd rfl a|simp[bm.dE]
def ad.hr{H:ad}{b c:bO}{l:Nat}(h:l<H.next):(H.push b).set l c=(H.set l c).push b:=by
 simp only[ad.push,ad.set,bm.put];rw[bm.vv _ _ _ _ _ (λe=>by have:=Cb e;omega)]
def EY(m:(K->O)->O)(k:K->O):eZ (.bool X) X m k=m k:=rfl
def EU(m:(K->O)->O)(k:K->O):eZ (.bool U) U m k=m k:=rfl
def EX(m:(K->O)->O)(k:K->O):eZ (.bool X) U m k=k .skip:=rfl
def EV(m:(K->O)->O)(k:K->O):eZ (.bool U) X m k=k .skip:=rfl
def EW(w:Bool)(m:(K->O)->O)(k:K->O):eZ (.tuple []) w m k=k .skip:=rfl
def Fg{c:Bool}{a b:O}{Q:aa->ad->Prop}(d:c=X)(h:W a Q):W (bif c then a else b) Q:=by rw[d];exact h
def mc:List fZ->ad->List ad
 |[],H=>[H]
 |t::ts,H=>H::mc ts (t.k.heap H)
def EG{ms:List Nat}{rd:ad->Bool}{i:Nat}:∀(T:List fZ) (H:ad),(∀H'∈mc T H,rd H'=X)->mg ms rd i T H=X
 |[],H,h=>h H (by simp[mc])
 |t::ts,H,h=>by
  have c:=h H (by simp[mc]);have a:=EG (ms:=ms) (rd:=rd) (i:=i) ts (t.k.heap H) (λH' hm=>h H' (by simp[mc,hm]));rw[mg];cases e:t.k.eG with
  |true=>simp[c,a]
  |false=>
   have:t.k.heap H=H:=by cases d:t.k<;>simp[d,K.eG,K.heap]at e ⊢
   rw[this]at a;simp[a]
def LZ{ms:List Nat}{rd:ad->Bool}{i:Nat}{T:List fZ}{H:ad}(h:∀H'∈mc T H,rd H'=X):qR ms rd i T H=true:=by
 rw[qR,EG T H h];cases my ms i T U<;>rfl
def q7(a:List Nat)(T:List fZ)(H:ad):List fZ->Prop
 |[]=>True
 |t::ts=>(∀v,t.k= .read v->a.contains t.i=X\/∀H'∈mc T H,bh (t.rd H') v=X)/\q7 a T H ts
def EI{ms c:List Nat}{T:List fZ}{H:ad}:∀S:List fZ,q7 c T H S->ph ms c T H S=X
 |[],_=>rfl
 |t::ts,h=>by
  rw[q7]at h;rw[ph,EI ts h.2,Bool.and_true];split
  ·rename_i v d;rcases h.1 v d with a|a
   ·rw[a,Bool.true_or]
   ·rw[LZ a,Bool.or_true]
  ·rfl
def GJ{ms a:List Nat}{T:List fZ}{H:ad}(c:mD ms T []=X)(d:q7 a T H T):ly ms a T H=true:=by
 rw[ly,c,EI T d];rfl
section
variable {E:Env}{P:Program}{ay:az}
def yh(e:mm P){G:az}(n:iM E P G){N f:Nat}{args:List aa}{H H1:ad}{fn:Func}{c:Code}{ex:aL}{ae:a_}{l:List aa}
  (a:P.funcs[f]? =D fn) (h:fn.body=D c) (s:cx (e3 P G) N c (a_.enter fn.ntmps args) H=D (ex,ae,H1)) (z:∀id,ex≠ .exit id) (F:gS P ae H1 fn.results.toList=D l):ih E P f args H (lq l) H1:=by
 intro ρ w xs o u p M next A
 have q:=yi (N:=N) CC (CE e.mixed n) c (e.Cf _ _ _ a h);have y:(fn.name== "runtime.NumGoroutine")=false:=e.names fn (Array.mem_of_getElem? a);have B:(callFunc f xs.toArray).run P w= .ok (.enter f xs.toArray) w:=by
  unfold callFunc;simp[a,h];intro v;simp[v]at y
 unfold ll;rw[B];simp only
 refine calls_of_wp a h (q _ _ _ _ _ s ρ w _ _ o u (ye p fn.ntmps) λL b0 K d j=> ?_);obtain⟨x,i,m⟩:=CH j.rel d F;have k:=A x K L m j;cases ex with
 |normal=>exact⟨d.none,x,i,k⟩
 |ret=>exact⟨d.none,x,i,k⟩
 |exit id=>exact absurd rfl (z id)
def GB(j:mm P){G:az}(i:iM E P G){f:Nat}{args:List aa}{H:ad}{fn:Func}{c:Code}{M:Nat}{r:aa×ad}(m:P.funcs[f]? =D fn)(l:fn.body=D c)(n:iv fn.ntmps c=X)(o:Nat.ble args.length fn.ntmps=X)
  (h:bp P G M c (kQ P fn.results.toList) [] (kQ P fn.results.toList) (kF args) H=D r):ih E P f args H r.1 r.2:=by
 have aB:(a_.enter fn.ntmps args).size=fn.ntmps:=by have:=Nat.le_of_ble_eq_true o;simp only[a_.enter];omega
 rw[<-xf fn.ntmps,x7 c _ _ _ _ _ (by rw[aB];exact n)]at h;unfold n8 at h;have fin:∀(ae:a_) (H':ad),kQ P fn.results.toList ae.get H'=D r->∃d,gS P ae H' fn.results.toList=D d/\r=(lq d,H'):=by
  intro ae H' a;unfold kQ at a;rw[sc]at a;cases k:gS P ae H' fn.results.toList with
  |none=>rw[k]at a;cases a
  |some d=>rw[k]at a;exact⟨d,rfl,(Option.some.inj a).symm⟩
 split at h
 ·rename_i ae H' he;obtain⟨d,e,rfl⟩:=fin ae H' h;exact yh j i m l he (λid=>by intro a;cases a) e
 ·cases h
 ·rename_i ae H' he;obtain⟨d,e,rfl⟩:=fin ae H' h;exact yh j i m l he (λid=>by intro a;cases a) e
 ·cases h
def Rel.HQ{ρ:Env}{H:ad}{w k:World}(h:Rel ρ H w)(m:∀b,b<w.heap.size->k.heap[b]? =w.heap[b]?):Rel ρ H k:=by
 have key:∀b x,w.heap[b]? =D x->k.heap[b]? =D x:=λb x e=>by
  rw[m b ?_];exact e;exact(Array.getElem?_eq_some_iff.1 e).1
 refine⟨λl ro esz els e=> ?_,λl es e=> ?_,λl t esz els e=> ?_,h.apart⟩
 ·obtain⟨loc,a,d,c,t,n,i,j⟩:=h.row l ro esz els e;exact⟨loc,a,d,c,t,n,key _ _ i,j⟩
 ·obtain⟨loc,a,ents,clock,i,j⟩:=h.map l es e;exact⟨loc,a,ents,clock,key _ _ i,j⟩
 ·obtain⟨loc,a,d⟩:=h.bU l t esz els e;exact⟨loc,a,d.frame ρ.le_refl (m _ d.1.lt)⟩
def ad.pP(l:Nat):ad.empty.get l=none:=by
 cases h:ad.empty.get l with
 |none=>rfl
 |some b=>exact absurd (ad.aR h) (Nat.not_lt_zero l)
def I8(w:World):Rel (λ_=>Z) ad.empty w:=by
 refine⟨λl ro esz els e=> ?_,λl es e=> ?_,λl t esz els e=> ?_,λl l' loc a _ _ _ h=> ?_⟩
 ·rw[ad.pP]at e;cases e
 ·rw[ad.pP]at e;cases e
 ·rw[ad.pP]at e;cases e
 ·cases h
end
end Go.b9
namespace Go.Proofs.YtghmbpmaafnodaaDoor
open Go.b9
section
def Iv(a:List Func):Bool:=a.all λfn=> !(fn.name== "runtime.NumGoroutine")
def Gq(a:List Func):Bool:=a.all λfn=>match fn.body with
 |some c=>jF c
 |none=>X
def IW{P:Program}(a:P.follows .mixedOrders=X)(d:Iv P.funcs.toList=X)(e:Gq P.funcs.toList=X):mm P:=by
 refine⟨a,λfn j=> ?_,λf fn c i h=> ?_⟩
 ·have:=List.all_eq_true.1 d fn (Array.mem_toList_iff.2 j);simpa using this
 ·have:=List.all_eq_true.1 e fn (Array.mem_toList_iff.2 (Array.mem_of_getElem? i));simpa [h]using this
set_option maxRecDepth 1000000
def r8:mm P:=IW ah ah ah
end
def DC:dJ P 3=D false:=ah
def Eb:cl P 3=D 1:=ah
def DF:dJ P 4=D false:=ah
def Ed:cl P 4=D 1:=ah
def yf{c:Bool}(a b:Bool):aq P .eql 4 c (.bool a) (.bool b)=D (.bool (a==b)):=ah
def BO{c:Bool}(a b:Bool):aq P .neq 4 c (.bool a) (.bool b)=D (.bool (!(a==b))):=ah
def DK:dJ P 5=D false:=ah
def nL:cl P 5=D 1:=ah
def DU:dJ P 9=D false:=ah
def wq:cl P 9=D 1:=ah
def Bt{H:ad}{s:List UInt8}:bZ P H .len [9] [.str s]=D (.int .i64 s.length):=ah
def Dw:dJ P 22=D false:=ah
def D6:cl P 22=D 1:=ah
def Hv(l i n:Nat)(cap:Option Nat)(k:Int):cB P 22 (.aA l i n 3 cap) (.int .i64 k)=if 3=3/\0<=k/\k<n then D (.ptr l (i+k.toNat) 0)else none:=ah
def Ax{l i n:Nat}{cap:Option Nat}{k:Int}(a:0<=k)(c:k<n):cB P 22 (.aA l i n 3 cap) (.int .i64 k)=D (.ptr l (i+k.toNat) 0):=by rw[Hv,if_pos ⟨rfl,a,c⟩]
def qb{H:ad}{l i n e:Nat}{cap:Option Nat}:bZ P H .len [22] [.aA l i n e cap]=D (.int .i64 n):=ah
def rQ{H:ad}:bZ P H .len [22] [.ar]=D (.int .i64 0):=ah
def Dx:dJ P 23=D false:=ah
def D7:cl P 23=D 1:=ah
def Hw(l i n:Nat)(cap:Option Nat)(k:Int):cB P 23 (.aA l i n 4 cap) (.int .i64 k)=if 4=4/\0<=k/\k<n then D (.ptr l (i+k.toNat) 0)else none:=ah
def Ay{l i n:Nat}{cap:Option Nat}{k:Int}(a:0<=k)(c:k<n):cB P 23 (.aA l i n 4 cap) (.int .i64 k)=D (.ptr l (i+k.toNat) 0):=by rw[Hw,if_pos ⟨rfl,a,c⟩]
def qc{H:ad}{l i n e:Nat}{cap:Option Nat}:bZ P H .len [23] [.aA l i n e cap]=D (.int .i64 n):=ah
def rR{H:ad}:bZ P H .len [23] [.ar]=D (.int .i64 0):=ah
def Dy:dJ P 24=D false:=ah
def D8:cl P 24=D 1:=ah
def Hx(l i n:Nat)(cap:Option Nat)(k:Int):cB P 24 (.aA l i n 7 cap) (.int .i64 k)=if 7=7/\0<=k/\k<n then D (.ptr l (i+k.toNat) 0)else none:=ah
def Az{l i n:Nat}{cap:Option Nat}{k:Int}(a:0<=k)(c:k<n):cB P 24 (.aA l i n 7 cap) (.int .i64 k)=D (.ptr l (i+k.toNat) 0):=by rw[Hx,if_pos ⟨rfl,a,c⟩]
def qd{H:ad}{l i n e:Nat}{cap:Option Nat}:bZ P H .len [24] [.aA l i n e cap]=D (.int .i64 n):=ah
def rS{H:ad}:bZ P H .len [24] [.ar]=D (.int .i64 0):=ah
def Dz:dJ P 26=D true:=ah
def D9:cl P 26=D 3:=ah
def yA(l i c:Nat):aI P 26 (.ptr l i c) 0=D (.ptr l i (c+0)):=ah
def zz(a0 aS a2:aa):cA P 26 (.agg [a0,aS,a2]) 0=D a0:=ah
def yB(l i c:Nat):aI P 26 (.ptr l i c) 1=D (.ptr l i (c+1)):=ah
def zB(a0 aS a2:aa):cA P 26 (.agg [a0,aS,a2]) 1=D aS:=ah
def yC(l i c:Nat):aI P 26 (.ptr l i c) 2=D (.ptr l i (c+2)):=ah
def zE(a0 aS a2:aa):cA P 26 (.agg [a0,aS,a2]) 2=D a2:=ah
def DA:dJ P 27=D false:=ah
def D_:cl P 27=D 1:=ah
def DB:dJ P 29=D true:=ah
def Ea:cl P 29=D 2:=ah
def yD(l i c:Nat):aI P 29 (.ptr l i c) 0=D (.ptr l i (c+0)):=ah
def zF(a0 aS:aa):cA P 29 (.agg [a0,aS]) 0=D a0:=ah
def yE(l i c:Nat):aI P 29 (.ptr l i c) 1=D (.ptr l i (c+1)):=ah
def zG(a0 aS:aa):cA P 29 (.agg [a0,aS]) 1=D aS:=ah
def DD:dJ P 36=D false:=ah
def Ec:cl P 36=D 1:=ah
def Hy(l i n:Nat)(cap:Option Nat)(k:Int):cB P 36 (.aA l i n 4 cap) (.int .i64 k)=if 4=4/\0<=k/\k<n then D (.ptr l (i+k.toNat) 0)else none:=ah
def uG{l i n:Nat}{cap:Option Nat}{k:Int}(a:0<=k)(c:k<n):cB P 36 (.aA l i n 4 cap) (.int .i64 k)=D (.ptr l (i+k.toNat) 0):=by rw[Hy,if_pos ⟨rfl,a,c⟩]
def qe{H:ad}{l i n e:Nat}{cap:Option Nat}:bZ P H .len [36] [.aA l i n e cap]=D (.int .i64 n):=ah
def rT{H:ad}:bZ P H .len [36] [.ar]=D (.int .i64 0):=ah
def DG:dJ P 40=D true:=ah
def Ee:cl P 40=D 2:=ah
def yF(l i c:Nat):aI P 40 (.ptr l i c) 0=D (.ptr l i (c+0)):=ah
def zH(a0 aS:aa):cA P 40 (.agg [a0,aS]) 0=D a0:=ah
def yG(l i c:Nat):aI P 40 (.ptr l i c) 1=D (.ptr l i (c+1)):=ah
def zI(a0 aS:aa):cA P 40 (.agg [a0,aS]) 1=D aS:=ah
def DH:dJ P 41=D false:=ah
def Ef:cl P 41=D 1:=ah
def Hz(l i n:Nat)(cap:Option Nat)(k:Int):cB P 41 (.aA l i n 11 cap) (.int .i64 k)=if 11=11/\0<=k/\k<n then D (.ptr l (i+k.toNat) 0)else none:=ah
def AA{l i n:Nat}{cap:Option Nat}{k:Int}(a:0<=k)(c:k<n):cB P 41 (.aA l i n 11 cap) (.int .i64 k)=D (.ptr l (i+k.toNat) 0):=by rw[Hz,if_pos ⟨rfl,a,c⟩]
def lH{H:ad}{l i n e:Nat}{cap:Option Nat}:bZ P H .len [41] [.aA l i n e cap]=D (.int .i64 n):=ah
def qf{H:ad}:bZ P H .len [41] [.ar]=D (.int .i64 0):=ah
def DI:dJ P 43=D true:=ah
def Eg:cl P 43=D 3:=ah
def yH(l i c:Nat):aI P 43 (.ptr l i c) 0=D (.ptr l i (c+0)):=ah
def zJ(a0 aS a2:aa):cA P 43 (.agg [a0,aS,a2]) 0=D a0:=ah
def yI(l i c:Nat):aI P 43 (.ptr l i c) 1=D (.ptr l i (c+1)):=ah
def zK(a0 aS a2:aa):cA P 43 (.agg [a0,aS,a2]) 1=D aS:=ah
def yJ(l i c:Nat):aI P 43 (.ptr l i c) 2=D (.ptr l i (c+2)):=ah
def zL(a0 aS a2:aa):cA P 43 (.agg [a0,aS,a2]) 2=D a2:=ah
def DJ:dJ P 45=D true:=ah
def sV:cl P 45=D 11:=ah
def yK(l i c:Nat):aI P 45 (.ptr l i c) 0=D (.ptr l i (c+0)):=ah
def zM(a0 aS a2 a3 a4 a5 c d e a9 a:aa):cA P 45 (.agg [a0,aS,a2,a3,a4,a5,c,d,e,a9,a]) 0=D a0:=ah
def yL(l i c:Nat):aI P 45 (.ptr l i c) 1=D (.ptr l i (c+1)):=ah
def zN(a0 aS a2 a3 a4 a5 c d e a9 a:aa):cA P 45 (.agg [a0,aS,a2,a3,a4,a5,c,d,e,a9,a]) 1=D aS:=ah
def yM(l i c:Nat):aI P 45 (.ptr l i c) 2=D (.ptr l i (c+2)):=ah
def zO(a0 aS a2 a3 a4 a5 c d e a9 a:aa):cA P 45 (.agg [a0,aS,a2,a3,a4,a5,c,d,e,a9,a]) 2=D a2:=ah
def yN(l i c:Nat):aI P 45 (.ptr l i c) 3=D (.ptr l i (c+3)):=ah
def zP(a0 aS a2 a3 a4 a5 c d e a9 a:aa):cA P 45 (.agg [a0,aS,a2,a3,a4,a5,c,d,e,a9,a]) 3=D (.agg [a3,a4]):=ah
def yO(l i c:Nat):aI P 45 (.ptr l i c) 4=D (.ptr l i (c+5)):=ah
def zQ(a0 aS a2 a3 a4 a5 c d e a9 a:aa):cA P 45 (.agg [a0,aS,a2,a3,a4,a5,c,d,e,a9,a]) 4=D a5:=ah
def yP(l i c:Nat):aI P 45 (.ptr l i c) 5=D (.ptr l i (c+6)):=ah
def zR(a0 aS a2 a3 a4 a5 a d e a9 c:aa):cA P 45 (.agg [a0,aS,a2,a3,a4,a5,a,d,e,a9,c]) 5=D a:=ah
def yQ(l i c:Nat):aI P 45 (.ptr l i c) 6=D (.ptr l i (c+7)):=ah
def zS(a0 aS a2 a3 a4 a5 e a c a9 d:aa):cA P 45 (.agg [a0,aS,a2,a3,a4,a5,e,a,c,a9,d]) 6=D (.agg [a,c,a9]):=ah
def yR(l i c:Nat):aI P 45 (.ptr l i c) 7=D (.ptr l i (c+10)):=ah
def zT(a0 aS a2 a3 a4 a5 c d e a9 a:aa):cA P 45 (.agg [a0,aS,a2,a3,a4,a5,c,d,e,a9,a]) 7=D a:=ah
def qX:dJ P 50=D false:=ah
def Eh:cl P 50=D 1:=ah
def HA(l i n:Nat)(cap:Option Nat)(k:Int):cB P 50 (.aA l i n 1 cap) (.int .i64 k)=if 1=1/\0<=k/\k<n then D (.ptr l (i+k.toNat) 0)else none:=ah
def uH{l i n:Nat}{cap:Option Nat}{k:Int}(a:0<=k)(c:k<n):cB P 50 (.aA l i n 1 cap) (.int .i64 k)=D (.ptr l (i+k.toNat) 0):=by rw[HA,if_pos ⟨rfl,a,c⟩]
def Bn{H:ad}{l i n e:Nat}{cap:Option Nat}:bZ P H .len [50] [.aA l i n e cap]=D (.int .i64 n):=ah
def Bo{H:ad}:bZ P H .len [50] [.ar]=D (.int .i64 0):=ah
def qY:dJ P 51=D false:=ah
def Ei:cl P 51=D 1:=ah
def HB(l i n:Nat)(cap:Option Nat)(k:Int):cB P 51 (.aA l i n 1 cap) (.int .i64 k)=if 1=1/\0<=k/\k<n then D (.ptr l (i+k.toNat) 0)else none:=ah
def uI{l i n:Nat}{cap:Option Nat}{k:Int}(a:0<=k)(c:k<n):cB P 51 (.aA l i n 1 cap) (.int .i64 k)=D (.ptr l (i+k.toNat) 0):=by rw[HB,if_pos ⟨rfl,a,c⟩]
def Bp{H:ad}{l i n e:Nat}{cap:Option Nat}:bZ P H .len [51] [.aA l i n e cap]=D (.int .i64 n):=ah
def Bq{H:ad}:bZ P H .len [51] [.ar]=D (.int .i64 0):=ah
def n9(l i c:Nat):aI P 59 (.ptr l i c) 0=D (.ptr l i (c+0)):=ah
def zU(a0 aS a2 a3 a4:aa):cA P 59 (.agg [a0,aS,a2,a3,a4]) 0=D a0:=ah
def n_(l i c:Nat):aI P 59 (.ptr l i c) 1=D (.ptr l i (c+1)):=ah
def zV(a0 aS a2 a3 a4:aa):cA P 59 (.agg [a0,aS,a2,a3,a4]) 1=D aS:=ah
def yS(l i c:Nat):aI P 59 (.ptr l i c) 2=D (.ptr l i (c+2)):=ah
def zW(a0 aS a2 a3 a4:aa):cA P 59 (.agg [a0,aS,a2,a3,a4]) 2=D a2:=ah
def yT(l i c:Nat):aI P 59 (.ptr l i c) 3=D (.ptr l i (c+3)):=ah
def zX(a0 aS a2 a3 a4:aa):cA P 59 (.agg [a0,aS,a2,a3,a4]) 3=D (.agg [a3,a4]):=ah
def DL:dJ P 61=D true:=ah
def sW:cl P 61=D 4:=ah
def yU(l i c:Nat):aI P 61 (.ptr l i c) 0=D (.ptr l i (c+0)):=ah
def zY(a0 aS a2 a3:aa):cA P 61 (.agg [a0,aS,a2,a3]) 0=D a0:=ah
def yV(l i c:Nat):aI P 61 (.ptr l i c) 1=D (.ptr l i (c+1)):=ah
def zZ(a0 aS a2 a3:aa):cA P 61 (.agg [a0,aS,a2,a3]) 1=D aS:=ah
def yW(l i c:Nat):aI P 61 (.ptr l i c) 2=D (.ptr l i (c+2)):=ah
def z1(a0 aS a2 a3:aa):cA P 61 (.agg [a0,aS,a2,a3]) 2=D a2:=ah
def yX(l i c:Nat):aI P 61 (.ptr l i c) 3=D (.ptr l i (c+3)):=ah
def z6(a0 aS a2 a3:aa):cA P 61 (.agg [a0,aS,a2,a3]) 3=D a3:=ah
def DM:dJ P 65=D true:=ah
def wk:cl P 65=D 3:=ah
def yY(l i c:Nat):aI P 65 (.ptr l i c) 0=D (.ptr l i (c+0)):=ah
def z7(a0 aS a2:aa):cA P 65 (.agg [a0,aS,a2]) 0=D a0:=ah
def yZ(l i c:Nat):aI P 65 (.ptr l i c) 1=D (.ptr l i (c+1)):=ah
def z8(a0 aS a2:aa):cA P 65 (.agg [a0,aS,a2]) 1=D aS:=ah
def y0(l i c:Nat):aI P 65 (.ptr l i c) 2=D (.ptr l i (c+2)):=ah
def z_(a0 aS a2:aa):cA P 65 (.agg [a0,aS,a2]) 2=D a2:=ah
def DN:dJ P 68=D true:=ah
def wm:cl P 68=D 4:=ah
def y1(l i c:Nat):aI P 68 (.ptr l i c) 0=D (.ptr l i (c+0)):=ah
def Aa(a0 aS a2 a3:aa):cA P 68 (.agg [a0,aS,a2,a3]) 0=D a0:=ah
def y2(l i c:Nat):aI P 68 (.ptr l i c) 1=D (.ptr l i (c+1)):=ah
def Ab(a0 aS a2 a3:aa):cA P 68 (.agg [a0,aS,a2,a3]) 1=D (.agg [aS,a2]):=ah
def y3(l i c:Nat):aI P 68 (.ptr l i c) 2=D (.ptr l i (c+3)):=ah
def Ac(a0 aS a2 a3:aa):cA P 68 (.agg [a0,aS,a2,a3]) 2=D a3:=ah
def v_:dJ P 71=D false:=ah
def q0:cl P 71=D 1:=ah
def HC(l i n:Nat)(cap:Option Nat)(k:Int):cB P 71 (.aA l i n 9 cap) (.int .i64 k)=if 9=9/\0<=k/\k<n then D (.ptr l (i+k.toNat) 0)else none:=ah
def AD{l i n:Nat}{cap:Option Nat}{k:Int}(a:0<=k)(c:k<n):cB P 71 (.aA l i n 9 cap) (.int .i64 k)=D (.ptr l (i+k.toNat) 0):=by rw[HC,if_pos ⟨rfl,a,c⟩]
def rU{H:ad}{l i n e:Nat}{cap:Option Nat}:bZ P H .len [71] [.aA l i n e cap]=D (.int .i64 n):=ah
def u5{H:ad}:bZ P H .len [71] [.ar]=D (.int .i64 0):=ah
def DO:dJ P 73=D true:=ah
def wo:cl P 73=D 7:=ah
def y4(l i c:Nat):aI P 73 (.ptr l i c) 0=D (.ptr l i (c+0)):=ah
def Ad(a0 aS a2 a3 a4 a5 a:aa):cA P 73 (.agg [a0,aS,a2,a3,a4,a5,a]) 0=D a0:=ah
def y5(l i c:Nat):aI P 73 (.ptr l i c) 1=D (.ptr l i (c+1)):=ah
def Ae(a0 aS a2 a3 a4 a5 a:aa):cA P 73 (.agg [a0,aS,a2,a3,a4,a5,a]) 1=D aS:=ah
def y6(l i c:Nat):aI P 73 (.ptr l i c) 2=D (.ptr l i (c+2)):=ah
def Af(a0 aS a2 a3 a4 a5 a:aa):cA P 73 (.agg [a0,aS,a2,a3,a4,a5,a]) 2=D a2:=ah
def y7(l i c:Nat):aI P 73 (.ptr l i c) 3=D (.ptr l i (c+3)):=ah
def Ag(a0 aS a2 a3 a4 a5 a:aa):cA P 73 (.agg [a0,aS,a2,a3,a4,a5,a]) 3=D (.agg [a3,a4]):=ah
def y8(l i c:Nat):aI P 73 (.ptr l i c) 4=D (.ptr l i (c+5)):=ah
def Ah(a0 aS a2 a3 a4 a5 a:aa):cA P 73 (.agg [a0,aS,a2,a3,a4,a5,a]) 4=D a5:=ah
def y9(l i c:Nat):aI P 73 (.ptr l i c) 5=D (.ptr l i (c+6)):=ah
def Ai(a0 aS a2 a3 a4 a5 a:aa):cA P 73 (.agg [a0,aS,a2,a3,a4,a5,a]) 5=D a:=ah
def DP:dJ P 75=D false:=ah
def Ej:cl P 75=D 1:=ah
def DQ:dJ P 76=D false:=ah
def Ek:cl P 76=D 1:=ah
def DR:dJ P 77=D false:=ah
def El:cl P 77=D 1:=ah
def HD(l i n:Nat)(cap:Option Nat)(k:Int):cB P 77 (.aA l i n 1 cap) (.int .i64 k)=if 1=1/\0<=k/\k<n then D (.ptr l (i+k.toNat) 0)else none:=ah
def AE{l i n:Nat}{cap:Option Nat}{k:Int}(a:0<=k)(c:k<n):cB P 77 (.aA l i n 1 cap) (.int .i64 k)=D (.ptr l (i+k.toNat) 0):=by rw[HD,if_pos ⟨rfl,a,c⟩]
def Br{H:ad}{l i n e:Nat}{cap:Option Nat}:bZ P H .len [77] [.aA l i n e cap]=D (.int .i64 n):=ah
def Bs{H:ad}:bZ P H .len [77] [.ar]=D (.int .i64 0):=ah
def DS:dJ P 79=D true:=ah
def Em:cl P 79=D 2:=ah
def y_(l i c:Nat):aI P 79 (.ptr l i c) 0=D (.ptr l i (c+0)):=ah
def Aj(a0 aS:aa):cA P 79 (.agg [a0,aS]) 0=D a0:=ah
def za(l i c:Nat):aI P 79 (.ptr l i c) 1=D (.ptr l i (c+1)):=ah
def Ak(a0 aS:aa):cA P 79 (.agg [a0,aS]) 1=D aS:=ah
def DT:dJ P 81=D true:=ah
def En:cl P 81=D 2:=ah
def zb(l i c:Nat):aI P 81 (.ptr l i c) 0=D (.ptr l i (c+0)):=ah
def Al(a0 aS:aa):cA P 81 (.agg [a0,aS]) 0=D (.agg [a0,aS]):=ah
def v8:dJ P 112=D true:=ah
def pb:cl P 112=D 9:=ah
def yr(l i c:Nat):aI P 112 (.ptr l i c) 0=D (.ptr l i (c+0)):=ah
def zr(a0 aS a2 a3 a4 a5 a c d:aa):cA P 112 (.agg [a0,aS,a2,a3,a4,a5,a,c,d]) 0=D a0:=ah
def ys(l i c:Nat):aI P 112 (.ptr l i c) 1=D (.ptr l i (c+1)):=ah
def zs(a0 aS a2 a3 a4 a5 a c d:aa):cA P 112 (.agg [a0,aS,a2,a3,a4,a5,a,c,d]) 1=D aS:=ah
def yt(l i c:Nat):aI P 112 (.ptr l i c) 2=D (.ptr l i (c+2)):=ah
def zt(a0 aS a2 a3 a4 a5 a c d:aa):cA P 112 (.agg [a0,aS,a2,a3,a4,a5,a,c,d]) 2=D (.agg [a2,a3]):=ah
def yu(l i c:Nat):aI P 112 (.ptr l i c) 3=D (.ptr l i (c+4)):=ah
def zu(a0 aS a2 a3 a4 a5 a c d:aa):cA P 112 (.agg [a0,aS,a2,a3,a4,a5,a,c,d]) 3=D a4:=ah
def yv(l i c:Nat):aI P 112 (.ptr l i c) 4=D (.ptr l i (c+5)):=ah
def zv(a0 aS a2 a3 a4 a5 a c d:aa):cA P 112 (.agg [a0,aS,a2,a3,a4,a5,a,c,d]) 4=D a5:=ah
def yw(l i c:Nat):aI P 112 (.ptr l i c) 5=D (.ptr l i (c+6)):=ah
def zw(a0 aS a2 a3 a4 a5 a c d:aa):cA P 112 (.agg [a0,aS,a2,a3,a4,a5,a,c,d]) 5=D a:=ah
def yx(l i c:Nat):aI P 112 (.ptr l i c) 6=D (.ptr l i (c+7)):=ah
def zx(a0 aS a2 a3 a4 a5 c a d:aa):cA P 112 (.agg [a0,aS,a2,a3,a4,a5,c,a,d]) 6=D a:=ah
def yy(l i c:Nat):aI P 112 (.ptr l i c) 7=D (.ptr l i (c+8)):=ah
def zy(a0 aS a2 a3 a4 a5 c d a:aa):cA P 112 (.agg [a0,aS,a2,a3,a4,a5,c,d,a]) 7=D a:=ah
def Du:dJ P 131=D false:=ah
def D4:cl P 131=D 1:=ah
def Ht(l i n:Nat)(cap:Option Nat)(k:Int):cB P 131 (.aA l i n 1 cap) (.int .i64 k)=if 1=1/\0<=k/\k<n then D (.ptr l (i+k.toNat) 0)else none:=ah
def uE{l i n:Nat}{cap:Option Nat}{k:Int}(a:0<=k)(c:k<n):cB P 131 (.aA l i n 1 cap) (.int .i64 k)=D (.ptr l (i+k.toNat) 0):=by rw[Ht,if_pos ⟨rfl,a,c⟩]
def Bj{H:ad}{l i n e:Nat}{cap:Option Nat}:bZ P H .len [131] [.aA l i n e cap]=D (.int .i64 n):=ah
def Bk{H:ad}:bZ P H .len [131] [.ar]=D (.int .i64 0):=ah
def Dv:dJ P 132=D false:=ah
def D5:cl P 132=D 1:=ah
def Hu(l i n:Nat)(cap:Option Nat)(k:Int):cB P 132 (.aA l i n 1 cap) (.int .i64 k)=if 1=1/\0<=k/\k<n then D (.ptr l (i+k.toNat) 0)else none:=ah
def uF{l i n:Nat}{cap:Option Nat}{k:Int}(a:0<=k)(c:k<n):cB P 132 (.aA l i n 1 cap) (.int .i64 k)=D (.ptr l (i+k.toNat) 0):=by rw[Hu,if_pos ⟨rfl,a,c⟩]
def Bl{H:ad}{l i n e:Nat}{cap:Option Nat}:bZ P H .len [132] [.aA l i n e cap]=D (.int .i64 n):=ah
def Bm{H:ad}:bZ P H .len [132] [.ar]=D (.int .i64 0):=ah
def xK:ch P 59 [(0,aa.ar)]=D (.agg [aa.ar,.int .i64 0,.int .i64 0,.int .i64 0,.int .i64 0]):=ah
def xL(e:Nat)(d:Nat)(h:Nat)(c:Nat)(a:Option Nat):ch P 59 [(0,(.aA e d h c a))]=D (.agg [.aA e d h c a,.int .i64 0,.int .i64 0,.int .i64 0,.int .i64 0]):=ah
def xt(a0:List UInt8)(aS:Int):ch P 40 [(0,(.str a0)),(1,(.int .i64 aS))]=D (.agg [.str a0,.int .i64 aS]):=ah
def xp(a0:Int):ch P 29 [(0,(.int .i64 a0))]=D (.agg [.int .i64 a0,.int .i64 0]):=ah
def xq(a0:Int)(aS:Int):ch P 29 [(0,(.int .i64 a0)),(1,(.int .i64 aS))]=D (.agg [.int .i64 a0,.int .i64 aS]):=ah
def xP(a0:Int)(a3:Int):ch P 61 [(0,(.int .i64 a0)),(3,(.int .i64 a3))]=D (.agg [.int .i64 a0,.str [],.int .i64 0,.int .i64 a3]):=ah
def xG(aS:Int)(a2:Int):ch P 59 [(0,aa.ar),(1,(.int .i64 aS)),(2,(.int .i64 a2))]=D (.agg [aa.ar,.int .i64 aS,.int .i64 a2,.int .i64 0,.int .i64 0]):=ah
def xH(e:Nat)(d:Nat)(h:Nat)(c:Nat)(a:Option Nat)(aS:Int)(a2:Int):ch P 59 [(0,(.aA e d h c a)),(1,(.int .i64 aS)),(2,(.int .i64 a2))]=D (.agg [.aA e d h c a,.int .i64 aS,.int .i64 a2,.int .i64 0,.int .i64 0]):=ah
def xI(aS:Int):ch P 59 [(0,aa.ar),(1,(.int .i64 aS))]=D (.agg [aa.ar,.int .i64 aS,.int .i64 0,.int .i64 0,.int .i64 0]):=ah
def xJ(e:Nat)(d:Nat)(h:Nat)(c:Nat)(a:Option Nat)(aS:Int):ch P 59 [(0,(.aA e d h c a)),(1,(.int .i64 aS))]=D (.agg [.aA e d h c a,.int .i64 aS,.int .i64 0,.int .i64 0,.int .i64 0]):=ah
def xM(a0:Int):ch P 61 [(0,(.int .i64 a0))]=D (.agg [.int .i64 a0,.str [],.int .i64 0,.int .i64 0]):=ah
def xQ(a2:Int):ch P 65 [(2,(.int .i64 a2))]=D (.agg [.str [],aa.ar,.int .i64 a2]):=ah
def xR(a2:Int):ch P 68 [(2,(.int .i64 a2))]=D (.agg [.str [],.str [],.int .i64 0,.int .i64 a2]):=ah
def xS(a5:Int):ch P 73 [(5,(.int .i64 a5))]=D (.agg [.str [],aa.ar,.bool U,.str [],.int .i64 0,aa.ar,.int .i64 a5]):=ah
def xN(a0:Int)(aS:List UInt8)(a3:Int):ch P 61 [(0,(.int .i64 a0)),(1,(.str aS)),(3,(.int .i64 a3))]=D (.agg [.int .i64 a0,.str aS,.int .i64 0,.int .i64 a3]):=ah
def xO(a0:Int)(a2:Int)(a3:Int):ch P 61 [(0,(.int .i64 a0)),(2,(.int .i64 a2)),(3,(.int .i64 a3))]=D (.agg [.int .i64 a0,.str [],.int .i64 a2,.int .i64 a3]):=ah
def xD(a0:Int)(a5:Int):ch P 45 [(0,(.int .i64 a0)),(4,aa.ar),(5,(.int .i64 a5))]=D (.agg [.int .i64 a0,.int .i64 0,.str [],.str [],.int .i64 0,aa.ar,.int .i64 a5,.int .i64 0,.int .i64 0,.int .i64 0,.int .i64 0]):=ah
def xE(a0:Int)(e:Nat)(d:Nat)(h:Nat)(c:Nat)(a:Option Nat)(a5:Int):ch P 45 [(0,(.int .i64 a0)),(4,(.aA e d h c a)),(5,(.int .i64 a5))]=D (.agg [.int .i64 a0,.int .i64 0,.str [],.str [],.int .i64 0,.aA e d h c a,.int .i64 a5,.int .i64 0,.int .i64 0,.int .i64 0,.int .i64 0]):=ah
def xu(aS:Int):ch P 40 [(1,(.int .i64 aS))]=D (.agg [.str [],.int .i64 aS]):=ah
def xo(a:Int):ch P 112 [(6,(.int .i64 a))]=D (.agg [.int .i64 0,.str [],.str [],.int .i64 0,aa.ar,aa.ar,aa.ar,.int .i64 a,.int .i64 0]):=ah
def xw(a0:Int)(a2:List UInt8)(a5:Int):ch P 45 [(0,(.int .i64 a0)),(2,(.str a2)),(4,aa.ar),(5,(.int .i64 a5))]=D (.agg [.int .i64 a0,.int .i64 0,.str a2,.str [],.int .i64 0,aa.ar,.int .i64 a5,.int .i64 0,.int .i64 0,.int .i64 0,.int .i64 0]):=ah
def xx(a0:Int)(a2:List UInt8)(e:Nat)(d:Nat)(h:Nat)(c:Nat)(a:Option Nat)(a5:Int):ch P 45 [(0,(.int .i64 a0)),(2,(.str a2)),(4,(.aA e d h c a)),(5,(.int .i64 a5))]=D (.agg [.int .i64 a0,.int .i64 0,.str a2,.str [],.int .i64 0,.aA e d h c a,.int .i64 a5,.int .i64 0,.int .i64 0,.int .i64 0,.int .i64 0]):=ah
def xv(a0:Int)(aS:Int)(a5:Int):ch P 45 [(0,(.int .i64 a0)),(1,(.int .i64 aS)),(5,(.int .i64 a5))]=D (.agg [.int .i64 a0,.int .i64 aS,.str [],.str [],.int .i64 0,aa.ar,.int .i64 a5,.int .i64 0,.int .i64 0,.int .i64 0,.int .i64 0]):=ah
def xC(a0:Int)(a:List UInt8)(c:Int)(a5:Int):ch P 45 [(0,(.int .i64 a0)),(3,(.agg [.str a,.int .i64 c])),(5,(.int .i64 a5))]=D (.agg [.int .i64 a0,.int .i64 0,.str [],.str a,.int .i64 c,aa.ar,.int .i64 a5,.int .i64 0,.int .i64 0,.int .i64 0,.int .i64 0]):=ah
def xF(a0:Int)(a5:Int):ch P 45 [(0,(.int .i64 a0)),(5,(.int .i64 a5))]=D (.agg [.int .i64 a0,.int .i64 0,.str [],.str [],.int .i64 0,aa.ar,.int .i64 a5,.int .i64 0,.int .i64 0,.int .i64 0,.int .i64 0]):=ah
def xz(a0:Int)(a2:List UInt8)(a5:Int):ch P 45 [(0,(.int .i64 a0)),(2,(.str a2)),(5,(.int .i64 a5))]=D (.agg [.int .i64 a0,.int .i64 0,.str a2,.str [],.int .i64 0,aa.ar,.int .i64 a5,.int .i64 0,.int .i64 0,.int .i64 0,.int .i64 0]):=ah
def xr(a0:List UInt8):ch P 40 [(0,(.str a0))]=D (.agg [.str a0,.int .i64 0]):=ah
def xA(a0:Int)(a:List UInt8)(c:Int)(a5:Int):ch P 45 [(0,(.int .i64 a0)),(3,(.agg [.str a,.int .i64 c])),(4,aa.ar),(5,(.int .i64 a5))]=D (.agg [.int .i64 a0,.int .i64 0,.str [],.str a,.int .i64 c,aa.ar,.int .i64 a5,.int .i64 0,.int .i64 0,.int .i64 0,.int .i64 0]):=ah
def xB(a0:Int)(a:List UInt8)(c:Int)(i:Nat)(h:Nat)(j:Nat)(e:Nat)(d:Option Nat)(a5:Int):ch P 45 [(0,(.int .i64 a0)),(3,(.agg [.str a,.int .i64 c])),(4,(.aA i h j e d)),(5,(.int .i64 a5))]=D (.agg [.int .i64 a0,.int .i64 0,.str [],.str a,.int .i64 c,.aA i h j e d,.int .i64 a5,.int .i64 0,.int .i64 0,.int .i64 0,.int .i64 0]):=ah
end Go.Proofs.YtghmbpmaafnodaaDoor
namespace Go.b9
open Go.ChangeShapes Go.WideShapes Go.ChangeAt Go.RowKit
def wR(E:Env)(P:Program)(f:Nat)(args:List Value)(W:World):Prop:=∃(ρ:Env) (H:ad) (a:List aa) (H':ad),Rel ρ H W/\(∀l,¬H.rw l)/\(∀l,H.next<=l->ρ l=Z)/\E.le ρ/\H.next<=H'.next/\bq ρ a args/\ih E P f a H (.bool X) H'
def HW{E:Env}{P:Program}{f:Nat}{fn:Func}{c:Code}{args:List Value}{W:World}(w:mm P)(m:P.funcs[f]? =D fn)(y:fn.body=D c)(h:wR E P f args W):
  Calls P f args.toArray W λe a=>e= .returned (.bool X)/\Below W.heap.size W a:=by
 obtain⟨ρ,H,L,H',n,o,p,v,q,s,u⟩:=h;have F:∀b,¬hZ ρ H b:=by rintro b ⟨l,loc,j,_⟩;exact o l j
 have i:=u ρ W args n ⟨λl j _=>p l j,v⟩ s q (λx a=>x= .bool X/\Below W.heap.size W a) (λx a M K aB=>by
  cases K;exact⟨rfl,aB.os,aB.tape,aB.output,aB.size,λk A=>aB.frame k A (F k)⟩)
 have B:(fn.name== "runtime.NumGoroutine")=false:=w.names fn (Array.mem_of_getElem? m);have G:(callFunc f args.toArray).run P W= .ok (.enter f args.toArray) W:=by
  unfold callFunc;simp[m,y];intro z;simp[z]at B
 unfold ll at i;rw[G]at i;simp only at i;refine i.mono λe a d=> ?_
 split at d
 ·exact⟨by rw[d.1],d.2⟩
 ·exact d.elim
def D2{H:Type}{enc:TypeId×Value->H}{P:Program}{W j:World}(n:laidOutB P=X)(l:Below W.heap.size W j):∀{ts:List TypeId} {c:List Value} {a:List (DataW H)} {i:List MemPlace},(∀t∈ts,P.readableRec t=X/\t<P.types.size)->
  DataW.TrodAll enc P W 0 (λ_=>X) X ts c a i->∃o,DataW.TrodAll enc P j 0 (λb=>decide (b<W.heap.size)) X ts c a o
 |[],c,a,i,_,h=>by
  obtain⟨rfl,rfl,rfl⟩:=trodAll_nil h;exact⟨[],trodAll_mk0⟩
 |t::ts,c,a,i,e,h=>by
  obtain⟨v,A,d,z,p,q,rfl,rfl,rfl,k,s⟩:=trodAll_cons h;obtain⟨o,u⟩:=D2 n l (λt y=>e t (List.mem_cons_of_mem _ y)) s;have w:∀x∈p,x.block<W.heap.size:=by obtain⟨m,hm⟩:=k;exact DataW.trod_lt m _ _ _ hm
  exact⟨_,trodAll_cons_mk (Below.trod n (e t (List.mem_cons_self ..)).1 (e t (List.mem_cons_self ..)).2 k l w) u⟩
structure Seen(ρ:Env)(H:ad)(W:World):Prop where
 rel:Rel ρ H W
 ro:∀l,¬H.rw l
 top:∀l,H.next<=l->ρ l=none
def Seen.empty(W:World):Seen (λ_=>Z) ad.empty W:=
 have c:∀l,¬ad.empty.rw l:=λl a=>by
  rcases a with⟨e,s,h⟩|⟨es,h⟩|⟨t,e,s,h⟩<;>rw[ad.pP]at h<;>cases h
 ⟨I8 W,c,λ_ _=>rfl⟩
def Seen.p4{ρ:Env}{H:ad}{W:World}(h:Seen ρ H W)(loc:Go.b9.Loc):ρ.le (ρ.ec H.next loc):=λl a e=>by
 have:l≠H.next:=by rintro rfl;rw[h.top _ (bj _)]at e;cases e
 simp only[Env.ec,if_neg this];exact e
def fc.mono{ρ d:Env}(hle:ρ.le d){w:World}{loc:Go.b9.Loc}{ro:Bool}{esz:Nat}{els:List (List aa)}(h:fc ρ w loc ro esz els):fc d w loc ro esz els:=by
 obtain⟨l,c,t,k,m,n,a⟩:=h;refine⟨l,c,t,k,m,n,λi e he=>⟨(a i e he).1,λj v o=> ?_⟩⟩;obtain⟨aY,x,p,q⟩:=(a i e he).2 j v o;exact⟨aY,x,p,q.mono hle⟩
def Seen.push{ρ:Env}{H:ad}{W:World}(h:Seen ρ H W){loc:Go.b9.Loc}{esz:Nat}{els:List (List aa)}(k:fc ρ W loc X esz els):Seen (ρ.ec H.next loc) (H.push (.row X esz els)) W:=by
 have hle:=h.p4 loc;have d:∀l,¬(H.push (.row X esz els)).rw l:=by
  rintro l (⟨e,s,a⟩|⟨es,a⟩|⟨t,e,s,a⟩)
  ·rw[ad.pY]at a;split at a
   ·cases a
   ·exact h.ro l (.inl ⟨e,s,a⟩)
  ·rw[ad.pY]at a;split at a
   ·cases a
   ·exact h.ro l (.inr (.inl ⟨es,a⟩))
  ·rw[ad.pY]at a;split at a
   ·cases a
   ·exact h.ro l (.inr (.inr ⟨t,e,s,a⟩))
 refine⟨⟨λl ro e s a=> ?_,λl es a=> ?_,λl t e s a=>absurd (.inr (.inr ⟨t,e,s,a⟩)) (d l),λl l' _ _ c=>absurd c (d l)⟩,d,λl c=> ?_⟩
 ·rw[ad.pY]at a;split at a
  ·rename_i c;cases a;exact⟨loc,by simp[Env.ec,c],k.mono hle⟩
  ·obtain⟨m,i,j⟩:=h.rel.row l ro e s a;exact⟨m,hle _ _ i,j.mono hle⟩
 ·exact absurd (.inr (.inl ⟨es,a⟩)) (d l)
 ·simp only[ad.bT]at c;have:l≠H.next:=af
  simp only[Env.ec,if_neg this];exact h.top l af
