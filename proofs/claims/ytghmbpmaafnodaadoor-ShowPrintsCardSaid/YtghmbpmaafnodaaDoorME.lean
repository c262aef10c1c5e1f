/-
  Texts of one proof, laid together: Hv24 Base Hv25 Pk Tab Hv26.
-/
import Derived.Test.YtghmbpmaafnodaaDoorMD
import Derived.Test.YtghmbpmaafnodaaDoorProg
import Derived.KernelRfl
import Derived.Lib.ItoaNum
import Derived.Lib.Join
import Derived.Lib.Repeat
import Derived.Lib.Small
import Derived.ProofKit
import Derived.OpenShut
import Derived.ShutString
import Derived.ChangeOld
import Derived.Below
import Derived.Carry
set_option linter.unusedVariables false
set_option linter.unusedSimpArgs false
set_option linter.defProp false
open Option renaming some→D,none→Z
open Bool renaming true→X,false→U
namespace Go.cn
def W(m:O)(Q:ad->ae->Prop):Prop:=∃v H,m=D (v,H)/\Q v H
def bb{v:ad}{H:ae}{Q:ad->ae->Prop}:W (D (v,H)) Q↔Q v H:=by
 constructor
 ·rintro⟨a,H',h,q⟩;simp only[aS,b5]at h;obtain⟨rfl,rfl⟩:=h;exact q
 ·exactλq=>⟨v,H,rfl,q⟩
def W.mono{m:O}{Q a:ad->ae->Prop}(h:W m Q)(c:∀v H,Q v H->a v H):W m a:=by
 obtain⟨v,H,e,q⟩:=h;exact⟨v,H,e,c v H q⟩
def aO{r:O}{H:ae}{k:ad->ae->O}{Q a:ad->ae->Prop}(h:W r a)(i:∀v H',a v H'->H.next<=H'.next/\W (k v H') Q):W (aI H r k) Q:=by
 obtain⟨v,H',e,q⟩:=h;obtain⟨c,d⟩:=i v H' q;rw[e];simp only[aI,decide_eq_true c,aR];exact d
def kb{r:O}{H:ae}{q:K->O}{Q a:ad->ae->Prop}(h:W r a)(i:∀v H',a v H'->H.next<=H'.next/\W (q (.ea v H')) Q):W (fj H r q) Q:=by
 obtain⟨v,H',e,j⟩:=h;obtain⟨c,d⟩:=i v H' j;rw[e];simp only[fj,decide_eq_true c,aR];exact d
def mF{r:O}{H:ae}{x:ad}{k:ad->ae->O}{Q:ad->ae->Prop}(h:W r λv H'=>v=x/\H'=H)(a:W (k x H) Q):W (aI H r k) Q:=by
 refine aO h ?_;rintro _ H' ⟨rfl,e⟩;rw[e];exact⟨bm _,a⟩
def pA{r:O}{H:ae}{x:ad}{q:K->O}{Q:ad->ae->Prop}(h:W r λv H'=>v=x/\H'=H)(a:W (q (.ea x H)) Q):W (fj H r q) Q:=by
 refine kb h ?_;rintro _ H' ⟨rfl,e⟩;rw[e];exact⟨bm _,a⟩
def cG{m m':O}{Q:ad->ae->Prop}(a:∀r,m=D r->m'=D r)(h:W m Q):W m' Q:=by
 obtain⟨v,H,e,q⟩:=h;exact⟨v,H,a _ e,q⟩
def ha:Nat:=0
def Qj:Nat:=0
def Hn:ha=Qj:=rfl
def qY(v:ad)(H:ae)(k:ad->ae->O):O:=k v H
section
variable {r c3:Option ad}{o p9:O}{m m':Option (ad×bW)}{h a1:Option ae}{H H':ae}{a b4:ad}{b cy:Bool}{z:Nat}
 @[congr] theorem Qy {k:ad->ae->O} (e:a=b4) (d:H=H') (y:ha=z):qY a H k=qY b4 H' k:=by rw[e,d]
def Hc(H:ae)(cs:List ad)(k:ad->ae->O):cT H cs k=qY (.ptr H.next 0 0) (H.push (.row U cs.length [cs])) k:=rfl
def Hj(v:ad)(H:ae)(k:ad->ae->O):qY v H k=k v H:=rfl
 @[congr] theorem Qr {k:ad->O} (e:r=c3) (y:ha=z):j r k=j c3 k:=by rw[e]
 @[congr] theorem Qt {k:ad->ae->O} (d:H=H') (e:o=p9) (y:ha=z):aI H o k=aI H' p9 k:=by rw[d,e]
 @[congr] theorem Qu {k:K->O} (d:H=H') (e:o=p9) (y:ha=z):fj H o k=fj H' p9 k:=by rw[d,e]
 @[congr] theorem QC {k:ae->O} (d:H=H') (e:h=a1) (y:ha=z):bd H h k=bd H' a1 k:=by rw[d,e]
 @[congr] theorem Qz {k:ad->ae->O} (d:H=H') (e:m=m') (y:ha=z):b1 H m k=b1 H' m' k:=by rw[d,e]
 @[congr] theorem QA {k:K->O} (e:m=m') (y:ha=z):ve m k=ve m' k:=by rw[e]
 @[congr] theorem Qx {p q:O} (e:r=c3) (y:ha=z):aU r p q=aU c3 p q:=by rw[e]
 @[congr] theorem Qk {p q:O} (e:b=cy) (y:ha=z):cond b p q=cond cy p q:=by rw[e]
 @[congr] theorem Qv {w:Bool} {f:(K->O)->O} {k:ad->ae->O} (e:a=b4) (y:ha=z):aX a w H f k=aX b4 w H f k:=by rw[e]
 @[congr] theorem Qw {w:Bool} {f:(K->O)->O} {k:K->O} (e:a=b4) (y:ha=z):kK a w f k=kK b4 w f k:=by rw[e]
 @[congr] theorem Qs {s s':Option ad} {k:K->O} (e:r=c3) (d:s=s') (y:ha=z):h8 r s k=h8 c3 s' k:=by rw[d,e]
 @[congr] theorem Qm {q:K->O} (e:r=c3) (y:ha=z):bU r q=bU c3 q:=by rw[e]
 @[congr] theorem Qn {q:K->O} (e:r=c3) (y:ha=z):qr r q=qr c3 q:=by rw[e]
 @[congr] theorem Qo {q:K->O} (e:a=b4) (y:ha=z):cI a q=cI b4 q:=by rw[e]
def ED(v:ad)(q:K->O):bU (D v) q=q (.pure v):=rfl
def EE(v:ad)(q:K->O):qr (D v) q=q (.read v):=rfl
def EJ(v:ad)(q:K->O):cI v q=q (.pure v):=rfl
end
def EO(k:IntKind)(n:Int):bh (D (.int k n)) (.int k n)=true:=by simp[bh,ad.beq]
def ER(x:List UInt8):bh (D (.str x)) (.str x)=true:=by simp[bh,ad.beq]
def EN(x:Bool):bh (D (.bool x)) (.bool x)=true:=by simp[bh,ad.beq]
def l1(l i n e:Nat)(c:Option Nat):bh (D (.aD l i n e c)) (.aD l i n e c)=true:=by simp[bh,ad.beq]
def xK:bh (D .az) .az=true:=rfl
def EP(x:List UInt8)(k:IntKind)(n:Int):bh (D (.agg [.str x,.int k n])) (.agg [.str x,.int k n])=true:=by simp[bh,ad.beq,gA.beq]
def ae.rB(H:ae)(b:bW)(l:Nat):(H.push b).get l=if l=H.next then D b else H.get l:=by
 split
 ·rename_i h;subst h;exact ae.bM H b
 ·rename_i h;exact ae.dC h
def bt.ua{α:Type}(x y:α):∀(p:List kL) (t:bt α),bt.dV y p (bt.dV x p t)=bt.dV y p t
 |[],.leaf=>rfl
 |[],.node .. =>rfl
 |d::p,.leaf=>by cases d<;>simp[bt.dV,bt.ua x y p]
 |d::p,.node .. =>by cases d<;>simp[bt.dV,bt.ua x y p]
def ae.xI(H:ae)(b c:bW):(H.push b).set H.next c=H.push c:=by
 simp only[ae.push,ae.set,bt.put,bt.ua]
def ae.set_set(H:ae)(l:Nat)(b c:bW):(H.set l b).set l c=H.set l c:=by
 simp only[ae.set,bt.put,bt.ua]
def ae.tg{H:ae}{b:bW}{l:Nat}(h:l<=H.next)(a1:H.next<=l):(H.push b).get l=D b:=by
 obtain rfl:l=H.next:=af
 exact ae.bM H b
def ae.Ez{H:ae}{b c:bW}{l:Nat}(h:l<=H.next)(a1:H.next<=l):(H.push b).set l c=H.push c:=by
 obtain rfl:l=H.next:=af
 exact ae.xI H b c
def c7(S:Nat->Prop)(H H':ae):Prop:=H.next<=H'.next/\∀l,l<H.next->¬S l->H'.get l=H.get l
def aP(H H':ae):Prop:=H.next<=H'.next/\∀l,l<H.next->H'.get l=H.get l
def aP.refl(H:ae):aP H H:=⟨bm _,λ_ _=>rfl⟩
def aP.trans{H H1 a:ae}(h:aP H H1)(k:aP H1 a):aP H a:=⟨Nat.le_trans h.1 k.1,λl c=>(k.2 l (Nat.lt_of_lt_of_le c h.1)).trans (h.2 l c)⟩
def aP.push(H:ae)(b:bW):aP H (H.push b):=⟨by simp,λl a=>ae.dC af⟩
def aP.bI{H H1:ae}(h:aP H H1)(b:bW):aP H (H1.push b):=h.trans (aP.push H1 b)
def aP.cW{H H1:ae}(h:aP H H1){l:Nat}(c:H.next<=l)(b:bW):aP H (H1.set l b):=
 ⟨h.1,λj a=>by rw[ae.get_set_other af];exact h.2 j a⟩
def aP.get{H H':ae}(h:aP H H'){l:Nat}{b:bW}(a:H.get l=D b):H'.get l=D b:=by rw[h.2 l (ae.aV a)];exact a
def aP.mut{H H':ae}(h:aP H H')(S:Nat->Prop):c7 S H H':=⟨h.1,λl a _=>h.2 l a⟩
def c7.refl(S:Nat->Prop)(H:ae):c7 S H H:=(aP.refl H).mut S
def c7.trans{S:Nat->Prop}{H H1 a:ae}(h:c7 S H H1)(k:c7 S H1 a):c7 S H a:=⟨Nat.le_trans h.1 k.1,λl c aB=>(k.2 l (Nat.lt_of_lt_of_le c h.1) aB).trans (h.2 l c aB)⟩
def c7.bI{S:Nat->Prop}{H H1:ae}(h:c7 S H H1)(b:bW):c7 S H (H1.push b):=h.trans ((aP.push H1 b).mut S)
def c7.cW{S:Nat->Prop}{H H1:ae}(h:c7 S H H1){l:Nat}(c:S l\/H.next<=l)(b:bW):c7 S H (H1.set l b):=
 ⟨h.1,λj a aB=>by rw[ae.get_set_other (by rintro rfl;exact c.elim aB af)];exact h.2 j a aB⟩
def c7.get{S:Nat->Prop}{H H':ae}(h:c7 S H H'){l:Nat}{b:bW}(a:H.get l=D b)(aB:¬S l):H'.get l=D b:=by rw[h.2 l (ae.aV a) aB];exact a
section
variable {P:Program}{H:ae}
def dY(v:ad)(k:ad->O):j (D v) k=k v:=rfl
def eE(b:Bool)(x y:O):aU (D (.bool b)) x y=bif b then x else y:=rfl
def e2{v:ad}{H':ae}{k:ad->ae->O}(h:H.next<=H'.next):aI H (D (v,H')) k=k v H':=by
 simp only[aI,decide_eq_true h,aR]
def vf{H':ae}{k:ae->O}(h:H.next<=H'.next):bd H (D H') k=k H':=by
 simp only[bd,Option.bind_some];exact e2 h
def vd(v:ad)(b:bW)(k:ad->ae->O):b1 H (D (v,b)) k=k v (H.push b):=rfl
def Hi(m:(K->O)->O)(k:ad->ae->O):aX (.bool X) X H m k=m (λx=>qY x.val (x.heap H) k):=rfl
def He(m:(K->O)->O)(k:ad->ae->O):aX (.bool U) U H m k=m (λx=>qY x.val (x.heap H) k):=rfl
def Hh(m:(K->O)->O)(k:ad->ae->O):aX (.bool X) U H m k=k (.tuple []) H:=rfl
def Hf(m:(K->O)->O)(k:ad->ae->O):aX (.bool U) X H m k=k (.tuple []) H:=rfl
def Hg(w:Bool)(m:(K->O)->O)(k:ad->ae->O):aX (.tuple []) w H m k=k (.tuple []) H:=rfl
def Hd(v:ad)(b:Option ad)(k:K->O):h8 (D v) b k=k (.pure v):=rfl
def Es(a b:Option ad):dd (.bool X) a b=a:=rfl
def Er(a b:Option ad):dd (.bool U) a b=b:=rfl
def zh(b:Bool):fZ .not (.bool b)=D (.bool (!b)):=rfl
def y6(l i c:Nat):b7 (.ptr l i c)=D (.ptr l i c):=rfl
def yK(v:ad):(K.pure v).val=v:=rfl
def yL(v:ad):(K.read v).val=v:=rfl
def yJ(v:ad)(b:bW):(K.new v b).val=v:=rfl
def yI(v:ad)(H':ae):(K.ea v H').val=v:=rfl
def yM:K.skip.val= .tuple []:=rfl
def vn(v:ad):(K.pure v).heap H=H:=rfl
def vo(v:ad):(K.read v).heap H=H:=rfl
def yG(v:ad)(b:bW):(K.new v b).heap H=H.push b:=rfl
def vm(v:ad)(H':ae):(K.ea v H').heap H=H':=rfl
def yH:K.skip.heap H=H:=rfl
def yZ(a:List ad)(i:Nat):ic (.tuple a) i=a[i]? :=rfl
def Bj(t:TypeId)(c:Bool)(k:IntKind)(a b:Int):ao P .add t c (.int k a) (.int k b)=D (.int k (k.wrap (a+b))):=by simp[ao,hT]
def Bs(t:TypeId)(c:Bool)(k:IntKind)(a b:Int):ao P .sub t c (.int k a) (.int k b)=D (.int k (k.wrap (a-b))):=by simp[ao,hT]
def Ju(t:TypeId)(c:Bool)(k:IntKind)(a b:Int):ao P .mul t c (.int k a) (.int k b)=D (.int k (k.wrap (a*b))):=by simp[ao,hT]
def Bk(t:TypeId)(c:Bool)(k:IntKind)(a b:Int):ao P .eql t c (.int k a) (.int k b)=D (.bool (a==b)):=by simp[ao,hT]
def Bp(t:TypeId)(c:Bool)(k:IntKind)(a b:Int):ao P .neq t c (.int k a) (.int k b)=D (.bool (a != b)):=by simp[ao,hT]
def Bo(t:TypeId)(c:Bool)(k:IntKind)(a b:Int):ao P .lss t c (.int k a) (.int k b)=D (.bool (decide (a<b))):=by simp[ao,hT]
def Bn(t:TypeId)(c:Bool)(k:IntKind)(a b:Int):ao P .leq t c (.int k a) (.int k b)=D (.bool (decide (a<=b))):=by simp[ao,hT]
def Bm(t:TypeId)(c:Bool)(k:IntKind)(a b:Int):ao P .gtr t c (.int k a) (.int k b)=D (.bool (decide (b<a))):=by simp[ao,hT]
def Bl(t:TypeId)(c:Bool)(k:IntKind)(a b:Int):ao P .geq t c (.int k a) (.int k b)=D (.bool (decide (b<=a))):=by simp[ao,hT]
def Bq(t:TypeId)(c:Bool)(a b:List UInt8):ao P .eql t c (.str a) (.str b)=D (.bool (a==b)):=rfl
def Br(t:TypeId)(c:Bool)(a b:List UInt8):ao P .neq t c (.str a) (.str b)=D (.bool (!(a==b))):=rfl
def kh(t:TypeId)(c:Bool)(a b:List UInt8)(h:a.length+b.length<=9223372036854775807):ao P .add t c (.str a) (.str b)=D (.str (a++b)):=by
 simp only[ao,sE,if_pos h]
def FP{t:TypeId}{n:Nat}(j:cA P t=D n){l i c esz:Nat}{els:List (List ad)}{e:List ad}{v:ad}(h:H.get l=D (.row U esz els))(he:els[i]? =D e)(a:v.cells.length=n)(k:v.cells.all ad.one=X)(d:c+n<=esz):
  aY P H t (.ptr l i c) v=D (H.set l (.row U esz (els.set i (cQ e c v.cells)))):=by
 simp only[aY,h,he];rw[if_pos ⟨by rw[j,a],by rw[a];exact d,k⟩]
def hF(k:IntKind)(n:Int):(ad.int k n).one=true:=rfl
def h0(x:List UInt8):(ad.str x).one=true:=rfl
def rZ(x:Bool):(ad.bool x).one=true:=rfl
def xr(l i c:Nat):(ad.ptr l i c).one=true:=rfl
def xt(l i n e:Nat)(c:Option Nat):(ad.aD l i n e c).one=true:=rfl
def tP:ad.az.one=true:=rfl
def xq(f:Fn)(a c:List ad):(ad.func f a c).one=true:=rfl
def iI{v:ad}(h:v.one=X):v.cells=[v]:=by cases v<;>first|rfl|cases h
def hA(l:Nat)(cs:List ad)(h:cs.all ad.one=X):d_ l (.agg cs)=D (.ptr l 0 0,.row U cs.length [cs]):=by
 simp only[d_,ad.cells,h,aR]
end
end Go.cn
namespace Go.Proofs.YtghmbpmaafnodaaDoor
open Go.cn
noncomputable def P:Program:=Tryd.prog
noncomputable abbrev bf(f:Func):ej:=l3 P f.results.toList
noncomputable abbrev s7(f:Func)(G:ay)(N:Nat):ej:=bl P G N (bs f) (bf f) [] (bf f)
def bC{A B zC:ej}(h:∀aa H,A aa H=B aa H)(a:∀aa H,B aa H=zC aa H):∀aa H,A aa H=zC aa H:=λaa H=>(h aa H).trans (a aa H)
def dX{A B:ej}{aa:cE}{H:ae}{t:O}(h:∀aa H,A aa H=B aa H)(a:B aa H=t):A aa H=t:=(h aa H).trans a
def Hk(H:ae)(r:Option ae)(k:ad->ae->O):O:=aI H (r.bind λH'=>D (.tuple [],H')) k
 @[congr] theorem QB {H a:ae} {h a1:Option ae} {z:Nat} {k:ad->ae->O} (d:H=a) (e:h=a1) (c:ha=z):Hk H h k=Hk a a1 k:=by rw[d,e]
def j2:List (List ad):=Lib.pow10Tab.map λn=>[.int .u64 n]
def h9:Env:=λl=>match l with
 |0=>D ⟨0,0,1,20⟩
 |_=>Z
def mx:List (List ad)->Option (List (List UInt8))
 |[]=>D []
 |[.str s]::es=>(mx es).map (s:: ·)
 |_=>Z
open Classical in
noncomputable def aA:ay:=λf args H=>match f,args with
 |42,[.int .i64 n]=>if-9223372036854775808<=n/\n<=9223372036854775807/\H.get 0=D (.row X 1 j2)then D (.str (Lib.itoa n),H)else Z
 |43,[.bool b]=>D (.str (Lib.formatBool b),H)
 |54,[.str s,.int .i64 n]=>if 0<=n/\n<=9223372036854775807/\s.length*n.toNat<=140737488355328 then D (.str (Lib.repeatL s n.toNat),H)else Z
 |59,[.az,.str _]=>D (.str [],H)
 |59,[.aD l i n 1 _,.str sep]=>(match eJ H l i n 1 with
  |some es=>(match mx es with
   |some xs=>if xs.length<=140737488355328/\(Lib.join xs sep).length<=140737488355328 then D (.str (Lib.join xs sep),H)else Z
   |none=>Z)
  |none=>Z)
 |80,[.ptr l 0 0]=>(match H.get l with
  |some (.b0 81 2 [[.nilPtr,b]])=>if b.one=X then D (.tuple [],H.set l (.b0 81 2 [[.ptr l 0 0,b]]))else Z
  |some (.b0 81 2 [[.ptr l' 0 0,_]])=>if l'=l then D (.tuple [],H)else Z
  |_=>Z)
 |32,[.ptr l 0 0]=>(match H.get l with
  |some (.b0 81 2 [[_,.az]])=>D (.str [],H)
  |some (.b0 81 2 [[_,.aD m j n 1 _]])=>(match H.get m with
   |some (.b0 5 1 es)=>(match bytesOf ((es.drop j).take n)with
    |some a=>if 0<n/\j+n<=es.length/\j=0/\n<=140737488355328/\(es.drop j).take n=a.map (λb=>[.int .u8 b.toNat])then D (.str a,H.set m .dead)else Z
    |none=>Z)
   |_=>Z)
  |_=>Z)
 |_,_=>Z
def M0{f:Nat}{fn:Func}{N:Nat}{args:List ad}{H:ae}{r:ad×ae}(a:aA f args H=Z)(e:P.funcs[f]? =D fn)(c:fn.body=D (bs fn))(d:jh fn.ntmps (bs fn)=X)(i:Nat.ble args.length fn.ntmps=X)(h:s7 fn (aE P aA) N (lN args) H=D r):aE P aA f args H=D r:=Jp a e c d i h
def cS{f:Nat}{fn:Func}(N:Nat){args:List ad}{H:ae}{r:ad×ae}{S:ay->O}(e:P.funcs[f]? =D fn)(he:∀G,s7 fn G N (lN args) H=S G)(h:S (aE P aA)=D r)(a:aA f args H=none:=by first|kernel_rfl)(c:fn.body=D (bs fn):=by first|kernel_rfl)(d:jh fn.ntmps (bs fn)=true:=by first|kernel_rfl)(i:Nat.ble args.length fn.ntmps=true:=by first|kernel_rfl):aE P aA f args H=D r:=M0 a e c d i ((he _).trans h)
end Go.Proofs.YtghmbpmaafnodaaDoor
namespace Go.cn
def bt.xJ{α:Type}(x y:α):∀(p q:List kL) (t:bt α),p≠q->bt.dV x p (bt.dV y q t)=bt.dV y q (bt.dV x p t)
 |[],[],_,h=>absurd rfl h
 |[],d::q,.leaf,_=>by cases d<;>simp[bt.dV]
 |[],d::q,.node ..,_=>by cases d<;>simp[bt.dV]
 |d::p,[],.leaf,_=>by cases d<;>simp[bt.dV]
 |d::p,[],.node ..,_=>by cases d<;>simp[bt.dV]
 |d::p,e::q,.leaf,h=>by
  by_cases a:d=e
  ·subst a;have j:=bt.xJ x y p q .leaf (λi=>h (by rw[i]));cases d<;>simp[bt.dV,j]
  ·cases d<;>cases e<;>first|exact absurd rfl a|simp[bt.dV]
 |d::p,e::q,.node v k l m n o s u w,h=>by
  by_cases a:d=e
  ·subst a;have j:=λc=>bt.xJ x y p q c (λi=>h (by rw[i]))
   cases d<;>simp[bt.dV,j]
  ·cases d<;>cases e<;>first|exact absurd rfl a|simp[bt.dV]
def ae.h1{H:ae}{b c:bW}{l:Nat}(h:l<H.next):(H.push b).set l c=(H.set l c).push b:=by
 simp only[ae.push,ae.set,bt.put];rw[bt.xJ _ _ _ _ _ (λe=>by have:=Eo e;omega)]
def Qi(m:(K->O)->O)(k:K->O):kK (.bool X) X m k=m k:=rfl
def Qe(m:(K->O)->O)(k:K->O):kK (.bool U) U m k=m k:=rfl
def Qh(m:(K->O)->O)(k:K->O):kK (.bool X) U m k=k .skip:=rfl
def Qf(m:(K->O)->O)(k:K->O):kK (.bool U) X m k=k .skip:=rfl
def Qg(w:Bool)(m:(K->O)->O)(k:K->O):kK (.tuple []) w m k=k .skip:=rfl
def HD{c:Bool}{a b:O}{Q:ad->ae->Prop}(d:c=X)(h:W a Q):W (bif c then a else b) Q:=by rw[d];exact h
def nR:List gB->ae->List ae
 |[],H=>[H]
 |t::ts,H=>H::nR ts (t.k.heap H)
def G6{ms:List Nat}{rd:ae->Bool}{i:Nat}:∀(T:List gB) (H:ae),(∀H'∈nR T H,rd H'=X)->nW ms rd i T H=X
 |[],H,h=>h H (by simp[nR])
 |t::ts,H,h=>by
  have c:=h H (by simp[nR]);have a:=G6 (ms:=ms) (rd:=rd) (i:=i) ts (t.k.heap H) (λH' hm=>h H' (by simp[nR,hm]));rw[nW];cases e:t.k.eW with
  |true=>simp[c,a]
  |false=>
   have:t.k.heap H=H:=by cases d:t.k<;>simp[d,K.eW,K.heap]at e ⊢
   rw[this]at a;simp[a]
def O_{ms:List Nat}{rd:ae->Bool}{i:Nat}{T:List gB}{H:ae}(h:∀H'∈nR T H,rd H'=X):sx ms rd i T H=true:=by
 rw[sx,G6 T H h];cases oe ms i T U<;>rfl
def sM(a:List Nat)(T:List gB)(H:ae):List gB->Prop
 |[]=>True
 |t::ts=>(∀v,t.k= .read v->a.contains t.i=X\/∀H'∈nR T H,bh (t.rd H') v=X)/\sM a T H ts
def G8{ms c:List Nat}{T:List gB}{H:ae}:∀S:List gB,sM c T H S->qV ms c T H S=X
 |[],_=>rfl
 |t::ts,h=>by
  rw[sM]at h;rw[qV,G8 ts h.2,Bool.and_true];split
  ·rename_i v d;rcases h.1 v d with a|a
   ·rw[a,Bool.true_or]
   ·rw[O_ a,Bool.or_true]
  ·rfl
def Ji{ms a:List Nat}{T:List gB}{H:ae}(c:om ms T []=X)(d:sM a T H T):oi ms a T H=true:=by
 rw[oi,c,G8 T d];rfl
section
variable {E:Env}{P:Program}{aA:ay}
def Am(e:n3 P){G:ay}(n:jC E P G){N f:Nat}{args:List ad}{H H1:ae}{fn:Func}{c:Code}{ex:aJ}{aa:a7}{l:List ad}
  (a:P.funcs[f]? =D fn) (h:fn.body=D c) (s:cH (fp P G) N c (a7.enter fn.ntmps args) H=D (ex,aa,H1)) (z:∀id,ex≠ .exit id) (F:hy P aa H1 fn.results.toList=D l):i_ E P f args H (mI l) H1:=by
 intro ρ w xs o u p M next A
 have q:=An (N:=N) EW (EX e.mixed n) c (e.Et _ _ _ a h);have y:(fn.name== "runtime.NumGoroutine")=false:=e.names fn (Array.mem_of_getElem? a);have B:(callFunc f xs.toArray).run P w= .ok (.enter f xs.toArray) w:=by
  unfold callFunc;simp[a,h];intro v;simp[v]at y
 unfold mE;rw[B];simp only
 refine calls_of_wp a h (q _ _ _ _ _ s ρ w _ _ o u (Aj p fn.ntmps) λL b4 K d j=> ?_);obtain⟨x,i,m⟩:=E0 j.rel d F;have k:=A x K L m j;cases ex with
 |normal=>exact⟨d.none,x,i,k⟩
 |ret=>exact⟨d.none,x,i,k⟩
 |exit id=>exact absurd rfl (z id)
def Jb(j:n3 P){G:ay}(i:jC E P G){f:Nat}{args:List ad}{H:ae}{fn:Func}{c:Code}{M:Nat}{r:ad×ae}(m:P.funcs[f]? =D fn)(l:fn.body=D c)(n:jh fn.ntmps c=X)(o:Nat.ble args.length fn.ntmps=X)
  (h:bl P G M c (l3 P fn.results.toList) [] (l3 P fn.results.toList) (lN args) H=D r):i_ E P f args H r.1 r.2:=by
 have aB:(a7.enter fn.ntmps args).size=fn.ntmps:=by have:=Nat.le_of_ble_eq_true o;simp only[a7.enter];omega
 rw[<-zc fn.ntmps,Aa c _ _ _ _ _ (by rw[aB];exact n)]at h;unfold pN at h;have fin:∀(aa:a7) (H':ae),l3 P fn.results.toList aa.get H'=D r->∃d,hy P aa H' fn.results.toList=D d/\r=(mI d,H'):=by
  intro aa H' a;unfold l3 at a;rw[ue]at a;cases k:hy P aa H' fn.results.toList with
  |none=>rw[k]at a;cases a
  |some d=>rw[k]at a;exact⟨d,rfl,(Option.some.inj a).symm⟩
 split at h
 ·rename_i aa H' he;obtain⟨d,e,rfl⟩:=fin aa H' h;exact Am j i m l he (λid=>by intro a;cases a) e
 ·cases h
 ·rename_i aa H' he;obtain⟨d,e,rfl⟩:=fin aa H' h;exact Am j i m l he (λid=>by intro a;cases a) e
 ·cases h
def Rel.Ku{ρ:Env}{H:ae}{w k:World}(h:Rel ρ H w)(m:∀b,b<w.heap.size->k.heap[b]? =w.heap[b]?):Rel ρ H k:=by
 have key:∀b x,w.heap[b]? =D x->k.heap[b]? =D x:=λb x e=>by
  rw[m b ?_];exact e;exact(Array.getElem?_eq_some_iff.1 e).1
 refine⟨λl ro esz els e=> ?_,λl es e=> ?_,λl t esz els e=> ?_,h.apart⟩
 ·obtain⟨loc,a,d,c,t,n,i,j⟩:=h.row l ro esz els e;exact⟨loc,a,d,c,t,n,key _ _ i,j⟩
 ·obtain⟨loc,a,ents,clock,i,j⟩:=h.map l es e;exact⟨loc,a,ents,clock,key _ _ i,j⟩
 ·obtain⟨loc,a,d⟩:=h.b0 l t esz els e;exact⟨loc,a,d.frame ρ.le_refl (m _ d.1.lt)⟩
def ae.rn(l:Nat):ae.empty.get l=none:=by
 cases h:ae.empty.get l with
 |none=>rfl
 |some b=>exact absurd (ae.aV h) (Nat.not_lt_zero l)
def LP(w:World):Rel (λ_=>Z) ae.empty w:=by
 refine⟨λl ro esz els e=> ?_,λl es e=> ?_,λl t esz els e=> ?_,λl l' loc a _ _ _ h=> ?_⟩
 ·rw[ae.rn]at e;cases e
 ·rw[ae.rn]at e;cases e
 ·rw[ae.rn]at e;cases e
 ·cases h
end
end Go.cn
namespace Go.Proofs.YtghmbpmaafnodaaDoor
open Go.cn
section
def K7(a:List Func):Bool:=a.all λfn=> !(fn.name== "runtime.NumGoroutine")
def I0(a:List Func):Bool:=a.all λfn=>match fn.body with
 |some c=>kq c
 |none=>X
def Lx{P:Program}(a:P.follows .mixedOrders=X)(d:K7 P.funcs.toList=X)(e:I0 P.funcs.toList=X):n3 P:=by
 refine⟨a,λfn j=> ?_,λf fn c i h=> ?_⟩
 ·have:=List.all_eq_true.1 d fn (Array.mem_toList_iff.2 j);simpa using this
 ·have:=List.all_eq_true.1 e fn (Array.mem_toList_iff.2 (Array.mem_of_getElem? i));simpa [h]using this
set_option maxRecDepth 1000000
def tY:n3 P:=Lx ah ah ah
end
def F2:dZ P 3=D false:=ah
def GB:cA P 3=D 1:=ah
def F4:dZ P 4=D false:=ah
def GD:cA P 4=D 1:=ah
def Ak{c:Bool}(a b:Bool):ao P .eql 4 c (.bool a) (.bool b)=D (.bool (a==b)):=ah
def DW{c:Bool}(a b:Bool):ao P .neq 4 c (.bool a) (.bool b)=D (.bool (!(a==b))):=ah
def F9:dZ P 5=D false:=ah
def po:cA P 5=D 1:=ah
def Gi:dZ P 9=D false:=ah
def yp:cA P 9=D 1:=ah
def Dt{H:ae}{s:List UInt8}:cg P H .len [9] [.str s]=D (.int .i64 s.length):=ah
def FW:dZ P 22=D false:=ah
def Gv:cA P 22=D 1:=ah
def Ka(l i n:Nat)(cap:Option Nat)(k:Int):cl P 22 (.aD l i n 3 cap) (.int .i64 k)=if 3=3/\0<=k/\k<n then D (.ptr l (i+k.toNat) 0)else none:=ah
def CA{l i n:Nat}{cap:Option Nat}{k:Int}(a:0<=k)(c:k<n):cl P 22 (.aD l i n 3 cap) (.int .i64 k)=D (.ptr l (i+k.toNat) 0):=by rw[Ka,if_pos ⟨rfl,a,c⟩]
def rN{H:ae}{l i n e:Nat}{cap:Option Nat}:cg P H .len [22] [.aD l i n e cap]=D (.int .i64 n):=ah
def tB{H:ae}:cg P H .len [22] [.az]=D (.int .i64 0):=ah
def FX:dZ P 23=D false:=ah
def Gw:cA P 23=D 1:=ah
def Kb(l i n:Nat)(cap:Option Nat)(k:Int):cl P 23 (.aD l i n 4 cap) (.int .i64 k)=if 4=4/\0<=k/\k<n then D (.ptr l (i+k.toNat) 0)else none:=ah
def CB{l i n:Nat}{cap:Option Nat}{k:Int}(a:0<=k)(c:k<n):cl P 23 (.aD l i n 4 cap) (.int .i64 k)=D (.ptr l (i+k.toNat) 0):=by rw[Kb,if_pos ⟨rfl,a,c⟩]
def rO{H:ae}{l i n e:Nat}{cap:Option Nat}:cg P H .len [23] [.aD l i n e cap]=D (.int .i64 n):=ah
def tC{H:ae}:cg P H .len [23] [.az]=D (.int .i64 0):=ah
def FY:dZ P 24=D false:=ah
def Gx:cA P 24=D 1:=ah
def Kc(l i n:Nat)(cap:Option Nat)(k:Int):cl P 24 (.aD l i n 7 cap) (.int .i64 k)=if 7=7/\0<=k/\k<n then D (.ptr l (i+k.toNat) 0)else none:=ah
def CC{l i n:Nat}{cap:Option Nat}{k:Int}(a:0<=k)(c:k<n):cl P 24 (.aD l i n 7 cap) (.int .i64 k)=D (.ptr l (i+k.toNat) 0):=by rw[Kc,if_pos ⟨rfl,a,c⟩]
def rP{H:ae}{l i n e:Nat}{cap:Option Nat}:cg P H .len [24] [.aD l i n e cap]=D (.int .i64 n):=ah
def tD{H:ae}:cg P H .len [24] [.az]=D (.int .i64 0):=ah
def FZ:dZ P 26=D true:=ah
def Gy:cA P 26=D 3:=ah
def AG(l i c:Nat):aH P 26 (.ptr l i c) 0=D (.ptr l i (c+0)):=ah
def BJ(a0 aQ a2:ad):cN P 26 (.agg [a0,aQ,a2]) 0=D a0:=ah
def AH(l i c:Nat):aH P 26 (.ptr l i c) 1=D (.ptr l i (c+1)):=ah
def BK(a0 aQ a2:ad):cN P 26 (.agg [a0,aQ,a2]) 1=D aQ:=ah
def AI(l i c:Nat):aH P 26 (.ptr l i c) 2=D (.ptr l i (c+2)):=ah
def BL(a0 aQ a2:ad):cN P 26 (.agg [a0,aQ,a2]) 2=D a2:=ah
def F0:dZ P 27=D false:=ah
def Gz:cA P 27=D 1:=ah
def F1:dZ P 29=D true:=ah
def GA:cA P 29=D 2:=ah
def AJ(l i c:Nat):aH P 29 (.ptr l i c) 0=D (.ptr l i (c+0)):=ah
def BM(a0 aQ:ad):cN P 29 (.agg [a0,aQ]) 0=D a0:=ah
def AK(l i c:Nat):aH P 29 (.ptr l i c) 1=D (.ptr l i (c+1)):=ah
def BN(a0 aQ:ad):cN P 29 (.agg [a0,aQ]) 1=D aQ:=ah
def F3:dZ P 36=D false:=ah
def GC:cA P 36=D 1:=ah
def Kd(l i n:Nat)(cap:Option Nat)(k:Int):cl P 36 (.aD l i n 4 cap) (.int .i64 k)=if 4=4/\0<=k/\k<n then D (.ptr l (i+k.toNat) 0)else none:=ah
def wM{l i n:Nat}{cap:Option Nat}{k:Int}(a:0<=k)(c:k<n):cl P 36 (.aD l i n 4 cap) (.int .i64 k)=D (.ptr l (i+k.toNat) 0):=by rw[Kd,if_pos ⟨rfl,a,c⟩]
def tE{H:ae}{l i n e:Nat}{cap:Option Nat}:cg P H .len [36] [.aD l i n e cap]=D (.int .i64 n):=ah
def xc{H:ae}:cg P H .len [36] [.az]=D (.int .i64 0):=ah
def F5:dZ P 40=D true:=ah
def GF:cA P 40=D 2:=ah
def AL(l i c:Nat):aH P 40 (.ptr l i c) 0=D (.ptr l i (c+0)):=ah
def BO(a0 aQ:ad):cN P 40 (.agg [a0,aQ]) 0=D a0:=ah
def AM(l i c:Nat):aH P 40 (.ptr l i c) 1=D (.ptr l i (c+1)):=ah
def BP(a0 aQ:ad):cN P 40 (.agg [a0,aQ]) 1=D aQ:=ah
def F6:dZ P 41=D false:=ah
def GG:cA P 41=D 1:=ah
def Ke(l i n:Nat)(cap:Option Nat)(k:Int):cl P 41 (.aD l i n 11 cap) (.int .i64 k)=if 11=11/\0<=k/\k<n then D (.ptr l (i+k.toNat) 0)else none:=ah
def CE{l i n:Nat}{cap:Option Nat}{k:Int}(a:0<=k)(c:k<n):cl P 41 (.aD l i n 11 cap) (.int .i64 k)=D (.ptr l (i+k.toNat) 0):=by rw[Ke,if_pos ⟨rfl,a,c⟩]
def k4{H:ae}{l i n e:Nat}{cap:Option Nat}:cg P H .len [41] [.aD l i n e cap]=D (.int .i64 n):=ah
def p7{H:ae}:cg P H .len [41] [.az]=D (.int .i64 0):=ah
def F7:dZ P 43=D true:=ah
def GI:cA P 43=D 3:=ah
def AN(l i c:Nat):aH P 43 (.ptr l i c) 0=D (.ptr l i (c+0)):=ah
def BQ(a0 aQ a2:ad):cN P 43 (.agg [a0,aQ,a2]) 0=D a0:=ah
def AO(l i c:Nat):aH P 43 (.ptr l i c) 1=D (.ptr l i (c+1)):=ah
def BR(a0 aQ a2:ad):cN P 43 (.agg [a0,aQ,a2]) 1=D aQ:=ah
def AP(l i c:Nat):aH P 43 (.ptr l i c) 2=D (.ptr l i (c+2)):=ah
def BS(a0 aQ a2:ad):cN P 43 (.agg [a0,aQ,a2]) 2=D a2:=ah
def F8:dZ P 45=D true:=ah
def u3:cA P 45=D 11:=ah
def AQ(l i c:Nat):aH P 45 (.ptr l i c) 0=D (.ptr l i (c+0)):=ah
def BT(a0 aQ a2 a3 a4 a5 c d e a9 a:ad):cN P 45 (.agg [a0,aQ,a2,a3,a4,a5,c,d,e,a9,a]) 0=D a0:=ah
def AR(l i c:Nat):aH P 45 (.ptr l i c) 1=D (.ptr l i (c+1)):=ah
def BU(a0 aQ a2 a3 a4 a5 c d e a9 a:ad):cN P 45 (.agg [a0,aQ,a2,a3,a4,a5,c,d,e,a9,a]) 1=D aQ:=ah
def AS(l i c:Nat):aH P 45 (.ptr l i c) 2=D (.ptr l i (c+2)):=ah
def BV(a0 aQ a2 a3 a4 a5 c d e a9 a:ad):cN P 45 (.agg [a0,aQ,a2,a3,a4,a5,c,d,e,a9,a]) 2=D a2:=ah
def AT(l i c:Nat):aH P 45 (.ptr l i c) 3=D (.ptr l i (c+3)):=ah
def BW(a0 aQ a2 a3 a4 a5 c d e a9 a:ad):cN P 45 (.agg [a0,aQ,a2,a3,a4,a5,c,d,e,a9,a]) 3=D (.agg [a3,a4]):=ah
def AU(l i c:Nat):aH P 45 (.ptr l i c) 4=D (.ptr l i (c+5)):=ah
def BX(a0 aQ a2 a3 a4 a5 c d e a9 a:ad):cN P 45 (.agg [a0,aQ,a2,a3,a4,a5,c,d,e,a9,a]) 4=D a5:=ah
def AV(l i c:Nat):aH P 45 (.ptr l i c) 5=D (.ptr l i (c+6)):=ah
def BY(a0 aQ a2 a3 a4 a5 a d e a9 c:ad):cN P 45 (.agg [a0,aQ,a2,a3,a4,a5,a,d,e,a9,c]) 5=D a:=ah
def AW(l i c:Nat):aH P 45 (.ptr l i c) 6=D (.ptr l i (c+7)):=ah
def BZ(a0 aQ a2 a3 a4 a5 e a c a9 d:ad):cN P 45 (.agg [a0,aQ,a2,a3,a4,a5,e,a,c,a9,d]) 6=D (.agg [a,c,a9]):=ah
def AX(l i c:Nat):aH P 45 (.ptr l i c) 7=D (.ptr l i (c+10)):=ah
def B0(a0 aQ a2 a3 a4 a5 c d e a9 a:ad):cN P 45 (.agg [a0,aQ,a2,a3,a4,a5,c,d,e,a9,a]) 7=D a:=ah
def sF:dZ P 50=D false:=ah
def GJ:cA P 50=D 1:=ah
def Kf(l i n:Nat)(cap:Option Nat)(k:Int):cl P 50 (.aD l i n 1 cap) (.int .i64 k)=if 1=1/\0<=k/\k<n then D (.ptr l (i+k.toNat) 0)else none:=ah
def wN{l i n:Nat}{cap:Option Nat}{k:Int}(a:0<=k)(c:k<n):cl P 50 (.aD l i n 1 cap) (.int .i64 k)=D (.ptr l (i+k.toNat) 0):=by rw[Kf,if_pos ⟨rfl,a,c⟩]
def Dm{H:ae}{l i n e:Nat}{cap:Option Nat}:cg P H .len [50] [.aD l i n e cap]=D (.int .i64 n):=ah
def Dn{H:ae}:cg P H .len [50] [.az]=D (.int .i64 0):=ah
def sG:dZ P 51=D false:=ah
def GK:cA P 51=D 1:=ah
def Kg(l i n:Nat)(cap:Option Nat)(k:Int):cl P 51 (.aD l i n 1 cap) (.int .i64 k)=if 1=1/\0<=k/\k<n then D (.ptr l (i+k.toNat) 0)else none:=ah
def wO{l i n:Nat}{cap:Option Nat}{k:Int}(a:0<=k)(c:k<n):cl P 51 (.aD l i n 1 cap) (.int .i64 k)=D (.ptr l (i+k.toNat) 0):=by rw[Kg,if_pos ⟨rfl,a,c⟩]
def Dp{H:ae}{l i n e:Nat}{cap:Option Nat}:cg P H .len [51] [.aD l i n e cap]=D (.int .i64 n):=ah
def Dq{H:ae}:cg P H .len [51] [.az]=D (.int .i64 0):=ah
def pP(l i c:Nat):aH P 59 (.ptr l i c) 0=D (.ptr l i (c+0)):=ah
def B1(a0 aQ a2 a3 a4:ad):cN P 59 (.agg [a0,aQ,a2,a3,a4]) 0=D a0:=ah
def pQ(l i c:Nat):aH P 59 (.ptr l i c) 1=D (.ptr l i (c+1)):=ah
def B2(a0 aQ a2 a3 a4:ad):cN P 59 (.agg [a0,aQ,a2,a3,a4]) 1=D aQ:=ah
def AY(l i c:Nat):aH P 59 (.ptr l i c) 2=D (.ptr l i (c+2)):=ah
def B3(a0 aQ a2 a3 a4:ad):cN P 59 (.agg [a0,aQ,a2,a3,a4]) 2=D a2:=ah
def AZ(l i c:Nat):aH P 59 (.ptr l i c) 3=D (.ptr l i (c+3)):=ah
def B4(a0 aQ a2 a3 a4:ad):cN P 59 (.agg [a0,aQ,a2,a3,a4]) 3=D (.agg [a3,a4]):=ah
def F_:dZ P 61=D true:=ah
def u4:cA P 61=D 4:=ah
def A0(l i c:Nat):aH P 61 (.ptr l i c) 0=D (.ptr l i (c+0)):=ah
def B5(a0 aQ a2 a3:ad):cN P 61 (.agg [a0,aQ,a2,a3]) 0=D a0:=ah
def A1(l i c:Nat):aH P 61 (.ptr l i c) 1=D (.ptr l i (c+1)):=ah
def B6(a0 aQ a2 a3:ad):cN P 61 (.agg [a0,aQ,a2,a3]) 1=D aQ:=ah
def A2(l i c:Nat):aH P 61 (.ptr l i c) 2=D (.ptr l i (c+2)):=ah
def B7(a0 aQ a2 a3:ad):cN P 61 (.agg [a0,aQ,a2,a3]) 2=D a2:=ah
def A3(l i c:Nat):aH P 61 (.ptr l i c) 3=D (.ptr l i (c+3)):=ah
def B8(a0 aQ a2 a3:ad):cN P 61 (.agg [a0,aQ,a2,a3]) 3=D a3:=ah
def Ga:dZ P 65=D true:=ah
def ym:cA P 65=D 3:=ah
def A4(l i c:Nat):aH P 65 (.ptr l i c) 0=D (.ptr l i (c+0)):=ah
def B9(a0 aQ a2:ad):cN P 65 (.agg [a0,aQ,a2]) 0=D a0:=ah
def A5(l i c:Nat):aH P 65 (.ptr l i c) 1=D (.ptr l i (c+1)):=ah
def B_(a0 aQ a2:ad):cN P 65 (.agg [a0,aQ,a2]) 1=D aQ:=ah
def A6(l i c:Nat):aH P 65 (.ptr l i c) 2=D (.ptr l i (c+2)):=ah
def Ca(a0 aQ a2:ad):cN P 65 (.agg [a0,aQ,a2]) 2=D a2:=ah
def Gb:dZ P 68=D true:=ah
def yn:cA P 68=D 4:=ah
def A7(l i c:Nat):aH P 68 (.ptr l i c) 0=D (.ptr l i (c+0)):=ah
def Cb(a0 aQ a2 a3:ad):cN P 68 (.agg [a0,aQ,a2,a3]) 0=D a0:=ah
def A8(l i c:Nat):aH P 68 (.ptr l i c) 1=D (.ptr l i (c+1)):=ah
def Cc(a0 aQ a2 a3:ad):cN P 68 (.agg [a0,aQ,a2,a3]) 1=D (.agg [aQ,a2]):=ah
def A9(l i c:Nat):aH P 68 (.ptr l i c) 2=D (.ptr l i (c+3)):=ah
def Cd(a0 aQ a2 a3:ad):cN P 68 (.agg [a0,aQ,a2,a3]) 2=D a3:=ah
def yb:dZ P 71=D false:=ah
def sH:cA P 71=D 1:=ah
def Kh(l i n:Nat)(cap:Option Nat)(k:Int):cl P 71 (.aD l i n 9 cap) (.int .i64 k)=if 9=9/\0<=k/\k<n then D (.ptr l (i+k.toNat) 0)else none:=ah
def CF{l i n:Nat}{cap:Option Nat}{k:Int}(a:0<=k)(c:k<n):cl P 71 (.aD l i n 9 cap) (.int .i64 k)=D (.ptr l (i+k.toNat) 0):=by rw[Kh,if_pos ⟨rfl,a,c⟩]
def tF{H:ae}{l i n e:Nat}{cap:Option Nat}:cg P H .len [71] [.aD l i n e cap]=D (.int .i64 n):=ah
def xd{H:ae}:cg P H .len [71] [.az]=D (.int .i64 0):=ah
def Gc:dZ P 73=D true:=ah
def yo:cA P 73=D 7:=ah
def A_(l i c:Nat):aH P 73 (.ptr l i c) 0=D (.ptr l i (c+0)):=ah
def Ce(a0 aQ a2 a3 a4 a5 a:ad):cN P 73 (.agg [a0,aQ,a2,a3,a4,a5,a]) 0=D a0:=ah
def Ba(l i c:Nat):aH P 73 (.ptr l i c) 1=D (.ptr l i (c+1)):=ah
def Cf(a0 aQ a2 a3 a4 a5 a:ad):cN P 73 (.agg [a0,aQ,a2,a3,a4,a5,a]) 1=D aQ:=ah
def Bb(l i c:Nat):aH P 73 (.ptr l i c) 2=D (.ptr l i (c+2)):=ah
def Cg(a0 aQ a2 a3 a4 a5 a:ad):cN P 73 (.agg [a0,aQ,a2,a3,a4,a5,a]) 2=D a2:=ah
def Bc(l i c:Nat):aH P 73 (.ptr l i c) 3=D (.ptr l i (c+3)):=ah
def Ch(a0 aQ a2 a3 a4 a5 a:ad):cN P 73 (.agg [a0,aQ,a2,a3,a4,a5,a]) 3=D (.agg [a3,a4]):=ah
def Bd(l i c:Nat):aH P 73 (.ptr l i c) 4=D (.ptr l i (c+5)):=ah
def Ci(a0 aQ a2 a3 a4 a5 a:ad):cN P 73 (.agg [a0,aQ,a2,a3,a4,a5,a]) 4=D a5:=ah
def Be(l i c:Nat):aH P 73 (.ptr l i c) 5=D (.ptr l i (c+6)):=ah
def Cj(a0 aQ a2 a3 a4 a5 a:ad):cN P 73 (.agg [a0,aQ,a2,a3,a4,a5,a]) 5=D a:=ah
def Gd:dZ P 75=D false:=ah
def GL:cA P 75=D 1:=ah
def Ge:dZ P 76=D false:=ah
def GM:cA P 76=D 1:=ah
def Gf:dZ P 77=D false:=ah
def GN:cA P 77=D 1:=ah
def Ki(l i n:Nat)(cap:Option Nat)(k:Int):cl P 77 (.aD l i n 1 cap) (.int .i64 k)=if 1=1/\0<=k/\k<n then D (.ptr l (i+k.toNat) 0)else none:=ah
def CG{l i n:Nat}{cap:Option Nat}{k:Int}(a:0<=k)(c:k<n):cl P 77 (.aD l i n 1 cap) (.int .i64 k)=D (.ptr l (i+k.toNat) 0):=by rw[Ki,if_pos ⟨rfl,a,c⟩]
def Dr{H:ae}{l i n e:Nat}{cap:Option Nat}:cg P H .len [77] [.aD l i n e cap]=D (.int .i64 n):=ah
def Ds{H:ae}:cg P H .len [77] [.az]=D (.int .i64 0):=ah
def Gg:dZ P 79=D true:=ah
def GO:cA P 79=D 2:=ah
def Bf(l i c:Nat):aH P 79 (.ptr l i c) 0=D (.ptr l i (c+0)):=ah
def Ck(a0 aQ:ad):cN P 79 (.agg [a0,aQ]) 0=D a0:=ah
def Bg(l i c:Nat):aH P 79 (.ptr l i c) 1=D (.ptr l i (c+1)):=ah
def Cl(a0 aQ:ad):cN P 79 (.agg [a0,aQ]) 1=D aQ:=ah
def Gh:dZ P 81=D true:=ah
def GP:cA P 81=D 2:=ah
def Bh(l i c:Nat):aH P 81 (.ptr l i c) 0=D (.ptr l i (c+0)):=ah
def Cm(a0 aQ:ad):cN P 81 (.agg [a0,aQ]) 0=D (.agg [a0,aQ]):=ah
def ya:dZ P 112=D true:=ah
def qP:cA P 112=D 9:=ah
def Aw(l i c:Nat):aH P 112 (.ptr l i c) 0=D (.ptr l i (c+0)):=ah
def BA(a0 aQ a2 a3 a4 a5 a c d:ad):cN P 112 (.agg [a0,aQ,a2,a3,a4,a5,a,c,d]) 0=D a0:=ah
def Ax(l i c:Nat):aH P 112 (.ptr l i c) 1=D (.ptr l i (c+1)):=ah
def BB(a0 aQ a2 a3 a4 a5 a c d:ad):cN P 112 (.agg [a0,aQ,a2,a3,a4,a5,a,c,d]) 1=D aQ:=ah
def Ay(l i c:Nat):aH P 112 (.ptr l i c) 2=D (.ptr l i (c+2)):=ah
def BD(a0 aQ a2 a3 a4 a5 a c d:ad):cN P 112 (.agg [a0,aQ,a2,a3,a4,a5,a,c,d]) 2=D (.agg [a2,a3]):=ah
def Az(l i c:Nat):aH P 112 (.ptr l i c) 3=D (.ptr l i (c+4)):=ah
def BE(a0 aQ a2 a3 a4 a5 a c d:ad):cN P 112 (.agg [a0,aQ,a2,a3,a4,a5,a,c,d]) 3=D a4:=ah
def AA(l i c:Nat):aH P 112 (.ptr l i c) 4=D (.ptr l i (c+5)):=ah
def BF(a0 aQ a2 a3 a4 a5 a c d:ad):cN P 112 (.agg [a0,aQ,a2,a3,a4,a5,a,c,d]) 4=D a5:=ah
def AD(l i c:Nat):aH P 112 (.ptr l i c) 5=D (.ptr l i (c+6)):=ah
def BG(a0 aQ a2 a3 a4 a5 a c d:ad):cN P 112 (.agg [a0,aQ,a2,a3,a4,a5,a,c,d]) 5=D a:=ah
def AE(l i c:Nat):aH P 112 (.ptr l i c) 6=D (.ptr l i (c+7)):=ah
def BH(a0 aQ a2 a3 a4 a5 c a d:ad):cN P 112 (.agg [a0,aQ,a2,a3,a4,a5,c,a,d]) 6=D a:=ah
def AF(l i c:Nat):aH P 112 (.ptr l i c) 7=D (.ptr l i (c+8)):=ah
def BI(a0 aQ a2 a3 a4 a5 c d a:ad):cN P 112 (.agg [a0,aQ,a2,a3,a4,a5,c,d,a]) 7=D a:=ah
def FU:dZ P 131=D false:=ah
def Gt:cA P 131=D 1:=ah
def J9(l i n:Nat)(cap:Option Nat)(k:Int):cl P 131 (.aD l i n 1 cap) (.int .i64 k)=if 1=1/\0<=k/\k<n then D (.ptr l (i+k.toNat) 0)else none:=ah
def wK{l i n:Nat}{cap:Option Nat}{k:Int}(a:0<=k)(c:k<n):cl P 131 (.aD l i n 1 cap) (.int .i64 k)=D (.ptr l (i+k.toNat) 0):=by rw[J9,if_pos ⟨rfl,a,c⟩]
def Di{H:ae}{l i n e:Nat}{cap:Option Nat}:cg P H .len [131] [.aD l i n e cap]=D (.int .i64 n):=ah
def Dj{H:ae}:cg P H .len [131] [.az]=D (.int .i64 0):=ah
def FV:dZ P 132=D false:=ah
def Gu:cA P 132=D 1:=ah
def J_(l i n:Nat)(cap:Option Nat)(k:Int):cl P 132 (.aD l i n 1 cap) (.int .i64 k)=if 1=1/\0<=k/\k<n then D (.ptr l (i+k.toNat) 0)else none:=ah
def wL{l i n:Nat}{cap:Option Nat}{k:Int}(a:0<=k)(c:k<n):cl P 132 (.aD l i n 1 cap) (.int .i64 k)=D (.ptr l (i+k.toNat) 0):=by rw[J_,if_pos ⟨rfl,a,c⟩]
def Dk{H:ae}{l i n e:Nat}{cap:Option Nat}:cg P H .len [132] [.aD l i n e cap]=D (.int .i64 n):=ah
def Dl{H:ae}:cg P H .len [132] [.az]=D (.int .i64 0):=ah
def zI:cC P 59 [(0,ad.az)]=D (.agg [ad.az,.int .i64 0,.int .i64 0,.int .i64 0,.int .i64 0]):=ah
def zJ(e:Nat)(d:Nat)(h:Nat)(c:Nat)(a:Option Nat):cC P 59 [(0,(.aD e d h c a))]=D (.agg [.aD e d h c a,.int .i64 0,.int .i64 0,.int .i64 0,.int .i64 0]):=ah
def zp(a0:List UInt8)(aQ:Int):cC P 40 [(0,(.str a0)),(1,(.int .i64 aQ))]=D (.agg [.str a0,.int .i64 aQ]):=ah
def zm(a0:Int):cC P 29 [(0,(.int .i64 a0))]=D (.agg [.int .i64 a0,.int .i64 0]):=ah
def zn(a0:Int)(aQ:Int):cC P 29 [(0,(.int .i64 a0)),(1,(.int .i64 aQ))]=D (.agg [.int .i64 a0,.int .i64 aQ]):=ah
def zN(a0:Int)(a3:Int):cC P 61 [(0,(.int .i64 a0)),(3,(.int .i64 a3))]=D (.agg [.int .i64 a0,.str [],.int .i64 0,.int .i64 a3]):=ah
def zE(aQ:Int)(a2:Int):cC P 59 [(0,ad.az),(1,(.int .i64 aQ)),(2,(.int .i64 a2))]=D (.agg [ad.az,.int .i64 aQ,.int .i64 a2,.int .i64 0,.int .i64 0]):=ah
def zF(e:Nat)(d:Nat)(h:Nat)(c:Nat)(a:Option Nat)(aQ:Int)(a2:Int):cC P 59 [(0,(.aD e d h c a)),(1,(.int .i64 aQ)),(2,(.int .i64 a2))]=D (.agg [.aD e d h c a,.int .i64 aQ,.int .i64 a2,.int .i64 0,.int .i64 0]):=ah
def zG(aQ:Int):cC P 59 [(0,ad.az),(1,(.int .i64 aQ))]=D (.agg [ad.az,.int .i64 aQ,.int .i64 0,.int .i64 0,.int .i64 0]):=ah
def zH(e:Nat)(d:Nat)(h:Nat)(c:Nat)(a:Option Nat)(aQ:Int):cC P 59 [(0,(.aD e d h c a)),(1,(.int .i64 aQ))]=D (.agg [.aD e d h c a,.int .i64 aQ,.int .i64 0,.int .i64 0,.int .i64 0]):=ah
def zK(a0:Int):cC P 61 [(0,(.int .i64 a0))]=D (.agg [.int .i64 a0,.str [],.int .i64 0,.int .i64 0]):=ah
def zO(a2:Int):cC P 65 [(2,(.int .i64 a2))]=D (.agg [.str [],ad.az,.int .i64 a2]):=ah
def zP(a2:Int):cC P 68 [(2,(.int .i64 a2))]=D (.agg [.str [],.str [],.int .i64 0,.int .i64 a2]):=ah
def zQ(a5:Int):cC P 73 [(5,(.int .i64 a5))]=D (.agg [.str [],ad.az,.bool U,.str [],.int .i64 0,ad.az,.int .i64 a5]):=ah
def zL(a0:Int)(aQ:List UInt8)(a3:Int):cC P 61 [(0,(.int .i64 a0)),(1,(.str aQ)),(3,(.int .i64 a3))]=D (.agg [.int .i64 a0,.str aQ,.int .i64 0,.int .i64 a3]):=ah
def zM(a0:Int)(a2:Int)(a3:Int):cC P 61 [(0,(.int .i64 a0)),(2,(.int .i64 a2)),(3,(.int .i64 a3))]=D (.agg [.int .i64 a0,.str [],.int .i64 a2,.int .i64 a3]):=ah
def zy(a0:Int)(a5:Int):cC P 45 [(0,(.int .i64 a0)),(4,ad.az),(5,(.int .i64 a5))]=D (.agg [.int .i64 a0,.int .i64 0,.str [],.str [],.int .i64 0,ad.az,.int .i64 a5,.int .i64 0,.int .i64 0,.int .i64 0,.int .i64 0]):=ah
def zz(a0:Int)(e:Nat)(d:Nat)(h:Nat)(c:Nat)(a:Option Nat)(a5:Int):cC P 45 [(0,(.int .i64 a0)),(4,(.aD e d h c a)),(5,(.int .i64 a5))]=D (.agg [.int .i64 a0,.int .i64 0,.str [],.str [],.int .i64 0,.aD e d h c a,.int .i64 a5,.int .i64 0,.int .i64 0,.int .i64 0,.int .i64 0]):=ah
def zq(aQ:Int):cC P 40 [(1,(.int .i64 aQ))]=D (.agg [.str [],.int .i64 aQ]):=ah
def zl(a:Int):cC P 112 [(6,(.int .i64 a))]=D (.agg [.int .i64 0,.str [],.str [],.int .i64 0,ad.az,ad.az,ad.az,.int .i64 a,.int .i64 0]):=ah
def zs(a0:Int)(a2:List UInt8)(a5:Int):cC P 45 [(0,(.int .i64 a0)),(2,(.str a2)),(4,ad.az),(5,(.int .i64 a5))]=D (.agg [.int .i64 a0,.int .i64 0,.str a2,.str [],.int .i64 0,ad.az,.int .i64 a5,.int .i64 0,.int .i64 0,.int .i64 0,.int .i64 0]):=ah
def zt(a0:Int)(a2:List UInt8)(e:Nat)(d:Nat)(h:Nat)(c:Nat)(a:Option Nat)(a5:Int):cC P 45 [(0,(.int .i64 a0)),(2,(.str a2)),(4,(.aD e d h c a)),(5,(.int .i64 a5))]=D (.agg [.int .i64 a0,.int .i64 0,.str a2,.str [],.int .i64 0,.aD e d h c a,.int .i64 a5,.int .i64 0,.int .i64 0,.int .i64 0,.int .i64 0]):=ah
def zr(a0:Int)(aQ:Int)(a5:Int):cC P 45 [(0,(.int .i64 a0)),(1,(.int .i64 aQ)),(5,(.int .i64 a5))]=D (.agg [.int .i64 a0,.int .i64 aQ,.str [],.str [],.int .i64 0,ad.az,.int .i64 a5,.int .i64 0,.int .i64 0,.int .i64 0,.int .i64 0]):=ah
def zx(a0:Int)(a:List UInt8)(c:Int)(a5:Int):cC P 45 [(0,(.int .i64 a0)),(3,(.agg [.str a,.int .i64 c])),(5,(.int .i64 a5))]=D (.agg [.int .i64 a0,.int .i64 0,.str [],.str a,.int .i64 c,ad.az,.int .i64 a5,.int .i64 0,.int .i64 0,.int .i64 0,.int .i64 0]):=ah
def zB(a0:Int)(a5:Int):cC P 45 [(0,(.int .i64 a0)),(5,(.int .i64 a5))]=D (.agg [.int .i64 a0,.int .i64 0,.str [],.str [],.int .i64 0,ad.az,.int .i64 a5,.int .i64 0,.int .i64 0,.int .i64 0,.int .i64 0]):=ah
def zu(a0:Int)(a2:List UInt8)(a5:Int):cC P 45 [(0,(.int .i64 a0)),(2,(.str a2)),(5,(.int .i64 a5))]=D (.agg [.int .i64 a0,.int .i64 0,.str a2,.str [],.int .i64 0,ad.az,.int .i64 a5,.int .i64 0,.int .i64 0,.int .i64 0,.int .i64 0]):=ah
def zo(a0:List UInt8):cC P 40 [(0,(.str a0))]=D (.agg [.str a0,.int .i64 0]):=ah
def zv(a0:Int)(a:List UInt8)(c:Int)(a5:Int):cC P 45 [(0,(.int .i64 a0)),(3,(.agg [.str a,.int .i64 c])),(4,ad.az),(5,(.int .i64 a5))]=D (.agg [.int .i64 a0,.int .i64 0,.str [],.str a,.int .i64 c,ad.az,.int .i64 a5,.int .i64 0,.int .i64 0,.int .i64 0,.int .i64 0]):=ah
def zw(a0:Int)(a:List UInt8)(c:Int)(i:Nat)(h:Nat)(j:Nat)(e:Nat)(d:Option Nat)(a5:Int):cC P 45 [(0,(.int .i64 a0)),(3,(.agg [.str a,.int .i64 c])),(4,(.aD i h j e d)),(5,(.int .i64 a5))]=D (.agg [.int .i64 a0,.int .i64 0,.str [],.str a,.int .i64 c,.aD i h j e d,.int .i64 a5,.int .i64 0,.int .i64 0,.int .i64 0,.int .i64 0]):=ah
end Go.Proofs.YtghmbpmaafnodaaDoor
namespace Go.cn
open Go.ChangeShapes Go.WideShapes Go.ChangeAt Go.RowKit
def yN(E:Env)(P:Program)(f:Nat)(args:List Value)(W:World):Prop:=∃(ρ:Env) (H:ae) (a:List ad) (H':ae),Rel ρ H W/\(∀l,¬H.rw l)/\(∀l,H.next<=l->ρ l=Z)/\E.le ρ/\H.next<=H'.next/\bB ρ a args/\i_ E P f a H (.bool X) H'
def KA{E:Env}{P:Program}{f:Nat}{fn:Func}{c:Code}{args:List Value}{W:World}(w:n3 P)(m:P.funcs[f]? =D fn)(y:fn.body=D c)(h:yN E P f args W):
  Calls P f args.toArray W λe a=>e= .returned (.bool X)/\Below W.heap.size W a:=by
 obtain⟨ρ,H,L,H',n,o,p,v,q,s,u⟩:=h;have F:∀b,¬iF ρ H b:=by rintro b ⟨l,loc,j,_⟩;exact o l j
 have i:=u ρ W args n ⟨λl j _=>p l j,v⟩ s q (λx a=>x= .bool X/\Below W.heap.size W a) (λx a M K aB=>by
  cases K;exact⟨rfl,aB.os,aB.tape,aB.output,aB.size,λk A=>aB.frame k A (F k)⟩)
 have B:(fn.name== "runtime.NumGoroutine")=false:=w.names fn (Array.mem_of_getElem? m);have G:(callFunc f args.toArray).run P W= .ok (.enter f args.toArray) W:=by
  unfold callFunc;simp[m,y];intro z;simp[z]at B
 unfold mE at i;rw[G]at i;simp only at i;refine i.mono λe a d=> ?_
 split at d
 ·exact⟨by rw[d.1],d.2⟩
 ·exact d.elim
def Gs{H:Type}{enc:TypeId×Value->H}{P:Program}{W j:World}(n:laidOutB P=X)(l:Below W.heap.size W j):∀{ts:List TypeId} {c:List Value} {a:List (DataW H)} {i:List MemPlace},(∀t∈ts,P.readableRec t=X/\t<P.types.size)->
  DataW.TrodAll enc P W 0 (λ_=>X) X ts c a i->∃o,DataW.TrodAll enc P j 0 (λb=>decide (b<W.heap.size)) X ts c a o
 |[],c,a,i,_,h=>by
  obtain⟨rfl,rfl,rfl⟩:=trodAll_nil h;exact⟨[],trodAll_mk0⟩
 |t::ts,c,a,i,e,h=>by
  obtain⟨v,A,d,z,p,q,rfl,rfl,rfl,k,s⟩:=trodAll_cons h;obtain⟨o,u⟩:=Gs n l (λt y=>e t (List.mem_cons_of_mem _ y)) s;have w:∀x∈p,x.block<W.heap.size:=by obtain⟨m,hm⟩:=k;exact DataW.trod_lt m _ _ _ hm
  exact⟨_,trodAll_cons_mk (Below.trod n (e t (List.mem_cons_self ..)).1 (e t (List.mem_cons_self ..)).2 k l w) u⟩
structure Seen(ρ:Env)(H:ae)(W:World):Prop where
 rel:Rel ρ H W
 ro:∀l,¬H.rw l
 top:∀l,H.next<=l->ρ l=none
def Seen.empty(W:World):Seen (λ_=>Z) ae.empty W:=
 have c:∀l,¬ae.empty.rw l:=λl a=>by
  rcases a with⟨e,s,h⟩|⟨es,h⟩|⟨t,e,s,h⟩<;>rw[ae.rn]at h<;>cases h
 ⟨LP W,c,λ_ _=>rfl⟩
def Seen.rH{ρ:Env}{H:ae}{W:World}(h:Seen ρ H W)(loc:Go.cn.Loc):ρ.le (ρ.ey H.next loc):=λl a e=>by
 have:l≠H.next:=by rintro rfl;rw[h.top _ (bm _)]at e;cases e
 simp only[Env.ey,if_neg this];exact e
def fy.mono{ρ d:Env}(hle:ρ.le d){w:World}{loc:Go.cn.Loc}{ro:Bool}{esz:Nat}{els:List (List ad)}(h:fy ρ w loc ro esz els):fy d w loc ro esz els:=by
 obtain⟨l,c,t,k,m,n,a⟩:=h;refine⟨l,c,t,k,m,n,λi e he=>⟨(a i e he).1,λj v o=> ?_⟩⟩;obtain⟨aT,x,p,q⟩:=(a i e he).2 j v o;exact⟨aT,x,p,q.mono hle⟩
def Seen.push{ρ:Env}{H:ae}{W:World}(h:Seen ρ H W){loc:Go.cn.Loc}{esz:Nat}{els:List (List ad)}(k:fy ρ W loc X esz els):Seen (ρ.ey H.next loc) (H.push (.row X esz els)) W:=by
 have hle:=h.rH loc;have d:∀l,¬(H.push (.row X esz els)).rw l:=by
  rintro l (⟨e,s,a⟩|⟨es,a⟩|⟨t,e,s,a⟩)
  ·rw[ae.rB]at a;split at a
   ·cases a
   ·exact h.ro l (.inl ⟨e,s,a⟩)
  ·rw[ae.rB]at a;split at a
   ·cases a
   ·exact h.ro l (.inr (.inl ⟨es,a⟩))
  ·rw[ae.rB]at a;split at a
   ·cases a
   ·exact h.ro l (.inr (.inr ⟨t,e,s,a⟩))
 refine⟨⟨λl ro e s a=> ?_,λl es a=> ?_,λl t e s a=>absurd (.inr (.inr ⟨t,e,s,a⟩)) (d l),λl l' _ _ c=>absurd c (d l)⟩,d,λl c=> ?_⟩
 ·rw[ae.rB]at a;split at a
  ·rename_i c;cases a;exact⟨loc,by simp[Env.ey,c],k.mono hle⟩
  ·obtain⟨m,i,j⟩:=h.rel.row l ro e s a;exact⟨m,hle _ _ i,j.mono hle⟩
 ·exact absurd (.inr (.inl ⟨es,a⟩)) (d l)
 ·simp only[ae.b8]at c;have:l≠H.next:=af
  simp only[Env.ey,if_neg this];exact h.top l af
