/-
  Texts of one proof, laid together: Hv24 Base Hv25 Pk Tab Hv26.
-/
import Derived.Test.YtghmbpmaafnodaaDoorMD
import Derived.Test.YtghmbpmaafnodaaDoorProg
import Derived.KernelRfl
import Derived.Lib.ItoaNum
import Derived.Lib.Join
import Derived.Lib.Repeat
import Derived.Lib.Small
import Derived.ProofKit
import Derived.OpenShut
import Derived.ShutString
import Derived.ChangeOld
import Derived.Below
import Derived.Carry
set_option linter.unusedVariables false
set_option linter.unusedSimpArgs false
set_option linter.defProp false
open Option renaming some→D,none→Z
open Bool renaming true→X,false→U
namespace Go.b9
def W(m:O)(Q:aa->ad->Prop):Prop:=∃v H,m=D (v,H)/\Q v H
def a_{v:aa}{H:ad}{Q:aa->ad->Prop}:W (D (v,H)) Q↔Q v H:=by
 constructor
 ·rintro⟨a,H',h,q⟩;simp only[aS,bT]at h;obtain⟨rfl,rfl⟩:=h;exact q
 ·exactλq=>⟨v,H,rfl,q⟩
def W.mono{m:O}{Q a:aa->ad->Prop}(h:W m Q)(c:∀v H,Q v H->a v H):W m a:=by
 obtain⟨v,H,e,q⟩:=h;exact⟨v,H,e,c v H q⟩
def aL{r:O}{H:ad}{k:aa->ad->O}{Q a:aa->ad->Prop}(h:W r a)(i:∀v H',a v H'->H.next<=H'.next/\W (k v H') Q):W (aG H r k) Q:=by
 obtain⟨v,H',e,q⟩:=h;obtain⟨c,d⟩:=i v H' q;rw[e];simp only[aG,decide_eq_true c,aU];exact d
def jw{r:O}{H:ad}{q:K->O}{Q a:aa->ad->Prop}(h:W r a)(i:∀v H',a v H'->H.next<=H'.next/\W (q (.dM v H')) Q):W (eX H r q) Q:=by
 obtain⟨v,H',e,j⟩:=h;obtain⟨c,d⟩:=i v H' j;rw[e];simp only[eX,decide_eq_true c,aU];exact d
def lu{r:O}{H:ad}{x:aa}{k:aa->ad->O}{Q:aa->ad->Prop}(h:W r λv H'=>v=x/\H'=H)(a:W (k x H) Q):W (aG H r k) Q:=by
 refine aL h ?_;rintro _ H' ⟨rfl,e⟩;rw[e];exact⟨bf _,a⟩
def nZ{r:O}{H:ad}{x:aa}{q:K->O}{Q:aa->ad->Prop}(h:W r λv H'=>v=x/\H'=H)(a:W (q (.dM x H)) Q):W (eX H r q) Q:=by
 refine jw h ?_;rintro _ H' ⟨rfl,e⟩;rw[e];exact⟨bf _,a⟩
def cA{m m':O}{Q:aa->ad->Prop}(a:∀r,m=D r->m'=D r)(h:W m Q):W m' Q:=by
 obtain⟨v,H,e,q⟩:=h;exact⟨v,H,a _ e,q⟩
def gF:Nat:=0
def NR:Nat:=0
def Fx:gF=NR:=rfl
def px(v:aa)(H:ad)(k:aa->ad->O):O:=k v H
section
variable {r cg:Option aa}{o oE:O}{m m':Option (aa×bN)}{h aX:Option ad}{H H':ad}{a bR:aa}{b cj:Bool}{z:Nat}
 @[congr] theorem N7 {k:aa->ad->O} (e:a=bR) (d:H=H') (y:gF=z):px a H k=px bR H' k:=by rw[e,d]
def Fk(H:ad)(cs:List aa)(k:aa->ad->O):cp H cs k=px (.ptr H.next 0 0) (H.push (.row U cs.length [cs])) k:=rfl
def Ft(v:aa)(H:ad)(k:aa->ad->O):px v H k=k v H:=rfl
 @[congr] theorem N0 {k:aa->O} (e:r=cg) (y:gF=z):j r k=j cg k:=by rw[e]
 @[congr] theorem N2 {k:aa->ad->O} (d:H=H') (e:o=oE) (y:gF=z):aG H o k=aG H' oE k:=by rw[d,e]
 @[congr] theorem N3 {k:K->O} (d:H=H') (e:o=oE) (y:gF=z):eX H o k=eX H' oE k:=by rw[d,e]
 @[congr] theorem Oa {k:ad->O} (d:H=H') (e:h=aX) (y:gF=z):a8 H h k=a8 H' aX k:=by rw[d,e]
 @[congr] theorem N8 {k:aa->ad->O} (d:H=H') (e:m=m') (y:gF=z):bV H m k=bV H' m' k:=by rw[d,e]
 @[congr] theorem N9 {k:K->O} (e:m=m') (y:gF=z):tg m k=tg m' k:=by rw[e]
 @[congr] theorem N6 {p q:O} (e:r=cg) (y:gF=z):aV r p q=aV cg p q:=by rw[e]
 @[congr] theorem NS {p q:O} (e:b=cj) (y:gF=z):cond b p q=cond cj p q:=by rw[e]
 @[congr] theorem N4 {w:Bool} {f:(K->O)->O} {k:aa->ad->O} (e:a=bR) (y:gF=z):aP a w H f k=aP bR w H f k:=by rw[e]
 @[congr] theorem N5 {w:Bool} {f:(K->O)->O} {k:K->O} (e:a=bR) (y:gF=z):pw a w f k=pw bR w f k:=by rw[e]
 @[congr] theorem N1 {s s':Option aa} {k:K->O} (e:r=cg) (d:s=s') (y:gF=z):gW r s k=gW cg s' k:=by rw[d,e]
 @[congr] theorem NV {q:K->O} (e:r=cg) (y:gF=z):bF r q=bF cg q:=by rw[e]
 @[congr] theorem NW {q:K->O} (e:r=cg) (y:gF=z):qr r q=qr cg q:=by rw[e]
 @[congr] theorem NX {q:K->O} (e:a=bR) (y:gF=z):cm a q=cm bR q:=by rw[e]
def CR(v:aa)(q:K->O):bF (D v) q=q (.pure v):=rfl
def CS(v:aa)(q:K->O):qr (D v) q=q (.read v):=rfl
def CW(v:aa)(q:K->O):cm v q=q (.pure v):=rfl
end
def C0(k:IntKind)(n:Int):bg (D (.int k n)) (.int k n)=true:=by simp[bg,aa.beq]
def C2(x:List UInt8):bg (D (.str x)) (.str x)=true:=by simp[bg,aa.beq]
def CZ(x:Bool):bg (D (.bool x)) (.bool x)=true:=by simp[bg,aa.beq]
def kT(l i n e:Nat)(c:Option Nat):bg (D (.ay l i n e c)) (.ay l i n e c)=true:=by simp[bg,aa.beq]
def vH:bg (D .ar) .ar=true:=rfl
def C1(x:List UInt8)(k:IntKind)(n:Int):bg (D (.agg [.str x,.int k n])) (.agg [.str x,.int k n])=true:=by simp[bg,aa.beq,gf.beq]
def ad.p6(H:ad)(b:bN)(l:Nat):(H.push b).get l=if l=H.next then D b else H.get l:=by
 split
 ·rename_i h;subst h;exact ad.bx H b
 ·rename_i h;exact ad.dp h
def bk.sh{α:Type}(x y:α):∀(p:List jW) (t:bk α),bk.dE y p (bk.dE x p t)=bk.dE y p t
 |[],.leaf=>rfl
 |[],.node .. =>rfl
 |d::p,.leaf=>by cases d<;>simp[bk.dE,bk.sh x y p]
 |d::p,.node .. =>by cases d<;>simp[bk.dE,bk.sh x y p]
def ad.JB(H:ad)(b c:bN):(H.push b).set H.next c=H.push c:=by
 simp only[ad.push,ad.set,bk.put,bk.sh]
def ad.set_set(H:ad)(l:Nat)(b c:bN):(H.set l b).set l c=H.set l c:=by
 simp only[ad.set,bk.put,bk.sh]
def ad.p7{H:ad}{b:bN}{l:Nat}(h:l<=H.next)(aX:H.next<=l):(H.push b).get l=D b:=by
 obtain rfl:l=H.next:=af
 exact ad.bx H b
def ad.CN{H:ad}{b c:bN}{l:Nat}(h:l<=H.next)(aX:H.next<=l):(H.push b).set l c=H.push c:=by
 obtain rfl:l=H.next:=af
 exact ad.JB H b c
def cX(S:Nat->Prop)(H H':ad):Prop:=H.next<=H'.next/\∀l,l<H.next->¬S l->H'.get l=H.get l
def aM(H H':ad):Prop:=H.next<=H'.next/\∀l,l<H.next->H'.get l=H.get l
def aM.refl(H:ad):aM H H:=⟨bf _,λ_ _=>rfl⟩
def aM.trans{H H1 a:ad}(h:aM H H1)(k:aM H1 a):aM H a:=⟨Nat.le_trans h.1 k.1,λl c=>(k.2 l (Nat.lt_of_lt_of_le c h.1)).trans (h.2 l c)⟩
def aM.push(H:ad)(b:bN):aM H (H.push b):=⟨by simp,λl a=>ad.dp af⟩
def aM.bs{H H1:ad}(h:aM H H1)(b:bN):aM H (H1.push b):=h.trans (aM.push H1 b)
def aM.cz{H H1:ad}(h:aM H H1){l:Nat}(c:H.next<=l)(b:bN):aM H (H1.set l b):=
 ⟨h.1,λj a=>by rw[ad.get_set_other af];exact h.2 j a⟩
def aM.get{H H':ad}(h:aM H H'){l:Nat}{b:bN}(a:H.get l=D b):H'.get l=D b:=by rw[h.2 l (ad.aR a)];exact a
def aM.mut{H H':ad}(h:aM H H')(S:Nat->Prop):cX S H H':=⟨h.1,λl a _=>h.2 l a⟩
def cX.refl(S:Nat->Prop)(H:ad):cX S H H:=(aM.refl H).mut S
def cX.trans{S:Nat->Prop}{H H1 a:ad}(h:cX S H H1)(k:cX S H1 a):cX S H a:=⟨Nat.le_trans h.1 k.1,λl c az=>(k.2 l (Nat.lt_of_lt_of_le c h.1) az).trans (h.2 l c az)⟩
def cX.bs{S:Nat->Prop}{H H1:ad}(h:cX S H H1)(b:bN):cX S H (H1.push b):=h.trans ((aM.push H1 b).mut S)
def cX.cz{S:Nat->Prop}{H H1:ad}(h:cX S H H1){l:Nat}(c:S l\/H.next<=l)(b:bN):cX S H (H1.set l b):=
 ⟨h.1,λj a az=>by rw[ad.get_set_other (by rintro rfl;exact c.elim az af)];exact h.2 j a az⟩
def cX.get{S:Nat->Prop}{H H':ad}(h:cX S H H'){l:Nat}{b:bN}(a:H.get l=D b)(az:¬S l):H'.get l=D b:=by rw[h.2 l (ad.aR a) az];exact a
section
variable {P:Program}{H:ad}
def dG(v:aa)(k:aa->O):j (D v) k=k v:=rfl
def ep(b:Bool)(x y:O):aV (D (.bool b)) x y=bif b then x else y:=rfl
def eK{v:aa}{H':ad}{k:aa->ad->O}(h:H.next<=H'.next):aG H (D (v,H')) k=k v H':=by
 simp only[aG,decide_eq_true h,aU]
def th{H':ad}{k:ad->O}(h:H.next<=H'.next):a8 H (D H') k=k H':=by
 simp only[a8,Option.bind_some];exact eK h
def tf(v:aa)(b:bN)(k:aa->ad->O):bV H (D (v,b)) k=k v (H.push b):=rfl
def Fs(m:(K->O)->O)(k:aa->ad->O):aP (.bool X) X H m k=m (λx=>px x.val (x.heap H) k):=rfl
def Fm(m:(K->O)->O)(k:aa->ad->O):aP (.bool U) U H m k=m (λx=>px x.val (x.heap H) k):=rfl
def Fq(m:(K->O)->O)(k:aa->ad->O):aP (.bool X) U H m k=k (.tuple []) H:=rfl
def Fo(m:(K->O)->O)(k:aa->ad->O):aP (.bool U) X H m k=k (.tuple []) H:=rfl
def Fp(w:Bool)(m:(K->O)->O)(k:aa->ad->O):aP (.tuple []) w H m k=k (.tuple []) H:=rfl
def Fl(v:aa)(b:Option aa)(k:K->O):gW (D v) b k=k (.pure v):=rfl
def CI(a b:Option aa):cU (.bool X) a b=a:=rfl
def CH(a b:Option aa):cU (.bool U) a b=b:=rfl
def xE(b:Bool):fk .not (.bool b)=D (.bool (!b)):=rfl
def xr(l i c:Nat):bW (.ptr l i c)=D (.ptr l i c):=rfl
def w5(v:aa):(K.pure v).val=v:=rfl
def w6(v:aa):(K.read v).val=v:=rfl
def w4(v:aa)(b:bN):(K.new v b).val=v:=rfl
def w3(v:aa)(H':ad):(K.dM v H').val=v:=rfl
def w7:K.skip.val= .tuple []:=rfl
def wZ(v:aa):(K.pure v).heap H=H:=rfl
def w1(v:aa):(K.read v).heap H=H:=rfl
def wY(v:aa)(b:bN):(K.new v b).heap H=H.push b:=rfl
def wX(v:aa)(H':ad):(K.dM v H').heap H=H':=rfl
def w2:K.skip.heap H=H:=rfl
def xl(a:List aa)(i:Nat):eS (.tuple a) i=a[i]? :=rfl
def zz(t:TypeId)(c:Bool)(k:IntKind)(a b:Int):an P .add t c (.int k a) (.int k b)=D (.int k (k.wrap (a+b))):=by simp[an,ht]
def zL(t:TypeId)(c:Bool)(k:IntKind)(a b:Int):an P .sub t c (.int k a) (.int k b)=D (.int k (k.wrap (a-b))):=by simp[an,ht]
def Ho(t:TypeId)(c:Bool)(k:IntKind)(a b:Int):an P .mul t c (.int k a) (.int k b)=D (.int k (k.wrap (a*b))):=by simp[an,ht]
def zB(t:TypeId)(c:Bool)(k:IntKind)(a b:Int):an P .eql t c (.int k a) (.int k b)=D (.bool (a==b)):=by simp[an,ht]
def zI(t:TypeId)(c:Bool)(k:IntKind)(a b:Int):an P .neq t c (.int k a) (.int k b)=D (.bool (a != b)):=by simp[an,ht]
def zH(t:TypeId)(c:Bool)(k:IntKind)(a b:Int):an P .lss t c (.int k a) (.int k b)=D (.bool (decide (a<b))):=by simp[an,ht]
def zG(t:TypeId)(c:Bool)(k:IntKind)(a b:Int):an P .leq t c (.int k a) (.int k b)=D (.bool (decide (a<=b))):=by simp[an,ht]
def zF(t:TypeId)(c:Bool)(k:IntKind)(a b:Int):an P .gtr t c (.int k a) (.int k b)=D (.bool (decide (b<a))):=by simp[an,ht]
def zE(t:TypeId)(c:Bool)(k:IntKind)(a b:Int):an P .geq t c (.int k a) (.int k b)=D (.bool (decide (b<=a))):=by simp[an,ht]
def zJ(t:TypeId)(c:Bool)(a b:List UInt8):an P .eql t c (.str a) (.str b)=D (.bool (a==b)):=rfl
def zK(t:TypeId)(c:Bool)(a b:List UInt8):an P .neq t c (.str a) (.str b)=D (.bool (!(a==b))):=rfl
def jC(t:TypeId)(c:Bool)(a b:List UInt8)(h:a.length+b.length<=9223372036854775807):an P .add t c (.str a) (.str b)=D (.str (a++b)):=by
 simp only[an,q2,if_pos h]
def DY{t:TypeId}{n:Nat}(j:cn P t=D n){l i c esz:Nat}{els:List (List aa)}{e:List aa}{v:aa}(h:H.get l=D (.row U esz els))(he:els[i]? =D e)(a:v.cells.length=n)(k:v.cells.all aa.one=X)(d:c+n<=esz):
  aT P H t (.ptr l i c) v=D (H.set l (.row U esz (els.set i (cK e c v.cells)))):=by
 simp only[aT,h,he];rw[if_pos ⟨by rw[j,a],by rw[a];exact d,k⟩]
def gO(k:IntKind)(n:Int):(aa.int k n).one=true:=rfl
def hA(x:List UInt8):(aa.str x).one=true:=rfl
def qv(x:Bool):(aa.bool x).one=true:=rfl
def vr(l i c:Nat):(aa.ptr l i c).one=true:=rfl
def vs(l i n e:Nat)(c:Option Nat):(aa.ay l i n e c).one=true:=rfl
def r5:aa.ar.one=true:=rfl
def vq(f:Fn)(a c:List aa):(aa.func f a c).one=true:=rfl
def ib{v:aa}(h:v.one=X):v.cells=[v]:=by cases v<;>first|rfl|cases h
def hr(l:Nat)(cs:List aa)(h:cs.all aa.one=X):dT l (.agg cs)=D (.ptr l 0 0,.row U cs.length [cs]):=by
 simp only[dT,aa.cells,h,aU]
end
end Go.b9
namespace Go.Proofs.YtghmbpmaafnodaaDoor
open Go.b9
noncomputable def P:Program:=Tryd.prog
noncomputable abbrev bh(f:Func):dW:=kU P f.results.toList
noncomputable abbrev ru(f:Func)(G:ax)(N:Nat):dW:=bm P G N (bq f) (bh f) [] (bh f)
def bL{A B zC:dW}(h:∀ae H,A ae H=B ae H)(a:∀ae H,B ae H=zC ae H):∀ae H,A ae H=zC ae H:=λae H=>(h ae H).trans (a ae H)
def dO{A B:dW}{ae:cu}{H:ad}{t:O}(h:∀ae H,A ae H=B ae H)(a:B ae H=t):A ae H=t:=(h ae H).trans a
def Fu(H:ad)(r:Option ad)(k:aa->ad->O):O:=aG H (r.bind λH'=>D (.tuple [],H')) k
 @[congr] theorem N_ {H a:ad} {h aX:Option ad} {z:Nat} {k:aa->ad->O} (d:H=a) (e:h=aX) (c:gF=z):Fu H h k=Fu a aX k:=by rw[d,e]
def jn:List (List aa):=Lib.pow10Tab.map λn=>[.int .u64 n]
def hH:Env:=λl=>match l with
 |0=>D ⟨0,0,1,20⟩
 |_=>Z
def lh:List (List aa)->Option (List (List UInt8))
 |[]=>D []
 |[.str s]::es=>(lh es).map (s:: ·)
 |_=>Z
open Classical in
noncomputable def aw:ax:=λf args H=>match f,args with
 |42,[.int .i64 n]=>if-9223372036854775808<=n/\n<=9223372036854775807/\H.get 0=D (.row X 1 jn)then D (.str (Lib.itoa n),H)else Z
 |43,[.bool b]=>D (.str (Lib.formatBool b),H)
 |54,[.str s,.int .i64 n]=>if 0<=n/\n<=9223372036854775807/\s.length*n.toNat<=140737488355328 then D (.str (Lib.repeatL s n.toNat),H)else Z
 |59,[.ar,.str _]=>D (.str [],H)
 |59,[.ay l i n 1 _,.str sep]=>(match eu H l i n 1 with
  |some es=>(match lh es with
   |some xs=>if xs.length<=140737488355328/\(Lib.join xs sep).length<=140737488355328 then D (.str (Lib.join xs sep),H)else Z
   |none=>Z)
  |none=>Z)
 |80,[.ptr l 0 0]=>(match H.get l with
  |some (.bS 81 2 [[.nilPtr,b]])=>if b.one=X then D (.tuple [],H.set l (.bS 81 2 [[.ptr l 0 0,b]]))else Z
  |some (.bS 81 2 [[.ptr l' 0 0,_]])=>if l'=l then D (.tuple [],H)else Z
  |_=>Z)
 |32,[.ptr l 0 0]=>(match H.get l with
  |some (.bS 81 2 [[_,.ar]])=>D (.str [],H)
  |some (.bS 81 2 [[_,.ay m j n 1 _]])=>(match H.get m with
   |some (.bS 5 1 es)=>(match bytesOf ((es.drop j).take n)with
    |some a=>if 0<n/\j+n<=es.length/\j=0/\n<=140737488355328/\(es.drop j).take n=a.map (λb=>[.int .u8 b.toNat])then D (.str a,H.set m .dead)else Z
    |none=>Z)
   |_=>Z)
  |_=>Z)
 |_,_=>Z
def KV{f:Nat}{fn:Func}{N:Nat}{args:List aa}{H:ad}{r:aa×ad}(a:aw f args H=Z)(e:P.funcs[f]? =D fn)(c:fn.body=D (bq fn))(d:iG fn.ntmps (bq fn)=X)(i:Nat.ble args.length fn.ntmps=X)(h:ru fn (aA P aw) N (kJ args) H=D r):aA P aw f args H=D r:=Hj a e c d i h
def cQ{f:Nat}{fn:Func}(N:Nat){args:List aa}{H:ad}{r:aa×ad}{S:ax->O}(e:P.funcs[f]? =D fn)(he:∀G,ru fn G N (kJ args) H=S G)(h:S (aA P aw)=D r)(a:aw f args H=none:=by first|kernel_rfl)(c:fn.body=D (bq fn):=by first|kernel_rfl)(d:iG fn.ntmps (bq fn)=true:=by first|kernel_rfl)(i:Nat.ble args.length fn.ntmps=true:=by first|kernel_rfl):aA P aw f args H=D r:=KV a e c d i ((he _).trans h)
end Go.Proofs.YtghmbpmaafnodaaDoor
namespace Go.b9
def bk.vG{α:Type}(x y:α):∀(p q:List jW) (t:bk α),p≠q->bk.dE x p (bk.dE y q t)=bk.dE y q (bk.dE x p t)
 |[],[],_,h=>absurd rfl h
 |[],d::q,.leaf,_=>by cases d<;>simp[bk.dE]
 |[],d::q,.node ..,_=>by cases d<;>simp[bk.dE]
 |d::p,[],.leaf,_=>by cases d<;>simp[bk.dE]
 |d::p,[],.node ..,_=>by cases d<;>simp[bk.dE]
 |d::p,e::q,.leaf,h=>by
  by_cases a:d=e
  ·subst a;have j:=bk.vG x y p q .leaf (λi=>h (by rw[i]));cases d<;>simp[bk.dE,j]
  ·cases d<;>cases e<;>first|exact absurd rfl a|simp[bk.dE]
 |d::p,e::q,.node v k l m n o s u w,h=>by
  by_cases a:d=e
  ·subst a;have j:=λc=>bk.vG x y p q c (λi=>h (by rw[i]))
   cases d<;>simp[bk.dE,j]
  ·cases d<;>cases e<;>first|exact absurd rfl a|simp[bk.dE]
def ad.gy{H:ad}{b c:bN}{l:Nat}(h:l<H.next):(H.push b).set l c=(H.set l c).push b:=by
 simp only[ad.push,ad.set,bk.put];rw[bk.vG _ _ _ _ _ (λe=>by have:=CF e;omega)]
section
variable {E:Env}{P:Program}{aw:ax}
def yE(e:mr P){G:ax}(n:iT E P G){N f:Nat}{args:List aa}{H H1:ad}{fn:Func}{c:Code}{ex:aJ}{ae:a7}{l:List aa}
  (a:P.funcs[f]? =D fn) (h:fn.body=D c) (s:cx (e6 P G) N c (a7.enter fn.ntmps args) H=D (ex,ae,H1)) (z:∀id,ex≠ .exit id) (F:gZ P ae H1 fn.results.toList=D l):iz E P f args H (lx l) H1:=by
 intro ρ w xs o u p M next A
 have q:=yF (N:=N) C7 (C8 e.mixed n) c (e.CJ _ _ _ a h);have y:(fn.name== "runtime.NumGoroutine")=false:=e.names fn (Array.mem_of_getElem? a);have B:(callFunc f xs.toArray).run P w= .ok (.enter f xs.toArray) w:=by
  unfold callFunc;simp[a,h];intro v;simp[v]at y
 unfold lr;rw[B];simp only
 refine calls_of_wp a h (q _ _ _ _ _ s ρ w _ _ o u (yB p fn.ntmps) λL bR K d j=> ?_);obtain⟨x,i,m⟩:=Db j.rel d F;have k:=A x K L m j;cases ex with
 |normal=>exact⟨d.none,x,i,k⟩
 |ret=>exact⟨d.none,x,i,k⟩
 |exit id=>exact absurd rfl (z id)
def G7(j:mr P){G:ax}(i:iT E P G){f:Nat}{args:List aa}{H:ad}{fn:Func}{c:Code}{M:Nat}{r:aa×ad}(m:P.funcs[f]? =D fn)(l:fn.body=D c)(n:iG fn.ntmps c=X)(o:Nat.ble args.length fn.ntmps=X)
  (h:bm P G M c (kU P fn.results.toList) [] (kU P fn.results.toList) (kJ args) H=D r):iz E P f args H r.1 r.2:=by
 have az:(a7.enter fn.ntmps args).size=fn.ntmps:=by have:=Nat.le_of_ble_eq_true o;simp only[a7.enter];omega
 rw[<-xz fn.ntmps,yq c _ _ _ _ _ (by rw[az];exact n)]at h;unfold od at h;have fin:∀(ae:a7) (H':ad),kU P fn.results.toList ae.get H'=D r->∃d,gZ P ae H' fn.results.toList=D d/\r=(lx d,H'):=by
  intro ae H' a;unfold kU at a;rw[sj]at a;cases k:gZ P ae H' fn.results.toList with
  |none=>rw[k]at a;cases a
  |some d=>rw[k]at a;exact⟨d,rfl,(Option.some.inj a).symm⟩
 split at h
 ·rename_i ae H' he;obtain⟨d,e,rfl⟩:=fin ae H' h;exact yE j i m l he (λid=>by intro a;cases a) e
 ·cases h
 ·rename_i ae H' he;obtain⟨d,e,rfl⟩:=fin ae H' h;exact yE j i m l he (λid=>by intro a;cases a) e
 ·cases h
def Rel.Io{ρ:Env}{H:ad}{w k:World}(h:Rel ρ H w)(m:∀b,b<w.heap.size->k.heap[b]? =w.heap[b]?):Rel ρ H k:=by
 have key:∀b x,w.heap[b]? =D x->k.heap[b]? =D x:=λb x e=>by
  rw[m b ?_];exact e;exact(Array.getElem?_eq_some_iff.1 e).1
 refine⟨λl ro esz els e=> ?_,λl es e=> ?_,λl t esz els e=> ?_,h.apart⟩
 ·obtain⟨loc,a,d,c,t,n,i,j⟩:=h.row l ro esz els e;exact⟨loc,a,d,c,t,n,key _ _ i,j⟩
 ·obtain⟨loc,a,ents,clock,i,j⟩:=h.map l es e;exact⟨loc,a,ents,clock,key _ _ i,j⟩
 ·obtain⟨loc,a,d⟩:=h.bS l t esz els e;exact⟨loc,a,d.frame ρ.le_refl (m _ d.1.lt)⟩
def ad.pX(l:Nat):ad.empty.get l=none:=by
 cases h:ad.empty.get l with
 |none=>rfl
 |some b=>exact absurd (ad.aR h) (Nat.not_lt_zero l)
def JN(w:World):Rel (λ_=>Z) ad.empty w:=by
 refine⟨λl ro esz els e=> ?_,λl es e=> ?_,λl t esz els e=> ?_,λl l' loc a _ _ _ h=> ?_⟩
 ·rw[ad.pX]at e;cases e
 ·rw[ad.pX]at e;cases e
 ·rw[ad.pX]at e;cases e
 ·cases h
end
end Go.b9
namespace Go.Proofs.YtghmbpmaafnodaaDoor
open Go.b9
section
def I5(a:List Func):Bool:=a.all λfn=> !(fn.name== "runtime.NumGoroutine")
def GW(a:List Func):Bool:=a.all λfn=>match fn.body with
 |some c=>jL c
 |none=>X
def JA{P:Program}(a:P.follows .mixedOrders=X)(d:I5 P.funcs.toList=X)(e:GW P.funcs.toList=X):mr P:=by
 refine⟨a,λfn j=> ?_,λf fn c i h=> ?_⟩
 ·have:=List.all_eq_true.1 d fn (Array.mem_toList_iff.2 j);simpa using this
 ·have:=List.all_eq_true.1 e fn (Array.mem_toList_iff.2 (Array.mem_of_getElem? i));simpa [h]using this
set_option maxRecDepth 1000000
def se:mr P:=JA ah ah ah
end
def D9:dK P 3=D false:=ah
def EL:cn P 3=D 1:=ah
def Ea:dK P 4=D false:=ah
def EN:cn P 4=D 1:=ah
def yC{c:Bool}(a b:Bool):an P .eql 4 c (.bool a) (.bool b)=D (.bool (a==b)):=ah
def Cd{c:Bool}(a b:Bool):an P .neq 4 c (.bool a) (.bool b)=D (.bool (!(a==b))):=ah
def Ef:dK P 5=D false:=ah
def nM:cn P 5=D 1:=ah
def Ep:dK P 9=D false:=ah
def wH:cn P 9=D 1:=ah
def BT{H:ad}{s:List UInt8}:b4 P H .len [9] [.str s]=D (.int .i64 s.length):=ah
def D3:dK P 22=D false:=ah
def EE:cn P 22=D 1:=ah
def HY(l i n:Nat)(cap:Option Nat)(k:Int):cG P 22 (.ay l i n 3 cap) (.int .i64 k)=if 3=3/\0<=k/\k<n then D (.ptr l (i+k.toNat) 0)else none:=ah
def AV{l i n:Nat}{cap:Option Nat}{k:Int}(a:0<=k)(c:k<n):cG P 22 (.ay l i n 3 cap) (.int .i64 k)=D (.ptr l (i+k.toNat) 0):=by rw[HY,if_pos ⟨rfl,a,c⟩]
def qk{H:ad}{l i n e:Nat}{cap:Option Nat}:b4 P H .len [22] [.ay l i n e cap]=D (.int .i64 n):=ah
def rV{H:ad}:b4 P H .len [22] [.ar]=D (.int .i64 0):=ah
def D4:dK P 23=D false:=ah
def EG:cn P 23=D 1:=ah
def HZ(l i n:Nat)(cap:Option Nat)(k:Int):cG P 23 (.ay l i n 4 cap) (.int .i64 k)=if 4=4/\0<=k/\k<n then D (.ptr l (i+k.toNat) 0)else none:=ah
def AW{l i n:Nat}{cap:Option Nat}{k:Int}(a:0<=k)(c:k<n):cG P 23 (.ay l i n 4 cap) (.int .i64 k)=D (.ptr l (i+k.toNat) 0):=by rw[HZ,if_pos ⟨rfl,a,c⟩]
def ql{H:ad}{l i n e:Nat}{cap:Option Nat}:b4 P H .len [23] [.ay l i n e cap]=D (.int .i64 n):=ah
def rW{H:ad}:b4 P H .len [23] [.ar]=D (.int .i64 0):=ah
def D5:dK P 24=D false:=ah
def EH:cn P 24=D 1:=ah
def H2(l i n:Nat)(cap:Option Nat)(k:Int):cG P 24 (.ay l i n 7 cap) (.int .i64 k)=if 7=7/\0<=k/\k<n then D (.ptr l (i+k.toNat) 0)else none:=ah
def AX{l i n:Nat}{cap:Option Nat}{k:Int}(a:0<=k)(c:k<n):cG P 24 (.ay l i n 7 cap) (.int .i64 k)=D (.ptr l (i+k.toNat) 0):=by rw[H2,if_pos ⟨rfl,a,c⟩]
def qm{H:ad}{l i n e:Nat}{cap:Option Nat}:b4 P H .len [24] [.ay l i n e cap]=D (.int .i64 n):=ah
def rX{H:ad}:b4 P H .len [24] [.ar]=D (.int .i64 0):=ah
def D6:dK P 26=D true:=ah
def EI:cn P 26=D 3:=ah
def yW(l i c:Nat):aI P 26 (.ptr l i c) 0=D (.ptr l i (c+0)):=ah
def zY(a0 aQ a2:aa):cB P 26 (.agg [a0,aQ,a2]) 0=D a0:=ah
def yX(l i c:Nat):aI P 26 (.ptr l i c) 1=D (.ptr l i (c+1)):=ah
def zZ(a0 aQ a2:aa):cB P 26 (.agg [a0,aQ,a2]) 1=D aQ:=ah
def yY(l i c:Nat):aI P 26 (.ptr l i c) 2=D (.ptr l i (c+2)):=ah
def z1(a0 aQ a2:aa):cB P 26 (.agg [a0,aQ,a2]) 2=D a2:=ah
def D7:dK P 27=D false:=ah
def EJ:cn P 27=D 1:=ah
def D8:dK P 29=D true:=ah
def EK:cn P 29=D 2:=ah
def yZ(l i c:Nat):aI P 29 (.ptr l i c) 0=D (.ptr l i (c+0)):=ah
def z6(a0 aQ:aa):cB P 29 (.agg [a0,aQ]) 0=D a0:=ah
def y0(l i c:Nat):aI P 29 (.ptr l i c) 1=D (.ptr l i (c+1)):=ah
def z7(a0 aQ:aa):cB P 29 (.agg [a0,aQ]) 1=D aQ:=ah
def D_:dK P 36=D false:=ah
def EM:cn P 36=D 1:=ah
def H3(l i n:Nat)(cap:Option Nat)(k:Int):cG P 36 (.ay l i n 4 cap) (.int .i64 k)=if 4=4/\0<=k/\k<n then D (.ptr l (i+k.toNat) 0)else none:=ah
def uN{l i n:Nat}{cap:Option Nat}{k:Int}(a:0<=k)(c:k<n):cG P 36 (.ay l i n 4 cap) (.int .i64 k)=D (.ptr l (i+k.toNat) 0):=by rw[H3,if_pos ⟨rfl,a,c⟩]
def qn{H:ad}{l i n e:Nat}{cap:Option Nat}:b4 P H .len [36] [.ay l i n e cap]=D (.int .i64 n):=ah
def rY{H:ad}:b4 P H .len [36] [.ar]=D (.int .i64 0):=ah
def Eb:dK P 40=D true:=ah
def EO:cn P 40=D 2:=ah
def y1(l i c:Nat):aI P 40 (.ptr l i c) 0=D (.ptr l i (c+0)):=ah
def z8(a0 aQ:aa):cB P 40 (.agg [a0,aQ]) 0=D a0:=ah
def y2(l i c:Nat):aI P 40 (.ptr l i c) 1=D (.ptr l i (c+1)):=ah
def z_(a0 aQ:aa):cB P 40 (.agg [a0,aQ]) 1=D aQ:=ah
def Ec:dK P 41=D false:=ah
def EP:cn P 41=D 1:=ah
def H4(l i n:Nat)(cap:Option Nat)(k:Int):cG P 41 (.ay l i n 11 cap) (.int .i64 k)=if 11=11/\0<=k/\k<n then D (.ptr l (i+k.toNat) 0)else none:=ah
def AY{l i n:Nat}{cap:Option Nat}{k:Int}(a:0<=k)(c:k<n):cG P 41 (.ay l i n 11 cap) (.int .i64 k)=D (.ptr l (i+k.toNat) 0):=by rw[H4,if_pos ⟨rfl,a,c⟩]
def lK{H:ad}{l i n e:Nat}{cap:Option Nat}:b4 P H .len [41] [.ay l i n e cap]=D (.int .i64 n):=ah
def qo{H:ad}:b4 P H .len [41] [.ar]=D (.int .i64 0):=ah
def Ed:dK P 43=D true:=ah
def ER:cn P 43=D 3:=ah
def y3(l i c:Nat):aI P 43 (.ptr l i c) 0=D (.ptr l i (c+0)):=ah
def Aa(a0 aQ a2:aa):cB P 43 (.agg [a0,aQ,a2]) 0=D a0:=ah
def y4(l i c:Nat):aI P 43 (.ptr l i c) 1=D (.ptr l i (c+1)):=ah
def Ab(a0 aQ a2:aa):cB P 43 (.agg [a0,aQ,a2]) 1=D aQ:=ah
def y5(l i c:Nat):aI P 43 (.ptr l i c) 2=D (.ptr l i (c+2)):=ah
def Ac(a0 aQ a2:aa):cB P 43 (.agg [a0,aQ,a2]) 2=D a2:=ah
def Ee:dK P 45=D true:=ah
def s9:cn P 45=D 11:=ah
def y6(l i c:Nat):aI P 45 (.ptr l i c) 0=D (.ptr l i (c+0)):=ah
def Ad(a0 aQ a2 a3 a4 a5 c d e a9 a:aa):cB P 45 (.agg [a0,aQ,a2,a3,a4,a5,c,d,e,a9,a]) 0=D a0:=ah
def y7(l i c:Nat):aI P 45 (.ptr l i c) 1=D (.ptr l i (c+1)):=ah
def Ae(a0 aQ a2 a3 a4 a5 c d e a9 a:aa):cB P 45 (.agg [a0,aQ,a2,a3,a4,a5,c,d,e,a9,a]) 1=D aQ:=ah
def y8(l i c:Nat):aI P 45 (.ptr l i c) 2=D (.ptr l i (c+2)):=ah
def Af(a0 aQ a2 a3 a4 a5 c d e a9 a:aa):cB P 45 (.agg [a0,aQ,a2,a3,a4,a5,c,d,e,a9,a]) 2=D a2:=ah
def y9(l i c:Nat):aI P 45 (.ptr l i c) 3=D (.ptr l i (c+3)):=ah
def Ag(a0 aQ a2 a3 a4 a5 c d e a9 a:aa):cB P 45 (.agg [a0,aQ,a2,a3,a4,a5,c,d,e,a9,a]) 3=D (.agg [a3,a4]):=ah
def y_(l i c:Nat):aI P 45 (.ptr l i c) 4=D (.ptr l i (c+5)):=ah
def Ah(a0 aQ a2 a3 a4 a5 c d e a9 a:aa):cB P 45 (.agg [a0,aQ,a2,a3,a4,a5,c,d,e,a9,a]) 4=D a5:=ah
def za(l i c:Nat):aI P 45 (.ptr l i c) 5=D (.ptr l i (c+6)):=ah
def Ai(a0 aQ a2 a3 a4 a5 a d e a9 c:aa):cB P 45 (.agg [a0,aQ,a2,a3,a4,a5,a,d,e,a9,c]) 5=D a:=ah
def zb(l i c:Nat):aI P 45 (.ptr l i c) 6=D (.ptr l i (c+7)):=ah
def Aj(a0 aQ a2 a3 a4 a5 e a c a9 d:aa):cB P 45 (.agg [a0,aQ,a2,a3,a4,a5,e,a,c,a9,d]) 6=D (.agg [a,c,a9]):=ah
def zc(l i c:Nat):aI P 45 (.ptr l i c) 7=D (.ptr l i (c+10)):=ah
def Ak(a0 aQ a2 a3 a4 a5 c d e a9 a:aa):cB P 45 (.agg [a0,aQ,a2,a3,a4,a5,c,d,e,a9,a]) 7=D a:=ah
def q3:dK P 50=D false:=ah
def ES:cn P 50=D 1:=ah
def H5(l i n:Nat)(cap:Option Nat)(k:Int):cG P 50 (.ay l i n 1 cap) (.int .i64 k)=if 1=1/\0<=k/\k<n then D (.ptr l (i+k.toNat) 0)else none:=ah
def uO{l i n:Nat}{cap:Option Nat}{k:Int}(a:0<=k)(c:k<n):cG P 50 (.ay l i n 1 cap) (.int .i64 k)=D (.ptr l (i+k.toNat) 0):=by rw[H5,if_pos ⟨rfl,a,c⟩]
def BN{H:ad}{l i n e:Nat}{cap:Option Nat}:b4 P H .len [50] [.ay l i n e cap]=D (.int .i64 n):=ah
def BO{H:ad}:b4 P H .len [50] [.ar]=D (.int .i64 0):=ah
def q4:dK P 51=D false:=ah
def ET:cn P 51=D 1:=ah
def H6(l i n:Nat)(cap:Option Nat)(k:Int):cG P 51 (.ay l i n 1 cap) (.int .i64 k)=if 1=1/\0<=k/\k<n then D (.ptr l (i+k.toNat) 0)else none:=ah
def uP{l i n:Nat}{cap:Option Nat}{k:Int}(a:0<=k)(c:k<n):cG P 51 (.ay l i n 1 cap) (.int .i64 k)=D (.ptr l (i+k.toNat) 0):=by rw[H6,if_pos ⟨rfl,a,c⟩]
def BP{H:ad}{l i n e:Nat}{cap:Option Nat}:b4 P H .len [51] [.ay l i n e cap]=D (.int .i64 n):=ah
def BQ{H:ad}:b4 P H .len [51] [.ar]=D (.int .i64 0):=ah
def oe(l i c:Nat):aI P 59 (.ptr l i c) 0=D (.ptr l i (c+0)):=ah
def Al(a0 aQ a2 a3 a4:aa):cB P 59 (.agg [a0,aQ,a2,a3,a4]) 0=D a0:=ah
def og(l i c:Nat):aI P 59 (.ptr l i c) 1=D (.ptr l i (c+1)):=ah
def Am(a0 aQ a2 a3 a4:aa):cB P 59 (.agg [a0,aQ,a2,a3,a4]) 1=D aQ:=ah
def zd(l i c:Nat):aI P 59 (.ptr l i c) 2=D (.ptr l i (c+2)):=ah
def An(a0 aQ a2 a3 a4:aa):cB P 59 (.agg [a0,aQ,a2,a3,a4]) 2=D a2:=ah
def ze(l i c:Nat):aI P 59 (.ptr l i c) 3=D (.ptr l i (c+3)):=ah
def Ao(a0 aQ a2 a3 a4:aa):cB P 59 (.agg [a0,aQ,a2,a3,a4]) 3=D (.agg [a3,a4]):=ah
def Eg:dK P 61=D true:=ah
def s_:cn P 61=D 4:=ah
def zf(l i c:Nat):aI P 61 (.ptr l i c) 0=D (.ptr l i (c+0)):=ah
def Ap(a0 aQ a2 a3:aa):cB P 61 (.agg [a0,aQ,a2,a3]) 0=D a0:=ah
def zg(l i c:Nat):aI P 61 (.ptr l i c) 1=D (.ptr l i (c+1)):=ah
def Aq(a0 aQ a2 a3:aa):cB P 61 (.agg [a0,aQ,a2,a3]) 1=D aQ:=ah
def zh(l i c:Nat):aI P 61 (.ptr l i c) 2=D (.ptr l i (c+2)):=ah
def Ar(a0 aQ a2 a3:aa):cB P 61 (.agg [a0,aQ,a2,a3]) 2=D a2:=ah
def zi(l i c:Nat):aI P 61 (.ptr l i c) 3=D (.ptr l i (c+3)):=ah
def As(a0 aQ a2 a3:aa):cB P 61 (.agg [a0,aQ,a2,a3]) 3=D a3:=ah
def Eh:dK P 65=D true:=ah
def wE:cn P 65=D 3:=ah
def zj(l i c:Nat):aI P 65 (.ptr l i c) 0=D (.ptr l i (c+0)):=ah
def At(a0 aQ a2:aa):cB P 65 (.agg [a0,aQ,a2]) 0=D a0:=ah
def zk(l i c:Nat):aI P 65 (.ptr l i c) 1=D (.ptr l i (c+1)):=ah
def Au(a0 aQ a2:aa):cB P 65 (.agg [a0,aQ,a2]) 1=D aQ:=ah
def zl(l i c:Nat):aI P 65 (.ptr l i c) 2=D (.ptr l i (c+2)):=ah
def Av(a0 aQ a2:aa):cB P 65 (.agg [a0,aQ,a2]) 2=D a2:=ah
def Ei:dK P 68=D true:=ah
def wF:cn P 68=D 4:=ah
def zm(l i c:Nat):aI P 68 (.ptr l i c) 0=D (.ptr l i (c+0)):=ah
def Aw(a0 aQ a2 a3:aa):cB P 68 (.agg [a0,aQ,a2,a3]) 0=D a0:=ah
def zn(l i c:Nat):aI P 68 (.ptr l i c) 1=D (.ptr l i (c+1)):=ah
def Ax(a0 aQ a2 a3:aa):cB P 68 (.agg [a0,aQ,a2,a3]) 1=D (.agg [aQ,a2]):=ah
def zo(l i c:Nat):aI P 68 (.ptr l i c) 2=D (.ptr l i (c+3)):=ah
def Ay(a0 aQ a2 a3:aa):cB P 68 (.agg [a0,aQ,a2,a3]) 2=D a3:=ah
def wq:dK P 71=D false:=ah
def q6:cn P 71=D 1:=ah
def H7(l i n:Nat)(cap:Option Nat)(k:Int):cG P 71 (.ay l i n 9 cap) (.int .i64 k)=if 9=9/\0<=k/\k<n then D (.ptr l (i+k.toNat) 0)else none:=ah
def AZ{l i n:Nat}{cap:Option Nat}{k:Int}(a:0<=k)(c:k<n):cG P 71 (.ay l i n 9 cap) (.int .i64 k)=D (.ptr l (i+k.toNat) 0):=by rw[H7,if_pos ⟨rfl,a,c⟩]
def rZ{H:ad}{l i n e:Nat}{cap:Option Nat}:b4 P H .len [71] [.ay l i n e cap]=D (.int .i64 n):=ah
def vd{H:ad}:b4 P H .len [71] [.ar]=D (.int .i64 0):=ah
def Ej:dK P 73=D true:=ah
def wG:cn P 73=D 7:=ah
def zp(l i c:Nat):aI P 73 (.ptr l i c) 0=D (.ptr l i (c+0)):=ah
def Az(a0 aQ a2 a3 a4 a5 a:aa):cB P 73 (.agg [a0,aQ,a2,a3,a4,a5,a]) 0=D a0:=ah
def zq(l i c:Nat):aI P 73 (.ptr l i c) 1=D (.ptr l i (c+1)):=ah
def AA(a0 aQ a2 a3 a4 a5 a:aa):cB P 73 (.agg [a0,aQ,a2,a3,a4,a5,a]) 1=D aQ:=ah
def zr(l i c:Nat):aI P 73 (.ptr l i c) 2=D (.ptr l i (c+2)):=ah
def AD(a0 aQ a2 a3 a4 a5 a:aa):cB P 73 (.agg [a0,aQ,a2,a3,a4,a5,a]) 2=D a2:=ah
def zs(l i c:Nat):aI P 73 (.ptr l i c) 3=D (.ptr l i (c+3)):=ah
def AE(a0 aQ a2 a3 a4 a5 a:aa):cB P 73 (.agg [a0,aQ,a2,a3,a4,a5,a]) 3=D (.agg [a3,a4]):=ah
def zt(l i c:Nat):aI P 73 (.ptr l i c) 4=D (.ptr l i (c+5)):=ah
def AF(a0 aQ a2 a3 a4 a5 a:aa):cB P 73 (.agg [a0,aQ,a2,a3,a4,a5,a]) 4=D a5:=ah
def zu(l i c:Nat):aI P 73 (.ptr l i c) 5=D (.ptr l i (c+6)):=ah
def AG(a0 aQ a2 a3 a4 a5 a:aa):cB P 73 (.agg [a0,aQ,a2,a3,a4,a5,a]) 5=D a:=ah
def Ek:dK P 75=D false:=ah
def EU:cn P 75=D 1:=ah
def El:dK P 76=D false:=ah
def EV:cn P 76=D 1:=ah
def Em:dK P 77=D false:=ah
def EW:cn P 77=D 1:=ah
def H8(l i n:Nat)(cap:Option Nat)(k:Int):cG P 77 (.ay l i n 1 cap) (.int .i64 k)=if 1=1/\0<=k/\k<n then D (.ptr l (i+k.toNat) 0)else none:=ah
def A0{l i n:Nat}{cap:Option Nat}{k:Int}(a:0<=k)(c:k<n):cG P 77 (.ay l i n 1 cap) (.int .i64 k)=D (.ptr l (i+k.toNat) 0):=by rw[H8,if_pos ⟨rfl,a,c⟩]
def BR{H:ad}{l i n e:Nat}{cap:Option Nat}:b4 P H .len [77] [.ay l i n e cap]=D (.int .i64 n):=ah
def BS{H:ad}:b4 P H .len [77] [.ar]=D (.int .i64 0):=ah
def En:dK P 79=D true:=ah
def EX:cn P 79=D 2:=ah
def zv(l i c:Nat):aI P 79 (.ptr l i c) 0=D (.ptr l i (c+0)):=ah
def AH(a0 aQ:aa):cB P 79 (.agg [a0,aQ]) 0=D a0:=ah
def zw(l i c:Nat):aI P 79 (.ptr l i c) 1=D (.ptr l i (c+1)):=ah
def AI(a0 aQ:aa):cB P 79 (.agg [a0,aQ]) 1=D aQ:=ah
def Eo:dK P 81=D true:=ah
def EY:cn P 81=D 2:=ah
def zx(l i c:Nat):aI P 81 (.ptr l i c) 0=D (.ptr l i (c+0)):=ah
def AJ(a0 aQ:aa):cB P 81 (.agg [a0,aQ]) 0=D (.agg [a0,aQ]):=ah
def wo:dK P 112=D true:=ah
def pj:cn P 112=D 9:=ah
def yO(l i c:Nat):aI P 112 (.ptr l i c) 0=D (.ptr l i (c+0)):=ah
def zQ(a0 aQ a2 a3 a4 a5 a c d:aa):cB P 112 (.agg [a0,aQ,a2,a3,a4,a5,a,c,d]) 0=D a0:=ah
def yP(l i c:Nat):aI P 112 (.ptr l i c) 1=D (.ptr l i (c+1)):=ah
def zR(a0 aQ a2 a3 a4 a5 a c d:aa):cB P 112 (.agg [a0,aQ,a2,a3,a4,a5,a,c,d]) 1=D aQ:=ah
def yQ(l i c:Nat):aI P 112 (.ptr l i c) 2=D (.ptr l i (c+2)):=ah
def zS(a0 aQ a2 a3 a4 a5 a c d:aa):cB P 112 (.agg [a0,aQ,a2,a3,a4,a5,a,c,d]) 2=D (.agg [a2,a3]):=ah
def yR(l i c:Nat):aI P 112 (.ptr l i c) 3=D (.ptr l i (c+4)):=ah
def zT(a0 aQ a2 a3 a4 a5 a c d:aa):cB P 112 (.agg [a0,aQ,a2,a3,a4,a5,a,c,d]) 3=D a4:=ah
def yS(l i c:Nat):aI P 112 (.ptr l i c) 4=D (.ptr l i (c+5)):=ah
def zU(a0 aQ a2 a3 a4 a5 a c d:aa):cB P 112 (.agg [a0,aQ,a2,a3,a4,a5,a,c,d]) 4=D a5:=ah
def yT(l i c:Nat):aI P 112 (.ptr l i c) 5=D (.ptr l i (c+6)):=ah
def zV(a0 aQ a2 a3 a4 a5 a c d:aa):cB P 112 (.agg [a0,aQ,a2,a3,a4,a5,a,c,d]) 5=D a:=ah
def yU(l i c:Nat):aI P 112 (.ptr l i c) 6=D (.ptr l i (c+7)):=ah
def zW(a0 aQ a2 a3 a4 a5 c a d:aa):cB P 112 (.agg [a0,aQ,a2,a3,a4,a5,c,a,d]) 6=D a:=ah
def yV(l i c:Nat):aI P 112 (.ptr l i c) 7=D (.ptr l i (c+8)):=ah
def zX(a0 aQ a2 a3 a4 a5 c d a:aa):cB P 112 (.agg [a0,aQ,a2,a3,a4,a5,c,d,a]) 7=D a:=ah
def D1:dK P 131=D false:=ah
def EC:cn P 131=D 1:=ah
def HW(l i n:Nat)(cap:Option Nat)(k:Int):cG P 131 (.ay l i n 1 cap) (.int .i64 k)=if 1=1/\0<=k/\k<n then D (.ptr l (i+k.toNat) 0)else none:=ah
def uL{l i n:Nat}{cap:Option Nat}{k:Int}(a:0<=k)(c:k<n):cG P 131 (.ay l i n 1 cap) (.int .i64 k)=D (.ptr l (i+k.toNat) 0):=by rw[HW,if_pos ⟨rfl,a,c⟩]
def BJ{H:ad}{l i n e:Nat}{cap:Option Nat}:b4 P H .len [131] [.ay l i n e cap]=D (.int .i64 n):=ah
def BK{H:ad}:b4 P H .len [131] [.ar]=D (.int .i64 0):=ah
def D2:dK P 132=D false:=ah
def ED:cn P 132=D 1:=ah
def HX(l i n:Nat)(cap:Option Nat)(k:Int):cG P 132 (.ay l i n 1 cap) (.int .i64 k)=if 1=1/\0<=k/\k<n then D (.ptr l (i+k.toNat) 0)else none:=ah
def uM{l i n:Nat}{cap:Option Nat}{k:Int}(a:0<=k)(c:k<n):cG P 132 (.ay l i n 1 cap) (.int .i64 k)=D (.ptr l (i+k.toNat) 0):=by rw[HX,if_pos ⟨rfl,a,c⟩]
def BL{H:ad}{l i n e:Nat}{cap:Option Nat}:b4 P H .len [132] [.ay l i n e cap]=D (.int .i64 n):=ah
def BM{H:ad}:b4 P H .len [132] [.ar]=D (.int .i64 0):=ah
def x2:ch P 59 [(0,aa.ar)]=D (.agg [aa.ar,.int .i64 0,.int .i64 0,.int .i64 0,.int .i64 0]):=ah
def x3(e:Nat)(d:Nat)(h:Nat)(c:Nat)(a:Option Nat):ch P 59 [(0,(.ay e d h c a))]=D (.agg [.ay e d h c a,.int .i64 0,.int .i64 0,.int .i64 0,.int .i64 0]):=ah
def xM(a0:List UInt8)(aQ:Int):ch P 40 [(0,(.str a0)),(1,(.int .i64 aQ))]=D (.agg [.str a0,.int .i64 aQ]):=ah
def xJ(a0:Int):ch P 29 [(0,(.int .i64 a0))]=D (.agg [.int .i64 a0,.int .i64 0]):=ah
def xK(a0:Int)(aQ:Int):ch P 29 [(0,(.int .i64 a0)),(1,(.int .i64 aQ))]=D (.agg [.int .i64 a0,.int .i64 aQ]):=ah
def x7(a0:Int)(a3:Int):ch P 61 [(0,(.int .i64 a0)),(3,(.int .i64 a3))]=D (.agg [.int .i64 a0,.str [],.int .i64 0,.int .i64 a3]):=ah
def xY(aQ:Int)(a2:Int):ch P 59 [(0,aa.ar),(1,(.int .i64 aQ)),(2,(.int .i64 a2))]=D (.agg [aa.ar,.int .i64 aQ,.int .i64 a2,.int .i64 0,.int .i64 0]):=ah
def xZ(e:Nat)(d:Nat)(h:Nat)(c:Nat)(a:Option Nat)(aQ:Int)(a2:Int):ch P 59 [(0,(.ay e d h c a)),(1,(.int .i64 aQ)),(2,(.int .i64 a2))]=D (.agg [.ay e d h c a,.int .i64 aQ,.int .i64 a2,.int .i64 0,.int .i64 0]):=ah
def x0(aQ:Int):ch P 59 [(0,aa.ar),(1,(.int .i64 aQ))]=D (.agg [aa.ar,.int .i64 aQ,.int .i64 0,.int .i64 0,.int .i64 0]):=ah
def x1(e:Nat)(d:Nat)(h:Nat)(c:Nat)(a:Option Nat)(aQ:Int):ch P 59 [(0,(.ay e d h c a)),(1,(.int .i64 aQ))]=D (.agg [.ay e d h c a,.int .i64 aQ,.int .i64 0,.int .i64 0,.int .i64 0]):=ah
def x4(a0:Int):ch P 61 [(0,(.int .i64 a0))]=D (.agg [.int .i64 a0,.str [],.int .i64 0,.int .i64 0]):=ah
def x8(a2:Int):ch P 65 [(2,(.int .i64 a2))]=D (.agg [.str [],aa.ar,.int .i64 a2]):=ah
def x9(a2:Int):ch P 68 [(2,(.int .i64 a2))]=D (.agg [.str [],.str [],.int .i64 0,.int .i64 a2]):=ah
def x_(a5:Int):ch P 73 [(5,(.int .i64 a5))]=D (.agg [.str [],aa.ar,.bool U,.str [],.int .i64 0,aa.ar,.int .i64 a5]):=ah
def x5(a0:Int)(aQ:List UInt8)(a3:Int):ch P 61 [(0,(.int .i64 a0)),(1,(.str aQ)),(3,(.int .i64 a3))]=D (.agg [.int .i64 a0,.str aQ,.int .i64 0,.int .i64 a3]):=ah
def x6(a0:Int)(a2:Int)(a3:Int):ch P 61 [(0,(.int .i64 a0)),(2,(.int .i64 a2)),(3,(.int .i64 a3))]=D (.agg [.int .i64 a0,.str [],.int .i64 a2,.int .i64 a3]):=ah
def xV(a0:Int)(a5:Int):ch P 45 [(0,(.int .i64 a0)),(4,aa.ar),(5,(.int .i64 a5))]=D (.agg [.int .i64 a0,.int .i64 0,.str [],.str [],.int .i64 0,aa.ar,.int .i64 a5,.int .i64 0,.int .i64 0,.int .i64 0,.int .i64 0]):=ah
def xW(a0:Int)(e:Nat)(d:Nat)(h:Nat)(c:Nat)(a:Option Nat)(a5:Int):ch P 45 [(0,(.int .i64 a0)),(4,(.ay e d h c a)),(5,(.int .i64 a5))]=D (.agg [.int .i64 a0,.int .i64 0,.str [],.str [],.int .i64 0,.ay e d h c a,.int .i64 a5,.int .i64 0,.int .i64 0,.int .i64 0,.int .i64 0]):=ah
def xN(aQ:Int):ch P 40 [(1,(.int .i64 aQ))]=D (.agg [.str [],.int .i64 aQ]):=ah
def xI(a:Int):ch P 112 [(6,(.int .i64 a))]=D (.agg [.int .i64 0,.str [],.str [],.int .i64 0,aa.ar,aa.ar,aa.ar,.int .i64 a,.int .i64 0]):=ah
def xP(a0:Int)(a2:List UInt8)(a5:Int):ch P 45 [(0,(.int .i64 a0)),(2,(.str a2)),(4,aa.ar),(5,(.int .i64 a5))]=D (.agg [.int .i64 a0,.int .i64 0,.str a2,.str [],.int .i64 0,aa.ar,.int .i64 a5,.int .i64 0,.int .i64 0,.int .i64 0,.int .i64 0]):=ah
def xQ(a0:Int)(a2:List UInt8)(e:Nat)(d:Nat)(h:Nat)(c:Nat)(a:Option Nat)(a5:Int):ch P 45 [(0,(.int .i64 a0)),(2,(.str a2)),(4,(.ay e d h c a)),(5,(.int .i64 a5))]=D (.agg [.int .i64 a0,.int .i64 0,.str a2,.str [],.int .i64 0,.ay e d h c a,.int .i64 a5,.int .i64 0,.int .i64 0,.int .i64 0,.int .i64 0]):=ah
def xO(a0:Int)(aQ:Int)(a5:Int):ch P 45 [(0,(.int .i64 a0)),(1,(.int .i64 aQ)),(5,(.int .i64 a5))]=D (.agg [.int .i64 a0,.int .i64 aQ,.str [],.str [],.int .i64 0,aa.ar,.int .i64 a5,.int .i64 0,.int .i64 0,.int .i64 0,.int .i64 0]):=ah
def xU(a0:Int)(a:List UInt8)(c:Int)(a5:Int):ch P 45 [(0,(.int .i64 a0)),(3,(.agg [.str a,.int .i64 c])),(5,(.int .i64 a5))]=D (.agg [.int .i64 a0,.int .i64 0,.str [],.str a,.int .i64 c,aa.ar,.int .i64 a5,.int .i64 0,.int .i64 0,.int .i64 0,.int .i64 0]):=ah
def xX(a0:Int)(a5:Int):ch P 45 [(0,(.int .i64 a0)),(5,(.int .i64 a5))]=D (.agg [.int .i64 a0,.int .i64 0,.str [],.str [],.int .i64 0,aa.ar,.int .i64 a5,.int .i64 0,.int .i64 0,.int .i64 0,.int .i64 0]):=ah
def xR(a0:Int)(a2:List UInt8)(a5:Int):ch P 45 [(0,(.int .i64 a0)),(2,(.str a2)),(5,(.int .i64 a5))]=D (.agg [.int .i64 a0,.int .i64 0,.str a2,.str [],.int .i64 0,aa.ar,.int .i64 a5,.int .i64 0,.int .i64 0,.int .i64 0,.int .i64 0]):=ah
def xL(a0:List UInt8):ch P 40 [(0,(.str a0))]=D (.agg [.str a0,.int .i64 0]):=ah
def xS(a0:Int)(a:List UInt8)(c:Int)(a5:Int):ch P 45 [(0,(.int .i64 a0)),(3,(.agg [.str a,.int .i64 c])),(4,aa.ar),(5,(.int .i64 a5))]=D (.agg [.int .i64 a0,.int .i64 0,.str [],.str a,.int .i64 c,aa.ar,.int .i64 a5,.int .i64 0,.int .i64 0,.int .i64 0,.int .i64 0]):=ah
def xT(a0:Int)(a:List UInt8)(c:Int)(i:Nat)(h:Nat)(j:Nat)(e:Nat)(d:Option Nat)(a5:Int):ch P 45 [(0,(.int .i64 a0)),(3,(.agg [.str a,.int .i64 c])),(4,(.ay i h j e d)),(5,(.int .i64 a5))]=D (.agg [.int .i64 a0,.int .i64 0,.str [],.str a,.int .i64 c,.ay i h j e d,.int .i64 a5,.int .i64 0,.int .i64 0,.int .i64 0,.int .i64 0]):=ah
end Go.Proofs.YtghmbpmaafnodaaDoor
namespace Go.b9
open Go.ChangeShapes Go.WideShapes Go.ChangeAt Go.RowKit
def w8(E:Env)(P:Program)(f:Nat)(args:List Value)(W:World):Prop:=∃(ρ:Env) (H:ad) (a:List aa) (H':ad),Rel ρ H W/\(∀l,¬H.rw l)/\(∀l,H.next<=l->ρ l=Z)/\E.le ρ/\H.next<=H'.next/\bo ρ a args/\iz E P f a H (.bool X) H'
def It{E:Env}{P:Program}{f:Nat}{fn:Func}{c:Code}{args:List Value}{W:World}(w:mr P)(m:P.funcs[f]? =D fn)(y:fn.body=D c)(h:w8 E P f args W):
  Calls P f args.toArray W λe a=>e= .returned (.bool X)/\Below W.heap.size W a:=by
 obtain⟨ρ,H,L,H',n,o,p,v,q,s,u⟩:=h;have F:∀b,¬h8 ρ H b:=by rintro b ⟨l,loc,j,_⟩;exact o l j
 have i:=u ρ W args n ⟨λl j _=>p l j,v⟩ s q (λx a=>x= .bool X/\Below W.heap.size W a) (λx a M K az=>by
  cases K;exact⟨rfl,az.os,az.tape,az.output,az.size,λk A=>az.frame k A (F k)⟩)
 have B:(fn.name== "runtime.NumGoroutine")=false:=w.names fn (Array.mem_of_getElem? m);have G:(callFunc f args.toArray).run P W= .ok (.enter f args.toArray) W:=by
  unfold callFunc;simp[m,y];intro z;simp[z]at B
 unfold lr at i;rw[G]at i;simp only at i;refine i.mono λe a d=> ?_
 split at d
 ·exact⟨by rw[d.1],d.2⟩
 ·exact d.elim
def EA{H:Type}{enc:TypeId×Value->H}{P:Program}{W j:World}(n:laidOutB P=X)(l:Below W.heap.size W j):∀{ts:List TypeId} {c:List Value} {a:List (DataW H)} {i:List MemPlace},(∀t∈ts,P.readableRec t=X/\t<P.types.size)->
  DataW.TrodAll enc P W 0 (λ_=>X) X ts c a i->∃o,DataW.TrodAll enc P j 0 (λb=>decide (b<W.heap.size)) X ts c a o
 |[],c,a,i,_,h=>by
  obtain⟨rfl,rfl,rfl⟩:=trodAll_nil h;exact⟨[],trodAll_mk0⟩
 |t::ts,c,a,i,e,h=>by
  obtain⟨v,A,d,z,p,q,rfl,rfl,rfl,k,s⟩:=trodAll_cons h;obtain⟨o,u⟩:=EA n l (λt y=>e t (List.mem_cons_of_mem _ y)) s;have w:∀x∈p,x.block<W.heap.size:=by obtain⟨m,hm⟩:=k;exact DataW.trod_lt m _ _ _ hm
  exact⟨_,trodAll_cons_mk (Below.trod n (e t (List.mem_cons_self ..)).1 (e t (List.mem_cons_self ..)).2 k l w) u⟩
structure Seen(ρ:Env)(H:ad)(W:World):Prop where
 rel:Rel ρ H W
 ro:∀l,¬H.rw l
 top:∀l,H.next<=l->ρ l=none
def Seen.empty(W:World):Seen (λ_=>Z) ad.empty W:=
 have c:∀l,¬ad.empty.rw l:=λl a=>by
  rcases a with⟨e,s,h⟩|⟨es,h⟩|⟨t,e,s,h⟩<;>rw[ad.pX]at h<;>cases h
 ⟨JN W,c,λ_ _=>rfl⟩
def Seen.qd{ρ:Env}{H:ad}{W:World}(h:Seen ρ H W)(loc:Go.b9.Loc):ρ.le (ρ.eg H.next loc):=λl a e=>by
 have:l≠H.next:=by rintro rfl;rw[h.top _ (bf _)]at e;cases e
 simp only[Env.eg,if_neg this];exact e
def fi.mono{ρ d:Env}(hle:ρ.le d){w:World}{loc:Go.b9.Loc}{ro:Bool}{esz:Nat}{els:List (List aa)}(h:fi ρ w loc ro esz els):fi d w loc ro esz els:=by
 obtain⟨l,c,t,k,m,n,a⟩:=h;refine⟨l,c,t,k,m,n,λi e he=>⟨(a i e he).1,λj v o=> ?_⟩⟩;obtain⟨aZ,x,p,q⟩:=(a i e he).2 j v o;exact⟨aZ,x,p,q.mono hle⟩
def Seen.push{ρ:Env}{H:ad}{W:World}(h:Seen ρ H W){loc:Go.b9.Loc}{esz:Nat}{els:List (List aa)}(k:fi ρ W loc X esz els):Seen (ρ.eg H.next loc) (H.push (.row X esz els)) W:=by
 have hle:=h.qd loc;have d:∀l,¬(H.push (.row X esz els)).rw l:=by
  rintro l (⟨e,s,a⟩|⟨es,a⟩|⟨t,e,s,a⟩)
  ·rw[ad.p6]at a;split at a
   ·cases a
   ·exact h.ro l (.inl ⟨e,s,a⟩)
  ·rw[ad.p6]at a;split at a
   ·cases a
   ·exact h.ro l (.inr (.inl ⟨es,a⟩))
  ·rw[ad.p6]at a;split at a
   ·cases a
   ·exact h.ro l (.inr (.inr ⟨t,e,s,a⟩))
 refine⟨⟨λl ro e s a=> ?_,λl es a=> ?_,λl t e s a=>absurd (.inr (.inr ⟨t,e,s,a⟩)) (d l),λl l' _ _ c=>absurd c (d l)⟩,d,λl c=> ?_⟩
 ·rw[ad.p6]at a;split at a
  ·rename_i c;cases a;exact⟨loc,by simp[Env.eg,c],k.mono hle⟩
  ·obtain⟨m,i,j⟩:=h.rel.row l ro e s a;exact⟨m,hle _ _ i,j.mono hle⟩
 ·exact absurd (.inr (.inl ⟨es,a⟩)) (d l)
 ·simp only[ad.bQ]at c;have:l≠H.next:=af
  simp only[Env.eg,if_neg this];exact h.top l af
