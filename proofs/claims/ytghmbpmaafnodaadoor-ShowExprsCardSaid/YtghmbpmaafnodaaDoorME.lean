/-
  Texts of one proof, laid together: Hv24 Base Hv25 Pk Tab Hv26.
-/
import Derived.Test.YtghmbpmaafnodaaDoorMD
import Derived.Test.YtghmbpmaafnodaaDoorProg
import Derived.KernelRfl
import Derived.Lib.ItoaNum
import Derived.Lib.Join
import Derived.Lib.Repeat
import Derived.Lib.Small
import Derived.ProofKit
import Derived.OpenShut
import Derived.ShutString
import Derived.ChangeOld
import Derived.Below
import Derived.Carry
set_option linter.unusedVariables false
set_option linter.unusedSimpArgs false
set_option linter.defProp false
open Option renaming some→D,none→C
open Bool renaming true→X,false→U
namespace Go.bs
def W(m:O)(Q:aa->ad->Prop):Prop:=∃v H,m=D (v,H)/\Q v H
def ba{v:aa}{H:ad}{Q:aa->ad->Prop}:W (D (v,H)) Q↔Q v H:=by
 constructor
 ·rintro⟨a,H',h,q⟩;simp only[aV,b4]at h;obtain⟨rfl,rfl⟩:=h;exact q
 ·exactλq=>⟨v,H,rfl,q⟩
def W.mono{m:O}{Q a:aa->ad->Prop}(h:W m Q)(c:∀v H,Q v H->a v H):W m a:=by
 obtain⟨v,H,e,q⟩:=h;exact⟨v,H,e,c v H q⟩
def aP{r:O}{H:ad}{k:aa->ad->O}{Q a:aa->ad->Prop}(h:W r a)(i:∀v H',a v H'->H.next<=H'.next/\W (k v H') Q):W (aJ H r k) Q:=by
 obtain⟨v,H',e,q⟩:=h;obtain⟨c,d⟩:=i v H' q;rw[e];simp only[aJ,decide_eq_true c,aW];exact d
def iA{r:O}{H:ad}{q:K->O}{Q a:aa->ad->Prop}(h:W r a)(i:∀v H',a v H'->H.next<=H'.next/\W (q (.ea v H')) Q):W (eI H r q) Q:=by
 obtain⟨v,H',e,j⟩:=h;obtain⟨c,d⟩:=i v H' j;rw[e];simp only[eI,decide_eq_true c,aW];exact d
def mf{r:O}{H:ad}{x:aa}{k:aa->ad->O}{Q:aa->ad->Prop}(h:W r λv H'=>v=x/\H'=H)(a:W (k x H) Q):W (aJ H r k) Q:=by
 refine aP h ?_;rintro _ H' ⟨rfl,e⟩;rw[e];exact⟨bj _,a⟩
def o7{r:O}{H:ad}{x:aa}{q:K->O}{Q:aa->ad->Prop}(h:W r λv H'=>v=x/\H'=H)(a:W (q (.ea x H)) Q):W (eI H r q) Q:=by
 refine iA h ?_;rintro _ H' ⟨rfl,e⟩;rw[e];exact⟨bj _,a⟩
def cF{m m':O}{Q:aa->ad->Prop}(a:∀r,m=D r->m'=D r)(h:W m Q):W m' Q:=by
 obtain⟨v,H,e,q⟩:=h;exact⟨v,H,a _ e,q⟩
def hb:Nat:=0
def P6:Nat:=0
def Hg:hb=P6:=rfl
def qB(v:aa)(H:ad)(k:aa->ad->O):O:=k v H
section
variable {r cx:Option aa}{o pL:O}{m m':Option (aa×bW)}{h aZ:Option ad}{H H':ad}{a a':aa}{b cl:Bool}{z:Nat}
 @[congr] theorem Ql {k:aa->ad->O} (e:a=a') (d:H=H') (y:hb=z):qB a H k=qB a' H' k:=by rw[e,d]
def G6(H:ad)(cs:List aa)(k:aa->ad->O):cn H cs k=qB (.ptr H.next 0 0) (H.push (.row U cs.length [cs])) k:=rfl
def Hc(v:aa)(H:ad)(k:aa->ad->O):qB v H k=k v H:=rfl
 @[congr] theorem Qe {k:aa->O} (e:r=cx) (y:hb=z):j r k=j cx k:=by rw[e]
 @[congr] theorem Qg {k:aa->ad->O} (d:H=H') (e:o=pL) (y:hb=z):aJ H o k=aJ H' pL k:=by rw[d,e]
 @[congr] theorem Qh {k:K->O} (d:H=H') (e:o=pL) (y:hb=z):eI H o k=eI H' pL k:=by rw[d,e]
 @[congr] theorem Qp {k:ad->O} (d:H=H') (e:h=aZ) (y:hb=z):a8 H h k=a8 H' aZ k:=by rw[d,e]
 @[congr] theorem Qm {k:aa->ad->O} (d:H=H') (e:m=m') (y:hb=z):bZ H m k=bZ H' m' k:=by rw[d,e]
 @[congr] theorem Qn {k:K->O} (e:m=m') (y:hb=z):uQ m k=uQ m' k:=by rw[e]
 @[congr] theorem Qk {p q:O} (e:r=cx) (y:hb=z):aX r p q=aX cx p q:=by rw[e]
 @[congr] theorem P7 {p q:O} (e:b=cl) (y:hb=z):cond b p q=cond cl p q:=by rw[e]
 @[congr] theorem Qi {w:Bool} {f:(K->O)->O} {k:aa->ad->O} (e:a=a') (y:hb=z):aN a w H f k=aN a' w H f k:=by rw[e]
 @[congr] theorem Qj {w:Bool} {f:(K->O)->O} {k:K->O} (e:a=a') (y:hb=z):qA a w f k=qA a' w f k:=by rw[e]
 @[congr] theorem Qf {s s':Option aa} {k:K->O} (e:r=cx) (d:s=s') (y:hb=z):ha r s k=ha cx s' k:=by rw[d,e]
 @[congr] theorem P_ {q:K->O} (e:r=cx) (y:hb=z):bu r q=bu cx q:=by rw[e]
 @[congr] theorem Qa {q:K->O} (e:r=cx) (y:hb=z):qr r q=qr cx q:=by rw[e]
 @[congr] theorem Qb {q:K->O} (e:a=a') (y:hb=z):cv a q=cv a' q:=by rw[e]
def Eo(v:aa)(q:K->O):bu (D v) q=q (.pure v):=rfl
def Ep(v:aa)(q:K->O):qr (D v) q=q (.read v):=rfl
def Eu(v:aa)(q:K->O):cv v q=q (.pure v):=rfl
end
def Ey(k:IntKind)(n:Int):bl (D (.int k n)) (.int k n)=true:=by simp[bl,aa.beq]
def EA(x:List UInt8):bl (D (.str x)) (.str x)=true:=by simp[bl,aa.beq]
def Ex(x:Bool):bl (D (.bool x)) (.bool x)=true:=by simp[bl,aa.beq]
def lG(l i n e:Nat)(c:Option Nat):bl (D (.aB l i n e c)) (.aB l i n e c)=true:=by simp[bl,aa.beq]
def xk:bl (D .ar) .ar=true:=rfl
def Ez(x:List UInt8)(k:IntKind)(n:Int):bl (D (.agg [.str x,.int k n])) (.agg [.str x,.int k n])=true:=by simp[bl,aa.beq,fV.beq]
def ad.rf(H:ad)(b:bW)(l:Nat):(H.push b).get l=if l=H.next then D b else H.get l:=by
 split
 ·rename_i h;subst h;exact ad.bI H b
 ·rename_i h;exact ad.dw h
def bp.tG{α:Type}(x y:α):∀(p:List kr) (t:bp α),bp.dR y p (bp.dR x p t)=bp.dR y p t
 |[],.leaf=>rfl
 |[],.node .. =>rfl
 |d::p,.leaf=>by cases d<;>simp[bp.dR,bp.tG x y p]
 |d::p,.node .. =>by cases d<;>simp[bp.dR,bp.tG x y p]
def ad.Ly(H:ad)(b c:bW):(H.push b).set H.next c=H.push c:=by
 simp only[ad.push,ad.set,bp.put,bp.tG]
def ad.set_set(H:ad)(l:Nat)(b c:bW):(H.set l b).set l c=H.set l c:=by
 simp only[ad.set,bp.put,bp.tG]
def ad.sY{H:ad}{b:bW}{l:Nat}(h:l<=H.next)(aZ:H.next<=l):(H.push b).get l=D b:=by
 obtain rfl:l=H.next:=af
 exact ad.bI H b
def ad.Ek{H:ad}{b c:bW}{l:Nat}(h:l<=H.next)(aZ:H.next<=l):(H.push b).set l c=H.push c:=by
 obtain rfl:l=H.next:=af
 exact ad.Ly H b c
def c0(S:Nat->Prop)(H H':ad):Prop:=H.next<=H'.next/\∀l,l<H.next->¬S l->H'.get l=H.get l
def aO(H H':ad):Prop:=H.next<=H'.next/\∀l,l<H.next->H'.get l=H.get l
def aO.refl(H:ad):aO H H:=⟨bj _,λ_ _=>rfl⟩
def aO.trans{H H1 a:ad}(h:aO H H1)(k:aO H1 a):aO H a:=⟨Nat.le_trans h.1 k.1,λl c=>(k.2 l (Nat.lt_of_lt_of_le c h.1)).trans (h.2 l c)⟩
def aO.push(H:ad)(b:bW):aO H (H.push b):=⟨by simp,λl a=>ad.dw af⟩
def aO.bE{H H1:ad}(h:aO H H1)(b:bW):aO H (H1.push b):=h.trans (aO.push H1 b)
def aO.cE{H H1:ad}(h:aO H H1){l:Nat}(c:H.next<=l)(b:bW):aO H (H1.set l b):=
 ⟨h.1,λj a=>by rw[ad.get_set_other af];exact h.2 j a⟩
def aO.get{H H':ad}(h:aO H H'){l:Nat}{b:bW}(a:H.get l=D b):H'.get l=D b:=by rw[h.2 l (ad.aS a)];exact a
def aO.mut{H H':ad}(h:aO H H')(S:Nat->Prop):c0 S H H':=⟨h.1,λl a _=>h.2 l a⟩
def c0.refl(S:Nat->Prop)(H:ad):c0 S H H:=(aO.refl H).mut S
def c0.trans{S:Nat->Prop}{H H1 a:ad}(h:c0 S H H1)(k:c0 S H1 a):c0 S H a:=⟨Nat.le_trans h.1 k.1,λl c ax=>(k.2 l (Nat.lt_of_lt_of_le c h.1) ax).trans (h.2 l c ax)⟩
def c0.bE{S:Nat->Prop}{H H1:ad}(h:c0 S H H1)(b:bW):c0 S H (H1.push b):=h.trans ((aO.push H1 b).mut S)
def c0.cE{S:Nat->Prop}{H H1:ad}(h:c0 S H H1){l:Nat}(c:S l\/H.next<=l)(b:bW):c0 S H (H1.set l b):=
 ⟨h.1,λj a ax=>by rw[ad.get_set_other (by rintro rfl;exact c.elim ax af)];exact h.2 j a ax⟩
def c0.get{S:Nat->Prop}{H H':ad}(h:c0 S H H'){l:Nat}{b:bW}(a:H.get l=D b)(ax:¬S l):H'.get l=D b:=by rw[h.2 l (ad.aS a) ax];exact a
section
variable {P:Program}{H:ad}
def dT(v:aa)(k:aa->O):j (D v) k=k v:=rfl
def eH(b:Bool)(x y:O):aX (D (.bool b)) x y=bif b then x else y:=rfl
def eZ{v:aa}{H':ad}{k:aa->ad->O}(h:H.next<=H'.next):aJ H (D (v,H')) k=k v H':=by
 simp only[aJ,decide_eq_true h,aW]
def uR{H':ad}{k:ad->O}(h:H.next<=H'.next):a8 H (D H') k=k H':=by
 simp only[a8,Option.bind_some];exact eZ h
def uP(v:aa)(b:bW)(k:aa->ad->O):bZ H (D (v,b)) k=k v (H.push b):=rfl
def Hb(m:(K->O)->O)(k:aa->ad->O):aN (.bool X) X H m k=m (λx=>qB x.val (x.heap H) k):=rfl
def G8(m:(K->O)->O)(k:aa->ad->O):aN (.bool U) U H m k=m (λx=>qB x.val (x.heap H) k):=rfl
def Ha(m:(K->O)->O)(k:aa->ad->O):aN (.bool X) U H m k=k (.tuple []) H:=rfl
def G9(m:(K->O)->O)(k:aa->ad->O):aN (.bool U) X H m k=k (.tuple []) H:=rfl
def G_(w:Bool)(m:(K->O)->O)(k:aa->ad->O):aN (.tuple []) w H m k=k (.tuple []) H:=rfl
def G7(v:aa)(b:Option aa)(k:K->O):ha (D v) b k=k (.pure v):=rfl
def Ee(a b:Option aa):cu (.bool X) a b=a:=rfl
def Ed(a b:Option aa):cu (.bool U) a b=b:=rfl
def yY(b:Bool):fq .not (.bool b)=D (.bool (!b)):=rfl
def yM(l i c:Nat):b6 (.ptr l i c)=D (.ptr l i c):=rfl
def yq(v:aa):(K.pure v).val=v:=rfl
def yr(v:aa):(K.read v).val=v:=rfl
def yp(v:aa)(b:bW):(K.new v b).val=v:=rfl
def yo(v:aa)(H':ad):(K.ea v H').val=v:=rfl
def ys:K.skip.val= .tuple []:=rfl
def yl(v:aa):(K.pure v).heap H=H:=rfl
def ym(v:aa):(K.read v).heap H=H:=rfl
def yk(v:aa)(b:bW):(K.new v b).heap H=H.push b:=rfl
def yj(v:aa)(H':ad):(K.ea v H').heap H=H':=rfl
def yn:K.skip.heap H=H:=rfl
def yH(a:List aa)(i:Nat):d_ (.tuple a) i=a[i]? :=rfl
def A7(t:TypeId)(c:Bool)(k:IntKind)(a b:Int):aq P .add t c (.int k a) (.int k b)=D (.int k (k.wrap (a+b))):=by simp[aq,hR]
def Bf(t:TypeId)(c:Bool)(k:IntKind)(a b:Int):aq P .sub t c (.int k a) (.int k b)=D (.int k (k.wrap (a-b))):=by simp[aq,hR]
def Jd(t:TypeId)(c:Bool)(k:IntKind)(a b:Int):aq P .mul t c (.int k a) (.int k b)=D (.int k (k.wrap (a*b))):=by simp[aq,hR]
def A8(t:TypeId)(c:Bool)(k:IntKind)(a b:Int):aq P .eql t c (.int k a) (.int k b)=D (.bool (a==b)):=by simp[aq,hR]
def Bc(t:TypeId)(c:Bool)(k:IntKind)(a b:Int):aq P .neq t c (.int k a) (.int k b)=D (.bool (a != b)):=by simp[aq,hR]
def Bb(t:TypeId)(c:Bool)(k:IntKind)(a b:Int):aq P .lss t c (.int k a) (.int k b)=D (.bool (decide (a<b))):=by simp[aq,hR]
def Ba(t:TypeId)(c:Bool)(k:IntKind)(a b:Int):aq P .leq t c (.int k a) (.int k b)=D (.bool (decide (a<=b))):=by simp[aq,hR]
def A_(t:TypeId)(c:Bool)(k:IntKind)(a b:Int):aq P .gtr t c (.int k a) (.int k b)=D (.bool (decide (b<a))):=by simp[aq,hR]
def A9(t:TypeId)(c:Bool)(k:IntKind)(a b:Int):aq P .geq t c (.int k a) (.int k b)=D (.bool (decide (b<=a))):=by simp[aq,hR]
def Bd(t:TypeId)(c:Bool)(a b:List UInt8):aq P .eql t c (.str a) (.str b)=D (.bool (a==b)):=rfl
def Be(t:TypeId)(c:Bool)(a b:List UInt8):aq P .neq t c (.str a) (.str b)=D (.bool (!(a==b))):=rfl
def j3(t:TypeId)(c:Bool)(a b:List UInt8)(h:a.length+b.length<=9223372036854775807):aq P .add t c (.str a) (.str b)=D (.str (a++b)):=by
 simp only[aq,sh,if_pos h]
def FI{t:TypeId}{n:Nat}(j:cB P t=D n){l i c esz:Nat}{els:List (List aa)}{e:List aa}{v:aa}(h:H.get l=D (.row U esz els))(he:els[i]? =D e)(a:v.cells.length=n)(k:v.cells.all aa.one=X)(d:c+n<=esz):
  aU P H t (.ptr l i c) v=D (H.set l (.row U esz (els.set i (cW e c v.cells)))):=by
 simp only[aU,h,he];rw[if_pos ⟨by rw[j,a],by rw[a];exact d,k⟩]
def gF(k:IntKind)(n:Int):(aa.int k n).one=true:=rfl
def hp(x:List UInt8):(aa.str x).one=true:=rfl
def rI(x:Bool):(aa.bool x).one=true:=rfl
def w5(l i c:Nat):(aa.ptr l i c).one=true:=rfl
def w6(l i n e:Nat)(c:Option Nat):(aa.aB l i n e c).one=true:=rfl
def tt:aa.ar.one=true:=rfl
def w4(f:Fn)(a c:List aa):(aa.func f a c).one=true:=rfl
def iB{v:aa}(h:v.one=X):v.cells=[v]:=by cases v<;>first|rfl|cases h
def hk(l:Nat)(cs:List aa)(h:cs.all aa.one=X):dO l (.agg cs)=D (.ptr l 0 0,.row U cs.length [cs]):=by
 simp only[dO,aa.cells,h,aW]
end
end Go.bs
namespace Go.Proofs.YtghmbpmaafnodaaDoor
open Go.bs
noncomputable def P:Program:=Tryd.prog
noncomputable abbrev bm(f:Func):ek:=lH P f.results.toList
noncomputable abbrev sJ(f:Func)(G:az)(N:Nat):ek:=br P G N (bD f) (bm f) [] (bm f)
def bS{A B zC:ek}(h:∀ae H,A ae H=B ae H)(a:∀ae H,B ae H=zC ae H):∀ae H,A ae H=zC ae H:=λae H=>(h ae H).trans (a ae H)
def dY{A B:ek}{ae:cD}{H:ad}{t:O}(h:∀ae H,A ae H=B ae H)(a:B ae H=t):A ae H=t:=(h ae H).trans a
def Hd(H:ad)(r:Option ad)(k:aa->ad->O):O:=aJ H (r.bind λH'=>D (.tuple [],H')) k
 @[congr] theorem Qo {H a:ad} {h aZ:Option ad} {z:Nat} {k:aa->ad->O} (d:H=a) (e:h=aZ) (c:hb=z):Hd H h k=Hd a aZ k:=by rw[d,e]
def jN:List (List aa):=Lib.pow10Tab.map λn=>[.int .u64 n]
def h2:Env:=λl=>match l with
 |0=>D ⟨0,0,1,20⟩
 |_=>C
def l5:List (List aa)->Option (List (List UInt8))
 |[]=>D []
 |[.str s]::es=>(l5 es).map (s:: ·)
 |_=>C
open Classical in
noncomputable def ay:az:=λf args H=>match f,args with
 |42,[.int .i64 n]=>if-9223372036854775808<=n/\n<=9223372036854775807/\H.get 0=D (.row X 1 jN)then D (.str (Lib.itoa n),H)else C
 |43,[.bool b]=>D (.str (Lib.formatBool b),H)
 |54,[.str s,.int .i64 n]=>if 0<=n/\n<=9223372036854775807/\s.length*n.toNat<=140737488355328 then D (.str (Lib.repeatL s n.toNat),H)else C
 |59,[.ar,.str _]=>D (.str [],H)
 |59,[.aB l i n 1 _,.str sep]=>(match eK H l i n 1 with
  |some es=>(match l5 es with
   |some xs=>if xs.length<=140737488355328/\(Lib.join xs sep).length<=140737488355328 then D (.str (Lib.join xs sep),H)else C
   |none=>C)
  |none=>C)
 |80,[.ptr l 0 0]=>(match H.get l with
  |some (.b1 81 2 [[.nilPtr,b]])=>if b.one=X then D (.tuple [],H.set l (.b1 81 2 [[.ptr l 0 0,b]]))else C
  |some (.b1 81 2 [[.ptr l' 0 0,_]])=>if l'=l then D (.tuple [],H)else C
  |_=>C)
 |32,[.ptr l 0 0]=>(match H.get l with
  |some (.b1 81 2 [[_,.ar]])=>D (.str [],H)
  |some (.b1 81 2 [[_,.aB m j n 1 _]])=>(match H.get m with
   |some (.b1 5 1 es)=>(match bytesOf ((es.drop j).take n)with
    |some a=>if 0<n/\j+n<=es.length/\j=0/\n<=140737488355328/\(es.drop j).take n=a.map (λb=>[.int .u8 b.toNat])then D (.str a,H.set m .dead)else C
    |none=>C)
   |_=>C)
  |_=>C)
 |_,_=>C
def MX{f:Nat}{fn:Func}{N:Nat}{args:List aa}{H:ad}{r:aa×ad}(a:ay f args H=C)(e:P.funcs[f]? =D fn)(c:fn.body=D (bD fn))(d:iX fn.ntmps (bD fn)=X)(i:Nat.ble args.length fn.ntmps=X)(h:sJ fn (aD P ay) N (lq args) H=D r):aD P ay f args H=D r:=I7 a e c d i h
def cV{f:Nat}{fn:Func}(N:Nat){args:List aa}{H:ad}{r:aa×ad}{S:az->O}(e:P.funcs[f]? =D fn)(he:∀G,sJ fn G N (lq args) H=S G)(h:S (aD P ay)=D r)(a:ay f args H=none:=by first|kernel_rfl)(c:fn.body=D (bD fn):=by first|kernel_rfl)(d:iX fn.ntmps (bD fn)=true:=by first|kernel_rfl)(i:Nat.ble args.length fn.ntmps=true:=by first|kernel_rfl):aD P ay f args H=D r:=MX a e c d i ((he _).trans h)
end Go.Proofs.YtghmbpmaafnodaaDoor
namespace Go.bs
def bp.xj{α:Type}(x y:α):∀(p q:List kr) (t:bp α),p≠q->bp.dR x p (bp.dR y q t)=bp.dR y q (bp.dR x p t)
 |[],[],_,h=>absurd rfl h
 |[],d::q,.leaf,_=>by cases d<;>simp[bp.dR]
 |[],d::q,.node ..,_=>by cases d<;>simp[bp.dR]
 |d::p,[],.leaf,_=>by cases d<;>simp[bp.dR]
 |d::p,[],.node ..,_=>by cases d<;>simp[bp.dR]
 |d::p,e::q,.leaf,h=>by
  by_cases a:d=e
  ·subst a;have j:=bp.xj x y p q .leaf (λi=>h (by rw[i]));cases d<;>simp[bp.dR,j]
  ·cases d<;>cases e<;>first|exact absurd rfl a|simp[bp.dR]
 |d::p,e::q,.node v k l m n o s u w,h=>by
  by_cases a:d=e
  ·subst a;have j:=λc=>bp.xj x y p q c (λi=>h (by rw[i]))
   cases d<;>simp[bp.dR,j]
  ·cases d<;>cases e<;>first|exact absurd rfl a|simp[bp.dR]
def ad.gd{H:ad}{b c:bW}{l:Nat}(h:l<H.next):(H.push b).set l c=(H.set l c).push b:=by
 simp only[ad.push,ad.set,bp.put];rw[bp.xj _ _ _ _ _ (λe=>by have:=Eb e;omega)]
section
variable {E:Env}{P:Program}{ay:az}
def z7(e:nz P){G:az}(l:jn E P G){N f:Nat}{args:List aa}{H H1:ad}{fn:Func}{c:Code}{ex:aA}{ae:bb}{k:List aa}
  (a:P.funcs[f]? =D fn) (h:fn.body=D c) (p:cH (fr P G) N c (bb.enter fn.ntmps args) H=D (ex,ae,H1)) (v:∀id,ex≠ .exit id) (A:hA P ae H1 fn.results.toList=D k):iQ E P f args H (mh k) H1:=by
 intro ρ w xs m q n K next y
 have o:=z8 (N:=N) EG (EH e.mixed l) c (e.Eh _ _ _ a h);have u:(fn.name== "runtime.NumGoroutine")=false:=e.names fn (Array.mem_of_getElem? a);have z:(callFunc f xs.toArray).run P w= .ok (.enter f xs.toArray) w:=by
  unfold callFunc;simp[a,h];intro s;simp[s]at u
 unfold me;rw[z];simp only
 refine calls_of_wp a h (o _ _ _ _ _ p ρ w _ _ m q (zW n fn.ntmps) λF a' B d i=> ?_);obtain⟨x,an,aE⟩:=EM i.rel d A;have j:=y x B F aE i;cases ex with
 |normal=>exact⟨d.none,x,an,j⟩
 |ret=>exact⟨d.none,x,an,j⟩
 |exit id=>exact absurd rfl (v id)
def IS(j:nz P){G:az}(i:jn E P G){f:Nat}{args:List aa}{H:ad}{fn:Func}{c:Code}{M:Nat}{r:aa×ad}(m:P.funcs[f]? =D fn)(l:fn.body=D c)(n:iX fn.ntmps c=X)(o:Nat.ble args.length fn.ntmps=X)
  (h:br P G M c (lH P fn.results.toList) [] (lH P fn.results.toList) (lq args) H=D r):iQ E P f args H r.1 r.2:=by
 have ax:(bb.enter fn.ntmps args).size=fn.ntmps:=by have:=Nat.le_of_ble_eq_true o;simp only[bb.enter];omega
 rw[<-yS fn.ntmps,zN c _ _ _ _ _ (by rw[ax];exact n)]at h;unfold pk at h;have fin:∀(ae:bb) (H':ad),lH P fn.results.toList ae.get H'=D r->∃d,hA P ae H' fn.results.toList=D d/\r=(mh d,H'):=by
  intro ae H' a;unfold lH at a;rw[tI]at a;cases k:hA P ae H' fn.results.toList with
  |none=>rw[k]at a;cases a
  |some d=>rw[k]at a;exact⟨d,rfl,(Option.some.inj a).symm⟩
 split at h
 ·rename_i ae H' he;obtain⟨d,e,rfl⟩:=fin ae H' h;exact z7 j i m l he (λid=>by intro a;cases a) e
 ·cases h
 ·rename_i ae H' he;obtain⟨d,e,rfl⟩:=fin ae H' h;exact z7 j i m l he (λid=>by intro a;cases a) e
 ·cases h
def Rel.Kj{ρ:Env}{H:ad}{w k:World}(h:Rel ρ H w)(m:∀b,b<w.heap.size->k.heap[b]? =w.heap[b]?):Rel ρ H k:=by
 have key:∀b x,w.heap[b]? =D x->k.heap[b]? =D x:=λb x e=>by
  rw[m b ?_];exact e;exact(Array.getElem?_eq_some_iff.1 e).1
 refine⟨λl ro esz els e=> ?_,λl es e=> ?_,λl t esz els e=> ?_,h.apart⟩
 ·obtain⟨loc,a,d,c,t,n,i,j⟩:=h.row l ro esz els e;exact⟨loc,a,d,c,t,n,key _ _ i,j⟩
 ·obtain⟨loc,a,ents,clock,i,j⟩:=h.map l es e;exact⟨loc,a,ents,clock,key _ _ i,j⟩
 ·obtain⟨loc,a,d⟩:=h.b1 l t esz els e;exact⟨loc,a,d.frame ρ.le_refl (m _ d.1.lt)⟩
def ad.q5(l:Nat):ad.empty.get l=none:=by
 cases h:ad.empty.get l with
 |none=>rfl
 |some b=>exact absurd (ad.aS h) (Nat.not_lt_zero l)
def LL(w:World):Rel (λ_=>C) ad.empty w:=by
 refine⟨λl ro esz els e=> ?_,λl es e=> ?_,λl t esz els e=> ?_,λl l' loc a _ _ _ h=> ?_⟩
 ·rw[ad.q5]at e;cases e
 ·rw[ad.q5]at e;cases e
 ·rw[ad.q5]at e;cases e
 ·cases h
end
end Go.bs
namespace Go.Proofs.YtghmbpmaafnodaaDoor
open Go.bs
section
def K2(a:List Func):Bool:=a.all λfn=> !(fn.name== "runtime.NumGoroutine")
def IE(a:List Func):Bool:=a.all λfn=>match fn.body with
 |some c=>kc c
 |none=>X
def Lx{P:Program}(a:P.follows .mixedOrders=X)(d:K2 P.funcs.toList=X)(e:IE P.funcs.toList=X):nz P:=by
 refine⟨a,λfn j=> ?_,λf fn c i h=> ?_⟩
 ·have:=List.all_eq_true.1 d fn (Array.mem_toList_iff.2 j);simpa using this
 ·have:=List.all_eq_true.1 e fn (Array.mem_toList_iff.2 (Array.mem_of_getElem? i));simpa [h]using this
set_option maxRecDepth 1000000
def tD:nz P:=Lx ah ah ah
end
def FU:dX P 3=D false:=ah
def Gv:cB P 3=D 1:=ah
def FW:dX P 4=D false:=ah
def Gx:cB P 4=D 1:=ah
def zX{c:Bool}(a b:Bool):aq P .eql 4 c (.bool a) (.bool b)=D (.bool (a==b)):=ah
def DD{c:Bool}(a b:Bool):aq P .neq 4 c (.bool a) (.bool b)=D (.bool (!(a==b))):=ah
def F1:dX P 5=D false:=ah
def oV:cB P 5=D 1:=ah
def Ga:dX P 9=D false:=ah
def x4:cB P 9=D 1:=ah
def Dd{H:ad}{s:List UInt8}:b_ P H .len [9] [.str s]=D (.int .i64 s.length):=ah
def FN:dX P 22=D false:=ah
def Gp:cB P 22=D 1:=ah
def JX(l i n:Nat)(cap:Option Nat)(k:Int):cM P 22 (.aB l i n 3 cap) (.int .i64 k)=if 3=3/\0<=k/\k<n then D (.ptr l (i+k.toNat) 0)else none:=ah
def Ci{l i n:Nat}{cap:Option Nat}{k:Int}(a:0<=k)(c:k<n):cM P 22 (.aB l i n 3 cap) (.int .i64 k)=D (.ptr l (i+k.toNat) 0):=by rw[JX,if_pos ⟨rfl,a,c⟩]
def rv{H:ad}{l i n e:Nat}{cap:Option Nat}:b_ P H .len [22] [.aB l i n e cap]=D (.int .i64 n):=ah
def te{H:ad}:b_ P H .len [22] [.ar]=D (.int .i64 0):=ah
def FO:dX P 23=D false:=ah
def Gq:cB P 23=D 1:=ah
def JY(l i n:Nat)(cap:Option Nat)(k:Int):cM P 23 (.aB l i n 4 cap) (.int .i64 k)=if 4=4/\0<=k/\k<n then D (.ptr l (i+k.toNat) 0)else none:=ah
def Cj{l i n:Nat}{cap:Option Nat}{k:Int}(a:0<=k)(c:k<n):cM P 23 (.aB l i n 4 cap) (.int .i64 k)=D (.ptr l (i+k.toNat) 0):=by rw[JY,if_pos ⟨rfl,a,c⟩]
def ry{H:ad}{l i n e:Nat}{cap:Option Nat}:b_ P H .len [23] [.aB l i n e cap]=D (.int .i64 n):=ah
def tf{H:ad}:b_ P H .len [23] [.ar]=D (.int .i64 0):=ah
def FP:dX P 24=D false:=ah
def Gr:cB P 24=D 1:=ah
def JZ(l i n:Nat)(cap:Option Nat)(k:Int):cM P 24 (.aB l i n 7 cap) (.int .i64 k)=if 7=7/\0<=k/\k<n then D (.ptr l (i+k.toNat) 0)else none:=ah
def Ck{l i n:Nat}{cap:Option Nat}{k:Int}(a:0<=k)(c:k<n):cM P 24 (.aB l i n 7 cap) (.int .i64 k)=D (.ptr l (i+k.toNat) 0):=by rw[JZ,if_pos ⟨rfl,a,c⟩]
def rz{H:ad}{l i n e:Nat}{cap:Option Nat}:b_ P H .len [24] [.aB l i n e cap]=D (.int .i64 n):=ah
def tg{H:ad}:b_ P H .len [24] [.ar]=D (.int .i64 0):=ah
def FQ:dX P 26=D true:=ah
def Gs:cB P 26=D 3:=ah
def Aq(l i c:Nat):aH P 26 (.ptr l i c) 0=D (.ptr l i (c+0)):=ah
def Bt(a0 aT a2:aa):cL P 26 (.agg [a0,aT,a2]) 0=D a0:=ah
def Ar(l i c:Nat):aH P 26 (.ptr l i c) 1=D (.ptr l i (c+1)):=ah
def Bu(a0 aT a2:aa):cL P 26 (.agg [a0,aT,a2]) 1=D aT:=ah
def As(l i c:Nat):aH P 26 (.ptr l i c) 2=D (.ptr l i (c+2)):=ah
def Bv(a0 aT a2:aa):cL P 26 (.agg [a0,aT,a2]) 2=D a2:=ah
def FR:dX P 27=D false:=ah
def Gt:cB P 27=D 1:=ah
def FT:dX P 29=D true:=ah
def Gu:cB P 29=D 2:=ah
def At(l i c:Nat):aH P 29 (.ptr l i c) 0=D (.ptr l i (c+0)):=ah
def Bw(a0 aT:aa):cL P 29 (.agg [a0,aT]) 0=D a0:=ah
def Au(l i c:Nat):aH P 29 (.ptr l i c) 1=D (.ptr l i (c+1)):=ah
def Bx(a0 aT:aa):cL P 29 (.agg [a0,aT]) 1=D aT:=ah
def FV:dX P 36=D false:=ah
def Gw:cB P 36=D 1:=ah
def J0(l i n:Nat)(cap:Option Nat)(k:Int):cM P 36 (.aB l i n 4 cap) (.int .i64 k)=if 4=4/\0<=k/\k<n then D (.ptr l (i+k.toNat) 0)else none:=ah
def wb{l i n:Nat}{cap:Option Nat}{k:Int}(a:0<=k)(c:k<n):cM P 36 (.aB l i n 4 cap) (.int .i64 k)=D (.ptr l (i+k.toNat) 0):=by rw[J0,if_pos ⟨rfl,a,c⟩]
def rA{H:ad}{l i n e:Nat}{cap:Option Nat}:b_ P H .len [36] [.aB l i n e cap]=D (.int .i64 n):=ah
def th{H:ad}:b_ P H .len [36] [.ar]=D (.int .i64 0):=ah
def FX:dX P 40=D true:=ah
def Gy:cB P 40=D 2:=ah
def Av(l i c:Nat):aH P 40 (.ptr l i c) 0=D (.ptr l i (c+0)):=ah
def By(a0 aT:aa):cL P 40 (.agg [a0,aT]) 0=D a0:=ah
def Aw(l i c:Nat):aH P 40 (.ptr l i c) 1=D (.ptr l i (c+1)):=ah
def Bz(a0 aT:aa):cL P 40 (.agg [a0,aT]) 1=D aT:=ah
def FY:dX P 41=D false:=ah
def Gz:cB P 41=D 1:=ah
def J1(l i n:Nat)(cap:Option Nat)(k:Int):cM P 41 (.aB l i n 11 cap) (.int .i64 k)=if 11=11/\0<=k/\k<n then D (.ptr l (i+k.toNat) 0)else none:=ah
def Cl{l i n:Nat}{cap:Option Nat}{k:Int}(a:0<=k)(c:k<n):cM P 41 (.aB l i n 11 cap) (.int .i64 k)=D (.ptr l (i+k.toNat) 0):=by rw[J1,if_pos ⟨rfl,a,c⟩]
def mA{H:ad}{l i n e:Nat}{cap:Option Nat}:b_ P H .len [41] [.aB l i n e cap]=D (.int .i64 n):=ah
def rB{H:ad}:b_ P H .len [41] [.ar]=D (.int .i64 0):=ah
def FZ:dX P 43=D true:=ah
def GA:cB P 43=D 3:=ah
def Ax(l i c:Nat):aH P 43 (.ptr l i c) 0=D (.ptr l i (c+0)):=ah
def BA(a0 aT a2:aa):cL P 43 (.agg [a0,aT,a2]) 0=D a0:=ah
def Ay(l i c:Nat):aH P 43 (.ptr l i c) 1=D (.ptr l i (c+1)):=ah
def BB(a0 aT a2:aa):cL P 43 (.agg [a0,aT,a2]) 1=D aT:=ah
def Az(l i c:Nat):aH P 43 (.ptr l i c) 2=D (.ptr l i (c+2)):=ah
def BD(a0 aT a2:aa):cL P 43 (.agg [a0,aT,a2]) 2=D a2:=ah
def F0:dX P 45=D true:=ah
def uI:cB P 45=D 11:=ah
def AA(l i c:Nat):aH P 45 (.ptr l i c) 0=D (.ptr l i (c+0)):=ah
def BE(a0 aT a2 a3 a4 a5 c d e a9 a:aa):cL P 45 (.agg [a0,aT,a2,a3,a4,a5,c,d,e,a9,a]) 0=D a0:=ah
def AD(l i c:Nat):aH P 45 (.ptr l i c) 1=D (.ptr l i (c+1)):=ah
def BF(a0 aT a2 a3 a4 a5 c d e a9 a:aa):cL P 45 (.agg [a0,aT,a2,a3,a4,a5,c,d,e,a9,a]) 1=D aT:=ah
def AE(l i c:Nat):aH P 45 (.ptr l i c) 2=D (.ptr l i (c+2)):=ah
def BG(a0 aT a2 a3 a4 a5 c d e a9 a:aa):cL P 45 (.agg [a0,aT,a2,a3,a4,a5,c,d,e,a9,a]) 2=D a2:=ah
def AF(l i c:Nat):aH P 45 (.ptr l i c) 3=D (.ptr l i (c+3)):=ah
def BH(a0 aT a2 a3 a4 a5 c d e a9 a:aa):cL P 45 (.agg [a0,aT,a2,a3,a4,a5,c,d,e,a9,a]) 3=D (.agg [a3,a4]):=ah
def AG(l i c:Nat):aH P 45 (.ptr l i c) 4=D (.ptr l i (c+5)):=ah
def BI(a0 aT a2 a3 a4 a5 c d e a9 a:aa):cL P 45 (.agg [a0,aT,a2,a3,a4,a5,c,d,e,a9,a]) 4=D a5:=ah
def AH(l i c:Nat):aH P 45 (.ptr l i c) 5=D (.ptr l i (c+6)):=ah
def BJ(a0 aT a2 a3 a4 a5 a d e a9 c:aa):cL P 45 (.agg [a0,aT,a2,a3,a4,a5,a,d,e,a9,c]) 5=D a:=ah
def AI(l i c:Nat):aH P 45 (.ptr l i c) 6=D (.ptr l i (c+7)):=ah
def BK(a0 aT a2 a3 a4 a5 e a c a9 d:aa):cL P 45 (.agg [a0,aT,a2,a3,a4,a5,e,a,c,a9,d]) 6=D (.agg [a,c,a9]):=ah
def AJ(l i c:Nat):aH P 45 (.ptr l i c) 7=D (.ptr l i (c+10)):=ah
def BL(a0 aT a2 a3 a4 a5 c d e a9 a:aa):cL P 45 (.agg [a0,aT,a2,a3,a4,a5,c,d,e,a9,a]) 7=D a:=ah
def si:dX P 50=D false:=ah
def GB:cB P 50=D 1:=ah
def J2(l i n:Nat)(cap:Option Nat)(k:Int):cM P 50 (.aB l i n 1 cap) (.int .i64 k)=if 1=1/\0<=k/\k<n then D (.ptr l (i+k.toNat) 0)else none:=ah
def wc{l i n:Nat}{cap:Option Nat}{k:Int}(a:0<=k)(c:k<n):cM P 50 (.aB l i n 1 cap) (.int .i64 k)=D (.ptr l (i+k.toNat) 0):=by rw[J2,if_pos ⟨rfl,a,c⟩]
def C8{H:ad}{l i n e:Nat}{cap:Option Nat}:b_ P H .len [50] [.aB l i n e cap]=D (.int .i64 n):=ah
def C9{H:ad}:b_ P H .len [50] [.ar]=D (.int .i64 0):=ah
def sj:dX P 51=D false:=ah
def GC:cB P 51=D 1:=ah
def J3(l i n:Nat)(cap:Option Nat)(k:Int):cM P 51 (.aB l i n 1 cap) (.int .i64 k)=if 1=1/\0<=k/\k<n then D (.ptr l (i+k.toNat) 0)else none:=ah
def we{l i n:Nat}{cap:Option Nat}{k:Int}(a:0<=k)(c:k<n):cM P 51 (.aB l i n 1 cap) (.int .i64 k)=D (.ptr l (i+k.toNat) 0):=by rw[J3,if_pos ⟨rfl,a,c⟩]
def C_{H:ad}{l i n e:Nat}{cap:Option Nat}:b_ P H .len [51] [.aB l i n e cap]=D (.int .i64 n):=ah
def Da{H:ad}:b_ P H .len [51] [.ar]=D (.int .i64 0):=ah
def po(l i c:Nat):aH P 59 (.ptr l i c) 0=D (.ptr l i (c+0)):=ah
def BM(a0 aT a2 a3 a4:aa):cL P 59 (.agg [a0,aT,a2,a3,a4]) 0=D a0:=ah
def pr(l i c:Nat):aH P 59 (.ptr l i c) 1=D (.ptr l i (c+1)):=ah
def BN(a0 aT a2 a3 a4:aa):cL P 59 (.agg [a0,aT,a2,a3,a4]) 1=D aT:=ah
def AK(l i c:Nat):aH P 59 (.ptr l i c) 2=D (.ptr l i (c+2)):=ah
def BO(a0 aT a2 a3 a4:aa):cL P 59 (.agg [a0,aT,a2,a3,a4]) 2=D a2:=ah
def AL(l i c:Nat):aH P 59 (.ptr l i c) 3=D (.ptr l i (c+3)):=ah
def BP(a0 aT a2 a3 a4:aa):cL P 59 (.agg [a0,aT,a2,a3,a4]) 3=D (.agg [a3,a4]):=ah
def F2:dX P 61=D true:=ah
def uJ:cB P 61=D 4:=ah
def AM(l i c:Nat):aH P 61 (.ptr l i c) 0=D (.ptr l i (c+0)):=ah
def BQ(a0 aT a2 a3:aa):cL P 61 (.agg [a0,aT,a2,a3]) 0=D a0:=ah
def AN(l i c:Nat):aH P 61 (.ptr l i c) 1=D (.ptr l i (c+1)):=ah
def BR(a0 aT a2 a3:aa):cL P 61 (.agg [a0,aT,a2,a3]) 1=D aT:=ah
def AO(l i c:Nat):aH P 61 (.ptr l i c) 2=D (.ptr l i (c+2)):=ah
def BS(a0 aT a2 a3:aa):cL P 61 (.agg [a0,aT,a2,a3]) 2=D a2:=ah
def AP(l i c:Nat):aH P 61 (.ptr l i c) 3=D (.ptr l i (c+3)):=ah
def BT(a0 aT a2 a3:aa):cL P 61 (.agg [a0,aT,a2,a3]) 3=D a3:=ah
def F3:dX P 65=D true:=ah
def x1:cB P 65=D 3:=ah
def AQ(l i c:Nat):aH P 65 (.ptr l i c) 0=D (.ptr l i (c+0)):=ah
def BU(a0 aT a2:aa):cL P 65 (.agg [a0,aT,a2]) 0=D a0:=ah
def AR(l i c:Nat):aH P 65 (.ptr l i c) 1=D (.ptr l i (c+1)):=ah
def BV(a0 aT a2:aa):cL P 65 (.agg [a0,aT,a2]) 1=D aT:=ah
def AS(l i c:Nat):aH P 65 (.ptr l i c) 2=D (.ptr l i (c+2)):=ah
def BW(a0 aT a2:aa):cL P 65 (.agg [a0,aT,a2]) 2=D a2:=ah
def F4:dX P 68=D true:=ah
def x2:cB P 68=D 4:=ah
def AT(l i c:Nat):aH P 68 (.ptr l i c) 0=D (.ptr l i (c+0)):=ah
def BX(a0 aT a2 a3:aa):cL P 68 (.agg [a0,aT,a2,a3]) 0=D a0:=ah
def AU(l i c:Nat):aH P 68 (.ptr l i c) 1=D (.ptr l i (c+1)):=ah
def BY(a0 aT a2 a3:aa):cL P 68 (.agg [a0,aT,a2,a3]) 1=D (.agg [aT,a2]):=ah
def AV(l i c:Nat):aH P 68 (.ptr l i c) 2=D (.ptr l i (c+3)):=ah
def BZ(a0 aT a2 a3:aa):cL P 68 (.agg [a0,aT,a2,a3]) 2=D a3:=ah
def xS:dX P 71=D false:=ah
def so:cB P 71=D 1:=ah
def J4(l i n:Nat)(cap:Option Nat)(k:Int):cM P 71 (.aB l i n 9 cap) (.int .i64 k)=if 9=9/\0<=k/\k<n then D (.ptr l (i+k.toNat) 0)else none:=ah
def Cm{l i n:Nat}{cap:Option Nat}{k:Int}(a:0<=k)(c:k<n):cM P 71 (.aB l i n 9 cap) (.int .i64 k)=D (.ptr l (i+k.toNat) 0):=by rw[J4,if_pos ⟨rfl,a,c⟩]
def ti{H:ad}{l i n e:Nat}{cap:Option Nat}:b_ P H .len [71] [.aB l i n e cap]=D (.int .i64 n):=ah
def wO{H:ad}:b_ P H .len [71] [.ar]=D (.int .i64 0):=ah
def F5:dX P 73=D true:=ah
def x3:cB P 73=D 7:=ah
def AW(l i c:Nat):aH P 73 (.ptr l i c) 0=D (.ptr l i (c+0)):=ah
def B0(a0 aT a2 a3 a4 a5 a:aa):cL P 73 (.agg [a0,aT,a2,a3,a4,a5,a]) 0=D a0:=ah
def AX(l i c:Nat):aH P 73 (.ptr l i c) 1=D (.ptr l i (c+1)):=ah
def B1(a0 aT a2 a3 a4 a5 a:aa):cL P 73 (.agg [a0,aT,a2,a3,a4,a5,a]) 1=D aT:=ah
def AY(l i c:Nat):aH P 73 (.ptr l i c) 2=D (.ptr l i (c+2)):=ah
def B2(a0 aT a2 a3 a4 a5 a:aa):cL P 73 (.agg [a0,aT,a2,a3,a4,a5,a]) 2=D a2:=ah
def AZ(l i c:Nat):aH P 73 (.ptr l i c) 3=D (.ptr l i (c+3)):=ah
def B3(a0 aT a2 a3 a4 a5 a:aa):cL P 73 (.agg [a0,aT,a2,a3,a4,a5,a]) 3=D (.agg [a3,a4]):=ah
def A0(l i c:Nat):aH P 73 (.ptr l i c) 4=D (.ptr l i (c+5)):=ah
def B4(a0 aT a2 a3 a4 a5 a:aa):cL P 73 (.agg [a0,aT,a2,a3,a4,a5,a]) 4=D a5:=ah
def A1(l i c:Nat):aH P 73 (.ptr l i c) 5=D (.ptr l i (c+6)):=ah
def B5(a0 aT a2 a3 a4 a5 a:aa):cL P 73 (.agg [a0,aT,a2,a3,a4,a5,a]) 5=D a:=ah
def F6:dX P 75=D false:=ah
def GD:cB P 75=D 1:=ah
def F7:dX P 76=D false:=ah
def GF:cB P 76=D 1:=ah
def F8:dX P 77=D false:=ah
def GG:cB P 77=D 1:=ah
def J5(l i n:Nat)(cap:Option Nat)(k:Int):cM P 77 (.aB l i n 1 cap) (.int .i64 k)=if 1=1/\0<=k/\k<n then D (.ptr l (i+k.toNat) 0)else none:=ah
def Cn{l i n:Nat}{cap:Option Nat}{k:Int}(a:0<=k)(c:k<n):cM P 77 (.aB l i n 1 cap) (.int .i64 k)=D (.ptr l (i+k.toNat) 0):=by rw[J5,if_pos ⟨rfl,a,c⟩]
def Db{H:ad}{l i n e:Nat}{cap:Option Nat}:b_ P H .len [77] [.aB l i n e cap]=D (.int .i64 n):=ah
def Dc{H:ad}:b_ P H .len [77] [.ar]=D (.int .i64 0):=ah
def F9:dX P 79=D true:=ah
def GI:cB P 79=D 2:=ah
def A2(l i c:Nat):aH P 79 (.ptr l i c) 0=D (.ptr l i (c+0)):=ah
def B6(a0 aT:aa):cL P 79 (.agg [a0,aT]) 0=D a0:=ah
def A3(l i c:Nat):aH P 79 (.ptr l i c) 1=D (.ptr l i (c+1)):=ah
def B7(a0 aT:aa):cL P 79 (.agg [a0,aT]) 1=D aT:=ah
def F_:dX P 81=D true:=ah
def GJ:cB P 81=D 2:=ah
def A4(l i c:Nat):aH P 81 (.ptr l i c) 0=D (.ptr l i (c+0)):=ah
def B8(a0 aT:aa):cL P 81 (.agg [a0,aT]) 0=D (.agg [a0,aT]):=ah
def xR:dX P 112=D true:=ah
def qq:cB P 112=D 9:=ah
def Ai(l i c:Nat):aH P 112 (.ptr l i c) 0=D (.ptr l i (c+0)):=ah
def Bl(a0 aT a2 a3 a4 a5 a c d:aa):cL P 112 (.agg [a0,aT,a2,a3,a4,a5,a,c,d]) 0=D a0:=ah
def Aj(l i c:Nat):aH P 112 (.ptr l i c) 1=D (.ptr l i (c+1)):=ah
def Bm(a0 aT a2 a3 a4 a5 a c d:aa):cL P 112 (.agg [a0,aT,a2,a3,a4,a5,a,c,d]) 1=D aT:=ah
def Ak(l i c:Nat):aH P 112 (.ptr l i c) 2=D (.ptr l i (c+2)):=ah
def Bn(a0 aT a2 a3 a4 a5 a c d:aa):cL P 112 (.agg [a0,aT,a2,a3,a4,a5,a,c,d]) 2=D (.agg [a2,a3]):=ah
def Al(l i c:Nat):aH P 112 (.ptr l i c) 3=D (.ptr l i (c+4)):=ah
def Bo(a0 aT a2 a3 a4 a5 a c d:aa):cL P 112 (.agg [a0,aT,a2,a3,a4,a5,a,c,d]) 3=D a4:=ah
def Am(l i c:Nat):aH P 112 (.ptr l i c) 4=D (.ptr l i (c+5)):=ah
def Bp(a0 aT a2 a3 a4 a5 a c d:aa):cL P 112 (.agg [a0,aT,a2,a3,a4,a5,a,c,d]) 4=D a5:=ah
def An(l i c:Nat):aH P 112 (.ptr l i c) 5=D (.ptr l i (c+6)):=ah
def Bq(a0 aT a2 a3 a4 a5 a c d:aa):cL P 112 (.agg [a0,aT,a2,a3,a4,a5,a,c,d]) 5=D a:=ah
def Ao(l i c:Nat):aH P 112 (.ptr l i c) 6=D (.ptr l i (c+7)):=ah
def Br(a0 aT a2 a3 a4 a5 c a d:aa):cL P 112 (.agg [a0,aT,a2,a3,a4,a5,c,a,d]) 6=D a:=ah
def Ap(l i c:Nat):aH P 112 (.ptr l i c) 7=D (.ptr l i (c+8)):=ah
def Bs(a0 aT a2 a3 a4 a5 c d a:aa):cL P 112 (.agg [a0,aT,a2,a3,a4,a5,c,d,a]) 7=D a:=ah
def FL:dX P 131=D false:=ah
def Gm:cB P 131=D 1:=ah
def JV(l i n:Nat)(cap:Option Nat)(k:Int):cM P 131 (.aB l i n 1 cap) (.int .i64 k)=if 1=1/\0<=k/\k<n then D (.ptr l (i+k.toNat) 0)else none:=ah
def v_{l i n:Nat}{cap:Option Nat}{k:Int}(a:0<=k)(c:k<n):cM P 131 (.aB l i n 1 cap) (.int .i64 k)=D (.ptr l (i+k.toNat) 0):=by rw[JV,if_pos ⟨rfl,a,c⟩]
def C4{H:ad}{l i n e:Nat}{cap:Option Nat}:b_ P H .len [131] [.aB l i n e cap]=D (.int .i64 n):=ah
def C5{H:ad}:b_ P H .len [131] [.ar]=D (.int .i64 0):=ah
def FM:dX P 132=D false:=ah
def Gn:cB P 132=D 1:=ah
def JW(l i n:Nat)(cap:Option Nat)(k:Int):cM P 132 (.aB l i n 1 cap) (.int .i64 k)=if 1=1/\0<=k/\k<n then D (.ptr l (i+k.toNat) 0)else none:=ah
def wa{l i n:Nat}{cap:Option Nat}{k:Int}(a:0<=k)(c:k<n):cM P 132 (.aB l i n 1 cap) (.int .i64 k)=D (.ptr l (i+k.toNat) 0):=by rw[JW,if_pos ⟨rfl,a,c⟩]
def C6{H:ad}{l i n e:Nat}{cap:Option Nat}:b_ P H .len [132] [.aB l i n e cap]=D (.int .i64 n):=ah
def C7{H:ad}:b_ P H .len [132] [.ar]=D (.int .i64 0):=ah
def zl:cy P 59 [(0,aa.ar)]=D (.agg [aa.ar,.int .i64 0,.int .i64 0,.int .i64 0,.int .i64 0]):=ah
def zm(e:Nat)(d:Nat)(h:Nat)(c:Nat)(a:Option Nat):cy P 59 [(0,(.aB e d h c a))]=D (.agg [.aB e d h c a,.int .i64 0,.int .i64 0,.int .i64 0,.int .i64 0]):=ah
def y6(a0:List UInt8)(aT:Int):cy P 40 [(0,(.str a0)),(1,(.int .i64 aT))]=D (.agg [.str a0,.int .i64 aT]):=ah
def y3(a0:Int):cy P 29 [(0,(.int .i64 a0))]=D (.agg [.int .i64 a0,.int .i64 0]):=ah
def y4(a0:Int)(aT:Int):cy P 29 [(0,(.int .i64 a0)),(1,(.int .i64 aT))]=D (.agg [.int .i64 a0,.int .i64 aT]):=ah
def zq(a0:Int)(a3:Int):cy P 61 [(0,(.int .i64 a0)),(3,(.int .i64 a3))]=D (.agg [.int .i64 a0,.str [],.int .i64 0,.int .i64 a3]):=ah
def zh(aT:Int)(a2:Int):cy P 59 [(0,aa.ar),(1,(.int .i64 aT)),(2,(.int .i64 a2))]=D (.agg [aa.ar,.int .i64 aT,.int .i64 a2,.int .i64 0,.int .i64 0]):=ah
def zi(e:Nat)(d:Nat)(h:Nat)(c:Nat)(a:Option Nat)(aT:Int)(a2:Int):cy P 59 [(0,(.aB e d h c a)),(1,(.int .i64 aT)),(2,(.int .i64 a2))]=D (.agg [.aB e d h c a,.int .i64 aT,.int .i64 a2,.int .i64 0,.int .i64 0]):=ah
def zj(aT:Int):cy P 59 [(0,aa.ar),(1,(.int .i64 aT))]=D (.agg [aa.ar,.int .i64 aT,.int .i64 0,.int .i64 0,.int .i64 0]):=ah
def zk(e:Nat)(d:Nat)(h:Nat)(c:Nat)(a:Option Nat)(aT:Int):cy P 59 [(0,(.aB e d h c a)),(1,(.int .i64 aT))]=D (.agg [.aB e d h c a,.int .i64 aT,.int .i64 0,.int .i64 0,.int .i64 0]):=ah
def zn(a0:Int):cy P 61 [(0,(.int .i64 a0))]=D (.agg [.int .i64 a0,.str [],.int .i64 0,.int .i64 0]):=ah
def zr(a2:Int):cy P 65 [(2,(.int .i64 a2))]=D (.agg [.str [],aa.ar,.int .i64 a2]):=ah
def zs(a2:Int):cy P 68 [(2,(.int .i64 a2))]=D (.agg [.str [],.str [],.int .i64 0,.int .i64 a2]):=ah
def zt(a5:Int):cy P 73 [(5,(.int .i64 a5))]=D (.agg [.str [],aa.ar,.bool U,.str [],.int .i64 0,aa.ar,.int .i64 a5]):=ah
def zo(a0:Int)(aT:List UInt8)(a3:Int):cy P 61 [(0,(.int .i64 a0)),(1,(.str aT)),(3,(.int .i64 a3))]=D (.agg [.int .i64 a0,.str aT,.int .i64 0,.int .i64 a3]):=ah
def zp(a0:Int)(a2:Int)(a3:Int):cy P 61 [(0,(.int .i64 a0)),(2,(.int .i64 a2)),(3,(.int .i64 a3))]=D (.agg [.int .i64 a0,.str [],.int .i64 a2,.int .i64 a3]):=ah
def ze(a0:Int)(a5:Int):cy P 45 [(0,(.int .i64 a0)),(4,aa.ar),(5,(.int .i64 a5))]=D (.agg [.int .i64 a0,.int .i64 0,.str [],.str [],.int .i64 0,aa.ar,.int .i64 a5,.int .i64 0,.int .i64 0,.int .i64 0,.int .i64 0]):=ah
def zf(a0:Int)(e:Nat)(d:Nat)(h:Nat)(c:Nat)(a:Option Nat)(a5:Int):cy P 45 [(0,(.int .i64 a0)),(4,(.aB e d h c a)),(5,(.int .i64 a5))]=D (.agg [.int .i64 a0,.int .i64 0,.str [],.str [],.int .i64 0,.aB e d h c a,.int .i64 a5,.int .i64 0,.int .i64 0,.int .i64 0,.int .i64 0]):=ah
def y7(aT:Int):cy P 40 [(1,(.int .i64 aT))]=D (.agg [.str [],.int .i64 aT]):=ah
def y2(a:Int):cy P 112 [(6,(.int .i64 a))]=D (.agg [.int .i64 0,.str [],.str [],.int .i64 0,aa.ar,aa.ar,aa.ar,.int .i64 a,.int .i64 0]):=ah
def y9(a0:Int)(a2:List UInt8)(a5:Int):cy P 45 [(0,(.int .i64 a0)),(2,(.str a2)),(4,aa.ar),(5,(.int .i64 a5))]=D (.agg [.int .i64 a0,.int .i64 0,.str a2,.str [],.int .i64 0,aa.ar,.int .i64 a5,.int .i64 0,.int .i64 0,.int .i64 0,.int .i64 0]):=ah
def y_(a0:Int)(a2:List UInt8)(e:Nat)(d:Nat)(h:Nat)(c:Nat)(a:Option Nat)(a5:Int):cy P 45 [(0,(.int .i64 a0)),(2,(.str a2)),(4,(.aB e d h c a)),(5,(.int .i64 a5))]=D (.agg [.int .i64 a0,.int .i64 0,.str a2,.str [],.int .i64 0,.aB e d h c a,.int .i64 a5,.int .i64 0,.int .i64 0,.int .i64 0,.int .i64 0]):=ah
def y8(a0:Int)(aT:Int)(a5:Int):cy P 45 [(0,(.int .i64 a0)),(1,(.int .i64 aT)),(5,(.int .i64 a5))]=D (.agg [.int .i64 a0,.int .i64 aT,.str [],.str [],.int .i64 0,aa.ar,.int .i64 a5,.int .i64 0,.int .i64 0,.int .i64 0,.int .i64 0]):=ah
def zd(a0:Int)(a:List UInt8)(c:Int)(a5:Int):cy P 45 [(0,(.int .i64 a0)),(3,(.agg [.str a,.int .i64 c])),(5,(.int .i64 a5))]=D (.agg [.int .i64 a0,.int .i64 0,.str [],.str a,.int .i64 c,aa.ar,.int .i64 a5,.int .i64 0,.int .i64 0,.int .i64 0,.int .i64 0]):=ah
def zg(a0:Int)(a5:Int):cy P 45 [(0,(.int .i64 a0)),(5,(.int .i64 a5))]=D (.agg [.int .i64 a0,.int .i64 0,.str [],.str [],.int .i64 0,aa.ar,.int .i64 a5,.int .i64 0,.int .i64 0,.int .i64 0,.int .i64 0]):=ah
def za(a0:Int)(a2:List UInt8)(a5:Int):cy P 45 [(0,(.int .i64 a0)),(2,(.str a2)),(5,(.int .i64 a5))]=D (.agg [.int .i64 a0,.int .i64 0,.str a2,.str [],.int .i64 0,aa.ar,.int .i64 a5,.int .i64 0,.int .i64 0,.int .i64 0,.int .i64 0]):=ah
def y5(a0:List UInt8):cy P 40 [(0,(.str a0))]=D (.agg [.str a0,.int .i64 0]):=ah
def zb(a0:Int)(a:List UInt8)(c:Int)(a5:Int):cy P 45 [(0,(.int .i64 a0)),(3,(.agg [.str a,.int .i64 c])),(4,aa.ar),(5,(.int .i64 a5))]=D (.agg [.int .i64 a0,.int .i64 0,.str [],.str a,.int .i64 c,aa.ar,.int .i64 a5,.int .i64 0,.int .i64 0,.int .i64 0,.int .i64 0]):=ah
def zc(a0:Int)(a:List UInt8)(c:Int)(i:Nat)(h:Nat)(j:Nat)(e:Nat)(d:Option Nat)(a5:Int):cy P 45 [(0,(.int .i64 a0)),(3,(.agg [.str a,.int .i64 c])),(4,(.aB i h j e d)),(5,(.int .i64 a5))]=D (.agg [.int .i64 a0,.int .i64 0,.str [],.str a,.int .i64 c,.aB i h j e d,.int .i64 a5,.int .i64 0,.int .i64 0,.int .i64 0,.int .i64 0]):=ah
end Go.Proofs.YtghmbpmaafnodaaDoor
namespace Go.bs
open Go.ChangeShapes Go.WideShapes Go.ChangeAt Go.RowKit
def yt(E:Env)(P:Program)(f:Nat)(args:List Value)(W:World):Prop:=∃(ρ:Env) (H:ad) (a:List aa) (H':ad),Rel ρ H W/\(∀l,¬H.rw l)/\(∀l,H.next<=l->ρ l=C)/\E.le ρ/\H.next<=H'.next/\bw ρ a args/\iQ E P f a H (.bool X) H'
def Kp{E:Env}{P:Program}{f:Nat}{fn:Func}{c:Code}{args:List Value}{W:World}(w:nz P)(m:P.funcs[f]? =D fn)(y:fn.body=D c)(h:yt E P f args W):
  Calls P f args.toArray W λe a=>e= .returned (.bool X)/\Below W.heap.size W a:=by
 obtain⟨ρ,H,L,H',n,o,p,v,q,s,u⟩:=h;have F:∀b,¬iy ρ H b:=by rintro b ⟨l,loc,j,_⟩;exact o l j
 have i:=u ρ W args n ⟨λl j _=>p l j,v⟩ s q (λx a=>x= .bool X/\Below W.heap.size W a) (λx a M K ax=>by
  cases K;exact⟨rfl,ax.os,ax.tape,ax.output,ax.size,λk A=>ax.frame k A (F k)⟩)
 have B:(fn.name== "runtime.NumGoroutine")=false:=w.names fn (Array.mem_of_getElem? m);have G:(callFunc f args.toArray).run P W= .ok (.enter f args.toArray) W:=by
  unfold callFunc;simp[m,y];intro z;simp[z]at B
 unfold me at i;rw[G]at i;simp only at i;refine i.mono λe a d=> ?_
 split at d
 ·exact⟨by rw[d.1],d.2⟩
 ·exact d.elim
def Gk{H:Type}{enc:TypeId×Value->H}{P:Program}{W j:World}(n:laidOutB P=X)(l:Below W.heap.size W j):∀{ts:List TypeId} {c:List Value} {a:List (DataW H)} {i:List MemPlace},(∀t∈ts,P.readableRec t=X/\t<P.types.size)->
  DataW.TrodAll enc P W 0 (λ_=>X) X ts c a i->∃o,DataW.TrodAll enc P j 0 (λb=>decide (b<W.heap.size)) X ts c a o
 |[],c,a,i,_,h=>by
  obtain⟨rfl,rfl,rfl⟩:=trodAll_nil h;exact⟨[],trodAll_mk0⟩
 |t::ts,c,a,i,e,h=>by
  obtain⟨v,A,d,z,p,q,rfl,rfl,rfl,k,s⟩:=trodAll_cons h;obtain⟨o,u⟩:=Gk n l (λt y=>e t (List.mem_cons_of_mem _ y)) s;have w:∀x∈p,x.block<W.heap.size:=by obtain⟨m,hm⟩:=k;exact DataW.trod_lt m _ _ _ hm
  exact⟨_,trodAll_cons_mk (Below.trod n (e t (List.mem_cons_self ..)).1 (e t (List.mem_cons_self ..)).2 k l w) u⟩
structure Seen(ρ:Env)(H:ad)(W:World):Prop where
 rel:Rel ρ H W
 ro:∀l,¬H.rw l
 top:∀l,H.next<=l->ρ l=none
def Seen.empty(W:World):Seen (λ_=>C) ad.empty W:=
 have c:∀l,¬ad.empty.rw l:=λl a=>by
  rcases a with⟨e,s,h⟩|⟨es,h⟩|⟨t,e,s,h⟩<;>rw[ad.q5]at h<;>cases h
 ⟨LL W,c,λ_ _=>rfl⟩
def Seen.rm{ρ:Env}{H:ad}{W:World}(h:Seen ρ H W)(loc:Go.bs.Loc):ρ.le (ρ.eA H.next loc):=λl a e=>by
 have:l≠H.next:=by rintro rfl;rw[h.top _ (bj _)]at e;cases e
 simp only[Env.eA,if_neg this];exact e
def fA.mono{ρ d:Env}(hle:ρ.le d){w:World}{loc:Go.bs.Loc}{ro:Bool}{esz:Nat}{els:List (List aa)}(h:fA ρ w loc ro esz els):fA d w loc ro esz els:=by
 obtain⟨l,c,t,k,m,n,a⟩:=h;refine⟨l,c,t,k,m,n,λi e he=>⟨(a i e he).1,λj v o=> ?_⟩⟩;obtain⟨a6,x,p,q⟩:=(a i e he).2 j v o;exact⟨a6,x,p,q.mono hle⟩
def Seen.push{ρ:Env}{H:ad}{W:World}(h:Seen ρ H W){loc:Go.bs.Loc}{esz:Nat}{els:List (List aa)}(k:fA ρ W loc X esz els):Seen (ρ.eA H.next loc) (H.push (.row X esz els)) W:=by
 have hle:=h.rm loc;have d:∀l,¬(H.push (.row X esz els)).rw l:=by
  rintro l (⟨e,s,a⟩|⟨es,a⟩|⟨t,e,s,a⟩)
  ·rw[ad.rf]at a;split at a
   ·cases a
   ·exact h.ro l (.inl ⟨e,s,a⟩)
  ·rw[ad.rf]at a;split at a
   ·cases a
   ·exact h.ro l (.inr (.inl ⟨es,a⟩))
  ·rw[ad.rf]at a;split at a
   ·cases a
   ·exact h.ro l (.inr (.inr ⟨t,e,s,a⟩))
 refine⟨⟨λl ro e s a=> ?_,λl es a=> ?_,λl t e s a=>absurd (.inr (.inr ⟨t,e,s,a⟩)) (d l),λl l' _ _ c=>absurd c (d l)⟩,d,λl c=> ?_⟩
 ·rw[ad.rf]at a;split at a
  ·rename_i c;cases a;exact⟨loc,by simp[Env.eA,c],k.mono hle⟩
  ·obtain⟨m,i,j⟩:=h.rel.row l ro e s a;exact⟨m,hle _ _ i,j.mono hle⟩
 ·exact absurd (.inr (.inl ⟨es,a⟩)) (d l)
 ·simp only[ad.bX]at c;have:l≠H.next:=af
  simp only[Env.eA,if_neg this];exact h.top l af
