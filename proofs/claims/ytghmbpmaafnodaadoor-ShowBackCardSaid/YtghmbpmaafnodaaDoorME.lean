/-
  Texts of one proof, laid together: Hv24 Base Hv25 Pk Tab Hv26.
-/
import Derived.Test.YtghmbpmaafnodaaDoorMD
import Derived.Test.YtghmbpmaafnodaaDoorProg
import Derived.KernelRfl
import Derived.Lib.ItoaNum
import Derived.Lib.Join
import Derived.Lib.Repeat
import Derived.Lib.Small
import Derived.ProofKit
import Derived.OpenShut
import Derived.ShutString
import Derived.ChangeOld
import Derived.Below
import Derived.Carry
set_option linter.unusedVariables false
set_option linter.unusedSimpArgs false
set_option linter.defProp false
open Option renaming some→D,none→C
open Bool renaming true→X,false→U
namespace Go.bn
def W(m:O)(Q:aa->af->Prop):Prop:=∃v H,m=D (v,H)/\Q v H
def a_{v:aa}{H:af}{Q:aa->af->Prop}:W (D (v,H)) Q↔Q v H:=by
 constructor
 ·rintro⟨a,H',h,q⟩;simp only[aZ,cj]at h;obtain⟨rfl,rfl⟩:=h;exact q
 ·exactλq=>⟨v,H,rfl,q⟩
def W.mono{m:O}{Q a:aa->af->Prop}(h:W m Q)(c:∀v H,Q v H->a v H):W m a:=by
 obtain⟨v,H,e,q⟩:=h;exact⟨v,H,e,c v H q⟩
def aW{r:O}{H:af}{k:aa->af->O}{Q a:aa->af->Prop}(h:W r a)(i:∀v H',a v H'->H.next<=H'.next/\W (k v H') Q):W (aO H r k) Q:=by
 obtain⟨v,H',e,q⟩:=h;obtain⟨c,d⟩:=i v H' q;rw[e];simp only[aO,decide_eq_true c,aS];exact d
def hl{r:O}{H:af}{q:K->O}{Q a:aa->af->Prop}(h:W r a)(i:∀v H',a v H'->H.next<=H'.next/\W (q (.eL v H')) Q):W (eQ H r q) Q:=by
 obtain⟨v,H',e,j⟩:=h;obtain⟨c,d⟩:=i v H' j;rw[e];simp only[eQ,decide_eq_true c,aS];exact d
def oy{r:O}{H:af}{x:aa}{k:aa->af->O}{Q:aa->af->Prop}(h:W r λv H'=>v=x/\H'=H)(a:W (k x H) Q):W (aO H r k) Q:=by
 refine aW h ?_;rintro _ H' ⟨rfl,e⟩;rw[e];exact⟨bo _,a⟩
def rq{r:O}{H:af}{x:aa}{q:K->O}{Q:aa->af->Prop}(h:W r λv H'=>v=x/\H'=H)(a:W (q (.eL x H)) Q):W (eQ H r q) Q:=by
 refine hl h ?_;rintro _ H' ⟨rfl,e⟩;rw[e];exact⟨bo _,a⟩
def cO{m m':O}{Q:aa->af->Prop}(a:∀r,m=D r->m'=D r)(h:W m Q):W m' Q:=by
 obtain⟨v,H,e,q⟩:=h;exact⟨v,H,a _ e,q⟩
def iq:Nat:=0
def Vw:Nat:=0
def K6:iq=Vw:=rfl
def s8(v:aa)(H:af)(k:aa->af->O):O:=k v H
section
variable {r cL:Option aa}{o sc:O}{m m':Option (aa×cb)}{h a8:Option af}{H H':af}{a bt:aa}{b ct:Bool}{z:Nat}
 @[congr] theorem VM {k:aa->af->O} (e:a=bt) (d:H=H') (y:iq=z):s8 a H k=s8 bt H' k:=by rw[e,d]
def KV(H:af)(cs:List aa)(k:aa->af->O):cX H cs k=s8 (.ptr H.next 0 0) (H.push (.row U cs.length [cs])) k:=rfl
def K2(v:aa)(H:af)(k:aa->af->O):s8 v H k=k v H:=rfl
 @[congr] theorem VF {k:aa->O} (e:r=cL) (y:iq=z):j r k=j cL k:=by rw[e]
 @[congr] theorem VH {k:aa->af->O} (d:H=H') (e:o=sc) (y:iq=z):aO H o k=aO H' sc k:=by rw[d,e]
 @[congr] theorem VI {k:K->O} (d:H=H') (e:o=sc) (y:iq=z):eQ H o k=eQ H' sc k:=by rw[d,e]
 @[congr] theorem VQ {k:af->O} (d:H=H') (e:h=a8) (y:iq=z):bm H h k=bm H' a8 k:=by rw[d,e]
 @[congr] theorem VN {k:aa->af->O} (d:H=H') (e:m=m') (y:iq=z):ca H m k=ca H' m' k:=by rw[d,e]
 @[congr] theorem VO {k:K->O} (e:m=m') (y:iq=z):xH m k=xH m' k:=by rw[e]
 @[congr] theorem VL {p q:O} (e:r=cL) (y:iq=z):a7 r p q=a7 cL p q:=by rw[e]
 @[congr] theorem Vx {p q:O} (e:b=ct) (y:iq=z):cond b p q=cond ct p q:=by rw[e]
 @[congr] theorem VJ {w:Bool} {f:(K->O)->O} {k:aa->af->O} (e:a=bt) (y:iq=z):aM a w H f k=aM bt w H f k:=by rw[e]
 @[congr] theorem VK {w:Bool} {f:(K->O)->O} {k:K->O} (e:a=bt) (y:iq=z):fZ a w f k=fZ bt w f k:=by rw[e]
 @[congr] theorem VG {s s':Option aa} {k:K->O} (e:r=cL) (d:s=s') (y:iq=z):iM r s k=iM cL s' k:=by rw[d,e]
 @[congr] theorem VA {q:K->O} (e:r=cL) (y:iq=z):br r q=br cL q:=by rw[e]
 @[congr] theorem VB {q:K->O} (e:r=cL) (y:iq=z):qr r q=qr cL q:=by rw[e]
 @[congr] theorem VC {q:K->O} (e:a=bt) (y:iq=z):cJ a q=cJ bt q:=by rw[e]
def H4(v:aa)(q:K->O):br (D v) q=q (.pure v):=rfl
def H5(v:aa)(q:K->O):qr (D v) q=q (.read v):=rfl
def H9(v:aa)(q:K->O):cJ v q=q (.pure v):=rfl
end
def Ie(k:IntKind)(n:Int):bp (D (.int k n)) (.int k n)=true:=by simp[bp,aa.beq]
def Ih(x:List UInt8):bp (D (.str x)) (.str x)=true:=by simp[bp,aa.beq]
def Ic(x:Bool):bp (D (.bool x)) (.bool x)=true:=by simp[bp,aa.beq]
def nC(l i n e:Nat)(c:Option Nat):bp (D (.aG l i n e c)) (.aG l i n e c)=true:=by simp[bp,aa.beq]
def Ac:bp (D .aA) .aA=true:=rfl
def Ig(x:List UInt8)(k:IntKind)(n:Int):bp (D (.agg [.str x,.int k n])) (.agg [.str x,.int k n])=true:=by simp[bp,aa.beq,hg.beq]
def af.tH(H:af)(b:cb)(l:Nat):(H.push b).get l=if l=H.next then D b else H.get l:=by
 split
 ·rename_i h;subst h;exact af.bY H b
 ·rename_i h;exact af.dS h
def bF.wD{α:Type}(x y:α):∀(p:List l1) (t:bF α),bF.eB y p (bF.eB x p t)=bF.eB y p t
 |[],.leaf=>rfl
 |[],.node .. =>rfl
 |d::p,.leaf=>by cases d<;>simp[bF.eB,bF.wD x y p]
 |d::p,.node .. =>by cases d<;>simp[bF.eB,bF.wD x y p]
def af.Qq(H:af)(b c:cb):(H.push b).set H.next c=H.push c:=by
 simp only[af.push,af.set,bF.put,bF.wD]
def af.set_set(H:af)(l:Nat)(b c:cb):(H.set l b).set l c=H.set l c:=by
 simp only[af.set,bF.put,bF.wD]
def af.vA{H:af}{b:cb}{l:Nat}(h:l<=H.next)(a8:H.next<=l):(H.push b).get l=D b:=by
 obtain rfl:l=H.next:=ae
 exact af.bY H b
def af.HY{H:af}{b c:cb}{l:Nat}(h:l<=H.next)(a8:H.next<=l):(H.push b).set l c=H.push c:=by
 obtain rfl:l=H.next:=ae
 exact af.Qq H b c
def dp(S:Nat->Prop)(H H':af):Prop:=H.next<=H'.next/\∀l,l<H.next->¬S l->H'.get l=H.get l
def aU(H H':af):Prop:=H.next<=H'.next/\∀l,l<H.next->H'.get l=H.get l
def aU.refl(H:af):aU H H:=⟨bo _,λ_ _=>rfl⟩
def aU.trans{H H1 a:af}(h:aU H H1)(k:aU H1 a):aU H a:=⟨Nat.le_trans h.1 k.1,λl c=>(k.2 l (Nat.lt_of_lt_of_le c h.1)).trans (h.2 l c)⟩
def aU.push(H:af)(b:cb):aU H (H.push b):=⟨by simp,λl a=>af.dS ae⟩
def aU.bT{H H1:af}(h:aU H H1)(b:cb):aU H (H1.push b):=h.trans (aU.push H1 b)
def aU.db{H H1:af}(h:aU H H1){l:Nat}(c:H.next<=l)(b:cb):aU H (H1.set l b):=
 ⟨h.1,λj a=>by rw[af.get_set_other ae];exact h.2 j a⟩
def aU.get{H H':af}(h:aU H H'){l:Nat}{b:cb}(a:H.get l=D b):H'.get l=D b:=by rw[h.2 l (af.a6 a)];exact a
def aU.mut{H H':af}(h:aU H H')(S:Nat->Prop):dp S H H':=⟨h.1,λl a _=>h.2 l a⟩
def dp.refl(S:Nat->Prop)(H:af):dp S H H:=(aU.refl H).mut S
def dp.trans{S:Nat->Prop}{H H1 a:af}(h:dp S H H1)(k:dp S H1 a):dp S H a:=⟨Nat.le_trans h.1 k.1,λl c ar=>(k.2 l (Nat.lt_of_lt_of_le c h.1) ar).trans (h.2 l c ar)⟩
def dp.bT{S:Nat->Prop}{H H1:af}(h:dp S H H1)(b:cb):dp S H (H1.push b):=h.trans ((aU.push H1 b).mut S)
def dp.db{S:Nat->Prop}{H H1:af}(h:dp S H H1){l:Nat}(c:S l\/H.next<=l)(b:cb):dp S H (H1.set l b):=
 ⟨h.1,λj a ar=>by rw[af.get_set_other (by rintro rfl;exact c.elim ar ae)];exact h.2 j a ar⟩
def dp.get{S:Nat->Prop}{H H':af}(h:dp S H H'){l:Nat}{b:cb}(a:H.get l=D b)(ar:¬S l):H'.get l=D b:=by rw[h.2 l (af.a6 a) ar];exact a
section
variable {P:Program}{H:af}
def eC(v:aa)(k:aa->O):j (D v) k=k v:=rfl
def fl(b:Bool)(x y:O):a7 (D (.bool b)) x y=bif b then x else y:=rfl
def fJ{v:aa}{H':af}{k:aa->af->O}(h:H.next<=H'.next):aO H (D (v,H')) k=k v H':=by
 simp only[aO,decide_eq_true h,aS]
def xI{H':af}{k:af->O}(h:H.next<=H'.next):bm H (D H') k=k H':=by
 simp only[bm,Option.bind_some];exact fJ h
def xG(v:aa)(b:cb)(k:aa->af->O):ca H (D (v,b)) k=k v (H.push b):=rfl
def K1(m:(K->O)->O)(k:aa->af->O):aM (.bool X) X H m k=m (λx=>s8 x.val (x.heap H) k):=rfl
def KX(m:(K->O)->O)(k:aa->af->O):aM (.bool U) U H m k=m (λx=>s8 x.val (x.heap H) k):=rfl
def K0(m:(K->O)->O)(k:aa->af->O):aM (.bool X) U H m k=k (.tuple []) H:=rfl
def KY(m:(K->O)->O)(k:aa->af->O):aM (.bool U) X H m k=k (.tuple []) H:=rfl
def KZ(w:Bool)(m:(K->O)->O)(k:aa->af->O):aM (.tuple []) w H m k=k (.tuple []) H:=rfl
def KW(v:aa)(b:Option aa)(k:K->O):iM (D v) b k=k (.pure v):=rfl
def HM(a b:Option aa):cE (.bool X) a b=a:=rfl
def HL(a b:Option aa):cE (.bool U) a b=b:=rfl
def B9(b:Bool):fD .not (.bool b)=D (.bool (!b)):=rfl
def BW(l i c:Nat):cp (.ptr l i c)=D (.ptr l i c):=rfl
def Bu(v:aa):(K.pure v).val=v:=rfl
def Bv(v:aa):(K.read v).val=v:=rfl
def Bt(v:aa)(b:cb):(K.new v b).val=v:=rfl
def Bs(v:aa)(H':af):(K.eL v H').val=v:=rfl
def Bw:K.skip.val= .tuple []:=rfl
def Bp(v:aa):(K.pure v).heap H=H:=rfl
def Bq(v:aa):(K.read v).heap H=H:=rfl
def Bo(v:aa)(b:cb):(K.new v b).heap H=H.push b:=rfl
def Bn(v:aa)(H':af):(K.eL v H').heap H=H':=rfl
def Br:K.skip.heap H=H:=rfl
def BO(a:List aa)(i:Nat):h6 (.tuple a) i=a[i]? :=rfl
def D9(t:TypeId)(c:Bool)(k:IntKind)(a b:Int):au P .add t c (.int k a) (.int k b)=D (.int k (k.wrap (a+b))):=by simp[au,ji]
def Eh(t:TypeId)(c:Bool)(k:IntKind)(a b:Int):au P .sub t c (.int k a) (.int k b)=D (.int k (k.wrap (a-b))):=by simp[au,ji]
def Np(t:TypeId)(c:Bool)(k:IntKind)(a b:Int):au P .mul t c (.int k a) (.int k b)=D (.int k (k.wrap (a*b))):=by simp[au,ji]
def D_(t:TypeId)(c:Bool)(k:IntKind)(a b:Int):au P .eql t c (.int k a) (.int k b)=D (.bool (a==b)):=by simp[au,ji]
def Ee(t:TypeId)(c:Bool)(k:IntKind)(a b:Int):au P .neq t c (.int k a) (.int k b)=D (.bool (a != b)):=by simp[au,ji]
def Ed(t:TypeId)(c:Bool)(k:IntKind)(a b:Int):au P .lss t c (.int k a) (.int k b)=D (.bool (decide (a<b))):=by simp[au,ji]
def Ec(t:TypeId)(c:Bool)(k:IntKind)(a b:Int):au P .leq t c (.int k a) (.int k b)=D (.bool (decide (a<=b))):=by simp[au,ji]
def Eb(t:TypeId)(c:Bool)(k:IntKind)(a b:Int):au P .gtr t c (.int k a) (.int k b)=D (.bool (decide (b<a))):=by simp[au,ji]
def Ea(t:TypeId)(c:Bool)(k:IntKind)(a b:Int):au P .geq t c (.int k a) (.int k b)=D (.bool (decide (b<=a))):=by simp[au,ji]
def Ef(t:TypeId)(c:Bool)(a b:List UInt8):au P .eql t c (.str a) (.str b)=D (.bool (a==b)):=rfl
def Eg(t:TypeId)(c:Bool)(a b:List UInt8):au P .neq t c (.str a) (.str b)=D (.bool (!(a==b))):=rfl
def lx(t:TypeId)(c:Bool)(a b:List UInt8)(h:a.length+b.length<=9223372036854775807):au P .add t c (.str a) (.str b)=D (.str (a++b)):=by
 simp only[au,uV,if_pos h]
def Js{t:TypeId}{n:Nat}(j:cQ P t=D n){l i c esz:Nat}{els:List (List aa)}{e:List aa}{v:aa}(h:H.get l=D (.row U esz els))(he:els[i]? =D e)(a:v.cells.length=n)(k:v.cells.all aa.one=X)(d:c+n<=esz):
  ba P H t (.ptr l i c) v=D (H.set l (.row U esz (els.set i (c8 e c v.cells)))):=by
 simp only[ba,h,he];rw[if_pos ⟨by rw[j,a],by rw[a];exact d,k⟩]
def hs(k:IntKind)(n:Int):(aa.int k n).one=true:=rfl
def hS(x:List UInt8):(aa.str x).one=true:=rfl
def ue(x:Bool):(aa.bool x).one=true:=rfl
def zM(l i c:Nat):(aa.ptr l i c).one=true:=rfl
def zN(l i n e:Nat)(c:Option Nat):(aa.aG l i n e c).one=true:=rfl
def wi:aa.aA.one=true:=rfl
def zL(f:Fn)(a c:List aa):(aa.func f a c).one=true:=rfl
def jX{v:aa}(h:v.one=X):v.cells=[v]:=by cases v<;>first|rfl|cases h
def hn(l:Nat)(cs:List aa)(h:cs.all aa.one=X):dR l (.agg cs)=D (.ptr l 0 0,.row U cs.length [cs]):=by
 simp only[dR,aa.cells,h,aS]
end
end Go.bn
namespace Go.Proofs.YtghmbpmaafnodaaDoor
open Go.bn
noncomputable def P:Program:=Tryd.prog
noncomputable abbrev bs(f:Func):e2:=nD P f.results.toList
noncomputable abbrev vm(f:Func)(G:aD)(N:Nat):e2:=bC P G N (bI f) (bs f) [] (bs f)
def bZ{A B zC:e2}(h:∀ad H,A ad H=B ad H)(a:∀ad H,B ad H=zC ad H):∀ad H,A ad H=zC ad H:=λad H=>(h ad H).trans (a ad H)
def eo{A B:e2}{ad:cU}{H:af}{t:O}(h:∀ad H,A ad H=B ad H)(a:B ad H=t):A ad H=t:=(h ad H).trans a
def K3(H:af)(r:Option af)(k:aa->af->O):O:=aO H (r.bind λH'=>D (.tuple [],H')) k
 @[congr] theorem VP {H a:af} {h a8:Option af} {z:Nat} {k:aa->af->O} (d:H=a) (e:h=a8) (c:iq=z):K3 H h k=K3 a a8 k:=by rw[d,e]
def ld:List (List aa):=Lib.pow10Tab.map λn=>[.int .u64 n]
def jy:Env:=λl=>match l with
 |0=>D ⟨0,0,1,20⟩
 |_=>C
def n_:List (List aa)->Option (List (List UInt8))
 |[]=>D []
 |[.str s]::es=>(n_ es).map (s:: ·)
 |_=>C
open Classical in
noncomputable def aB:aD:=λf args H=>match f,args with
 |42,[.int .i64 n]=>if-9223372036854775808<=n/\n<=9223372036854775807/\H.get 0=D (.row X 1 ld)then D (.str (Lib.itoa n),H)else C
 |43,[.bool b]=>D (.str (Lib.formatBool b),H)
 |54,[.str s,.int .i64 n]=>if 0<=n/\n<=9223372036854775807/\s.length*n.toNat<=140737488355328 then D (.str (Lib.repeatL s n.toNat),H)else C
 |59,[.aA,.str _]=>D (.str [],H)
 |59,[.aG l i n 1 _,.str sep]=>(match fr H l i n 1 with
  |some es=>(match n_ es with
   |some xs=>if xs.length<=140737488355328/\(Lib.join xs sep).length<=140737488355328 then D (.str (Lib.join xs sep),H)else C
   |none=>C)
  |none=>C)
 |80,[.ptr l 0 0]=>(match H.get l with
  |some (.ck 81 2 [[.nilPtr,b]])=>if b.one=X then D (.tuple [],H.set l (.ck 81 2 [[.ptr l 0 0,b]]))else C
  |some (.ck 81 2 [[.ptr l' 0 0,_]])=>if l'=l then D (.tuple [],H)else C
  |_=>C)
 |32,[.ptr l 0 0]=>(match H.get l with
  |some (.ck 81 2 [[_,.aA]])=>D (.str [],H)
  |some (.ck 81 2 [[_,.aG m j n 1 _]])=>(match H.get m with
   |some (.ck 5 1 es)=>(match bytesOf ((es.drop j).take n)with
    |some a=>if 0<n/\j+n<=es.length/\j=0/\n<=140737488355328/\(es.drop j).take n=a.map (λb=>[.int .u8 b.toNat])then D (.str a,H.set m .dead)else C
    |none=>C)
   |_=>C)
  |_=>C)
 |_,_=>C
def R1{f:Nat}{fn:Func}{N:Nat}{args:List aa}{H:af}{r:aa×af}(a:aB f args H=C)(e:P.funcs[f]? =D fn)(c:fn.body=D (bI fn))(d:kp fn.ntmps (bI fn)=X)(i:Nat.ble args.length fn.ntmps=X)(h:vm fn (aI P aB) N (nn args) H=D r):aI P aB f args H=D r:=Nh a e c d i h
def cZ{f:Nat}{fn:Func}(N:Nat){args:List aa}{H:af}{r:aa×af}{S:aD->O}(e:P.funcs[f]? =D fn)(he:∀G,vm fn G N (nn args) H=S G)(h:S (aI P aB)=D r)(a:aB f args H=none:=by first|kernel_rfl)(c:fn.body=D (bI fn):=by first|kernel_rfl)(d:kp fn.ntmps (bI fn)=true:=by first|kernel_rfl)(i:Nat.ble args.length fn.ntmps=true:=by first|kernel_rfl):aI P aB f args H=D r:=R1 a e c d i ((he _).trans h)
end Go.Proofs.YtghmbpmaafnodaaDoor
namespace Go.bn
def bF.Aa{α:Type}(x y:α):∀(p q:List l1) (t:bF α),p≠q->bF.eB x p (bF.eB y q t)=bF.eB y q (bF.eB x p t)
 |[],[],_,h=>absurd rfl h
 |[],d::q,.leaf,_=>by cases d<;>simp[bF.eB]
 |[],d::q,.node ..,_=>by cases d<;>simp[bF.eB]
 |d::p,[],.leaf,_=>by cases d<;>simp[bF.eB]
 |d::p,[],.node ..,_=>by cases d<;>simp[bF.eB]
 |d::p,e::q,.leaf,h=>by
  by_cases a:d=e
  ·subst a;have j:=bF.Aa x y p q .leaf (λi=>h (by rw[i]));cases d<;>simp[bF.eB,j]
  ·cases d<;>cases e<;>first|exact absurd rfl a|simp[bF.eB]
 |d::p,e::q,.node v k l m n o s u w,h=>by
  by_cases a:d=e
  ·subst a;have j:=λc=>bF.Aa x y p q c (λi=>h (by rw[i]))
   cases d<;>simp[bF.eB,j]
  ·cases d<;>cases e<;>first|exact absurd rfl a|simp[bF.eB]
def af.iE{H:af}{b c:cb}{l:Nat}(h:l<H.next):(H.push b).set l c=(H.set l c).push b:=by
 simp only[af.push,af.set,bF.put];rw[bF.Aa _ _ _ _ _ (λe=>by have:=HJ e;omega)]
def xF(m:(K->O)->O)(k:K->O):fZ (.bool X) X m k=m k:=rfl
def xB(m:(K->O)->O)(k:K->O):fZ (.bool U) U m k=m k:=rfl
def xE(m:(K->O)->O)(k:K->O):fZ (.bool X) U m k=k .skip:=rfl
def xC(m:(K->O)->O)(k:K->O):fZ (.bool U) X m k=k .skip:=rfl
def xD(w:Bool)(m:(K->O)->O)(k:K->O):fZ (.tuple []) w m k=k .skip:=rfl
def xZ{c:Bool}{a b:O}{Q:aa->af->Prop}(d:c=X)(h:W a Q):W (bif c then a else b) Q:=by rw[d];exact h
def q_:List hN->af->List af
 |[],H=>[H]
 |t::ts,H=>H::q_ ts (t.k.heap H)
def KP{ms:List Nat}{rd:af->Bool}{i:Nat}:∀(T:List hN) (H:af),(∀H'∈q_ T H,rd H'=X)->pJ ms rd i T H=X
 |[],H,h=>h H (by simp[q_])
 |t::ts,H,h=>by
  have c:=h H (by simp[q_]);have a:=KP (ms:=ms) (rd:=rd) (i:=i) ts (t.k.heap H) (λH' hm=>h H' (by simp[q_,hm]));rw[pJ];cases e:t.k.fF with
  |true=>simp[c,a]
  |false=>
   have:t.k.heap H=H:=by cases d:t.k<;>simp[d,K.fF,K.heap]at e ⊢
   rw[this]at a;simp[a]
def T7{ms:List Nat}{rd:af->Bool}{i:Nat}{T:List hN}{H:af}(h:∀H'∈q_ T H,rd H'=X):uM ms rd i T H=true:=by
 rw[uM,KP T H h];cases pX ms i T U<;>rfl
def rh(a:List Nat)(T:List hN)(H:af):List hN->Prop
 |[]=>True
 |t::ts=>(∀v,t.k= .read v->a.contains t.i=X\/∀H'∈q_ T H,bp (t.rd H') v=X)/\rh a T H ts
def KR{ms c:List Nat}{T:List hN}{H:af}:∀S:List hN,rh c T H S->s6 ms c T H S=X
 |[],_=>rfl
 |t::ts,h=>by
  rw[rh]at h;rw[s6,KR ts h.2,Bool.and_true];split
  ·rename_i v d;rcases h.1 v d with a|a
   ·rw[a,Bool.true_or]
   ·rw[T7 a,Bool.or_true]
  ·rfl
def yr{ms a:List Nat}{T:List hN}{H:af}(c:p3 ms T []=X)(d:rh a T H T):oF ms a T H=true:=by
 rw[oF,c,KR T d];rfl
section
variable {E:Env}{P:Program}{aB:aD}
def Da(e:pO P){G:aD}(l:kN E P G){N f:Nat}{args:List aa}{H H1:af}{fn:Func}{c:Code}{ex:aE}{ad:bl}{k:List aa}
  (a:P.funcs[f]? =D fn) (h:fn.body=D c) (p:cW (gq P G) N c (bl.enter fn.ntmps args) H=D (ex,ad,H1)) (v:∀id,ex≠ .exit id) (A:iQ P ad H1 fn.results.toList=D k):kf E P f args H (oB k) H1:=by
 intro ρ w xs m q n K next y
 have o:=Db (N:=N) Im (Io e.mixed l) c (e.HQ _ _ _ a h);have u:(fn.name== "runtime.NumGoroutine")=false:=e.names fn (Array.mem_of_getElem? a);have z:(callFunc f xs.toArray).run P w= .ok (.enter f xs.toArray) w:=by
  unfold callFunc;simp[a,h];intro s;simp[s]at u
 unfold ov;rw[z];simp only
 refine calls_of_wp a h (o _ _ _ _ _ p ρ w _ _ m q (C5 n fn.ntmps) λF bt B d i=> ?_);obtain⟨x,aq,aH⟩:=It i.rel d A;have j:=y x B F aH i;cases ex with
 |normal=>exact⟨d.none,x,aq,j⟩
 |ret=>exact⟨d.none,x,aq,j⟩
 |exit id=>exact absurd rfl (v id)
def MU(j:pO P){G:aD}(i:kN E P G){f:Nat}{args:List aa}{H:af}{fn:Func}{c:Code}{M:Nat}{r:aa×af}(m:P.funcs[f]? =D fn)(l:fn.body=D c)(n:kp fn.ntmps c=X)(o:Nat.ble args.length fn.ntmps=X)
  (h:bC P G M c (nD P fn.results.toList) [] (nD P fn.results.toList) (nn args) H=D r):kf E P f args H r.1 r.2:=by
 have ar:(bl.enter fn.ntmps args).size=fn.ntmps:=by have:=Nat.le_of_ble_eq_true o;simp only[bl.enter];omega
 rw[<-B3 fn.ntmps,CW c _ _ _ _ _ (by rw[ar];exact n)]at h;unfold rH at h;have fin:∀(ad:bl) (H':af),nD P fn.results.toList ad.get H'=D r->∃d,iQ P ad H' fn.results.toList=D d/\r=(oB d,H'):=by
  intro ad H' a;unfold nD at a;rw[wG]at a;cases k:iQ P ad H' fn.results.toList with
  |none=>rw[k]at a;cases a
  |some d=>rw[k]at a;exact⟨d,rfl,(Option.some.inj a).symm⟩
 split at h
 ·rename_i ad H' he;obtain⟨d,e,rfl⟩:=fin ad H' h;exact Da j i m l he (λid=>by intro a;cases a) e
 ·cases h
 ·rename_i ad H' he;obtain⟨d,e,rfl⟩:=fin ad H' h;exact Da j i m l he (λid=>by intro a;cases a) e
 ·cases h
def Rel.OO{ρ:Env}{H:af}{w k:World}(h:Rel ρ H w)(m:∀b,b<w.heap.size->k.heap[b]? =w.heap[b]?):Rel ρ H k:=by
 have key:∀b x,w.heap[b]? =D x->k.heap[b]? =D x:=λb x e=>by
  rw[m b ?_];exact e;exact(Array.getElem?_eq_some_iff.1 e).1
 refine⟨λl ro esz els e=> ?_,λl es e=> ?_,λl t esz els e=> ?_,h.apart⟩
 ·obtain⟨loc,a,d,c,t,n,i,j⟩:=h.row l ro esz els e;exact⟨loc,a,d,c,t,n,key _ _ i,j⟩
 ·obtain⟨loc,a,ents,clock,i,j⟩:=h.map l es e;exact⟨loc,a,ents,clock,key _ _ i,j⟩
 ·obtain⟨loc,a,d⟩:=h.ck l t esz els e;exact⟨loc,a,d.frame ρ.le_refl (m _ d.1.lt)⟩
def af.tz(l:Nat):af.empty.get l=none:=by
 cases h:af.empty.get l with
 |none=>rfl
 |some b=>exact absurd (af.a6 h) (Nat.not_lt_zero l)
def QJ(w:World):Rel (λ_=>C) af.empty w:=by
 refine⟨λl ro esz els e=> ?_,λl es e=> ?_,λl t esz els e=> ?_,λl l' loc a _ _ _ h=> ?_⟩
 ·rw[af.tz]at e;cases e
 ·rw[af.tz]at e;cases e
 ·rw[af.tz]at e;cases e
 ·cases h
end
end Go.bn
namespace Go.Proofs.YtghmbpmaafnodaaDoor
open Go.bn
section
def PC(a:List Func):Bool:=a.all λfn=> !(fn.name== "runtime.NumGoroutine")
def MH(a:List Func):Bool:=a.all λfn=>match fn.body with
 |some c=>lG c
 |none=>X
def Qn{P:Program}(a:P.follows .mixedOrders=X)(d:PC P.funcs.toList=X)(e:MH P.funcs.toList=X):pO P:=by
 refine⟨a,λfn j=> ?_,λf fn c i h=> ?_⟩
 ·have:=List.all_eq_true.1 d fn (Array.mem_toList_iff.2 j);simpa using this
 ·have:=List.all_eq_true.1 e fn (Array.mem_toList_iff.2 (Array.mem_of_getElem? i));simpa [h]using this
set_option maxRecDepth 1000000
def wA:pO P:=Qn ah ah ah
end
def JG:eH P 3=D false:=ah
def Kk:cQ P 3=D 1:=ah
def JI:eH P 4=D false:=ah
def Km:cQ P 4=D 1:=ah
def C6{c:Bool}(a b:Bool):au P .eql 4 c (.bool a) (.bool b)=D (.bool (a==b)):=ah
def G3{c:Bool}(a b:Bool):au P .neq 4 c (.bool a) (.bool b)=D (.bool (!(a==b))):=ah
def JO:eH P 5=D false:=ah
def ra:cQ P 5=D 1:=ah
def JY:eH P 9=D false:=ah
def A6:cQ P 9=D 1:=ah
def Gs{H:af}{s:List UInt8}:cx P H .len [9] [.str s]=D (.int .i64 s.length):=ah
def JA:eH P 22=D false:=ah
def Ke:cQ P 22=D 1:=ah
def Ol(l i n:Nat)(cap:Option Nat)(k:Int):cF P 22 (.aG l i n 3 cap) (.int .i64 k)=if 3=3/\0<=k/\k<n then D (.ptr l (i+k.toNat) 0)else none:=ah
def Ft{l i n:Nat}{cap:Option Nat}{k:Int}(a:0<=k)(c:k<n):cF P 22 (.aG l i n 3 cap) (.int .i64 k)=D (.ptr l (i+k.toNat) 0):=by rw[Ol,if_pos ⟨rfl,a,c⟩]
def tS{H:af}{l i n e:Nat}{cap:Option Nat}:cx P H .len [22] [.aG l i n e cap]=D (.int .i64 n):=ah
def vR{H:af}:cx P H .len [22] [.aA]=D (.int .i64 0):=ah
def JB:eH P 23=D false:=ah
def Kf:cQ P 23=D 1:=ah
def Om(l i n:Nat)(cap:Option Nat)(k:Int):cF P 23 (.aG l i n 4 cap) (.int .i64 k)=if 4=4/\0<=k/\k<n then D (.ptr l (i+k.toNat) 0)else none:=ah
def Fu{l i n:Nat}{cap:Option Nat}{k:Int}(a:0<=k)(c:k<n):cF P 23 (.aG l i n 4 cap) (.int .i64 k)=D (.ptr l (i+k.toNat) 0):=by rw[Om,if_pos ⟨rfl,a,c⟩]
def tT{H:af}{l i n e:Nat}{cap:Option Nat}:cx P H .len [23] [.aG l i n e cap]=D (.int .i64 n):=ah
def vS{H:af}:cx P H .len [23] [.aA]=D (.int .i64 0):=ah
def JC:eH P 24=D false:=ah
def Kg:cQ P 24=D 1:=ah
def On(l i n:Nat)(cap:Option Nat)(k:Int):cF P 24 (.aG l i n 7 cap) (.int .i64 k)=if 7=7/\0<=k/\k<n then D (.ptr l (i+k.toNat) 0)else none:=ah
def Fv{l i n:Nat}{cap:Option Nat}{k:Int}(a:0<=k)(c:k<n):cF P 24 (.aG l i n 7 cap) (.int .i64 k)=D (.ptr l (i+k.toNat) 0):=by rw[On,if_pos ⟨rfl,a,c⟩]
def tU{H:af}{l i n e:Nat}{cap:Option Nat}:cx P H .len [24] [.aG l i n e cap]=D (.int .i64 n):=ah
def vT{H:af}:cx P H .len [24] [.aA]=D (.int .i64 0):=ah
def JD:eH P 26=D true:=ah
def Kh:cQ P 26=D 3:=ah
def Dt(l i c:Nat):aJ P 26 (.ptr l i c) 0=D (.ptr l i (c+0)):=ah
def EB(a0 aT a2:aa):c0 P 26 (.agg [a0,aT,a2]) 0=D a0:=ah
def Du(l i c:Nat):aJ P 26 (.ptr l i c) 1=D (.ptr l i (c+1)):=ah
def EC(a0 aT a2:aa):c0 P 26 (.agg [a0,aT,a2]) 1=D aT:=ah
def Dv(l i c:Nat):aJ P 26 (.ptr l i c) 2=D (.ptr l i (c+2)):=ah
def ED(a0 aT a2:aa):c0 P 26 (.agg [a0,aT,a2]) 2=D a2:=ah
def JE:eH P 27=D false:=ah
def Ki:cQ P 27=D 1:=ah
def JF:eH P 29=D true:=ah
def Kj:cQ P 29=D 2:=ah
def Dw(l i c:Nat):aJ P 29 (.ptr l i c) 0=D (.ptr l i (c+0)):=ah
def EE(a0 aT:aa):c0 P 29 (.agg [a0,aT]) 0=D a0:=ah
def Dx(l i c:Nat):aJ P 29 (.ptr l i c) 1=D (.ptr l i (c+1)):=ah
def EG(a0 aT:aa):c0 P 29 (.agg [a0,aT]) 1=D aT:=ah
def JH:eH P 36=D false:=ah
def Kl:cQ P 36=D 1:=ah
def Oo(l i n:Nat)(cap:Option Nat)(k:Int):cF P 36 (.aG l i n 4 cap) (.int .i64 k)=if 4=4/\0<=k/\k<n then D (.ptr l (i+k.toNat) 0)else none:=ah
def y0{l i n:Nat}{cap:Option Nat}{k:Int}(a:0<=k)(c:k<n):cF P 36 (.aG l i n 4 cap) (.int .i64 k)=D (.ptr l (i+k.toNat) 0):=by rw[Oo,if_pos ⟨rfl,a,c⟩]
def vU{H:af}{l i n e:Nat}{cap:Option Nat}:cx P H .len [36] [.aG l i n e cap]=D (.int .i64 n):=ah
def zq{H:af}:cx P H .len [36] [.aA]=D (.int .i64 0):=ah
def JJ:eH P 40=D true:=ah
def Kn:cQ P 40=D 2:=ah
def Dy(l i c:Nat):aJ P 40 (.ptr l i c) 0=D (.ptr l i (c+0)):=ah
def EH(a0 aT:aa):c0 P 40 (.agg [a0,aT]) 0=D a0:=ah
def Dz(l i c:Nat):aJ P 40 (.ptr l i c) 1=D (.ptr l i (c+1)):=ah
def EI(a0 aT:aa):c0 P 40 (.agg [a0,aT]) 1=D aT:=ah
def JL:eH P 41=D false:=ah
def Ko:cQ P 41=D 1:=ah
def Oq(l i n:Nat)(cap:Option Nat)(k:Int):cF P 41 (.aG l i n 11 cap) (.int .i64 k)=if 11=11/\0<=k/\k<n then D (.ptr l (i+k.toNat) 0)else none:=ah
def Fw{l i n:Nat}{cap:Option Nat}{k:Int}(a:0<=k)(c:k<n):cF P 41 (.aG l i n 11 cap) (.int .i64 k)=D (.ptr l (i+k.toNat) 0):=by rw[Oq,if_pos ⟨rfl,a,c⟩]
def oO{H:af}{l i n e:Nat}{cap:Option Nat}:cx P H .len [41] [.aG l i n e cap]=D (.int .i64 n):=ah
def tV{H:af}:cx P H .len [41] [.aA]=D (.int .i64 0):=ah
def JM:eH P 43=D true:=ah
def Kp:cQ P 43=D 3:=ah
def DA(l i c:Nat):aJ P 43 (.ptr l i c) 0=D (.ptr l i (c+0)):=ah
def EJ(a0 aT a2:aa):c0 P 43 (.agg [a0,aT,a2]) 0=D a0:=ah
def DB(l i c:Nat):aJ P 43 (.ptr l i c) 1=D (.ptr l i (c+1)):=ah
def EK(a0 aT a2:aa):c0 P 43 (.agg [a0,aT,a2]) 1=D aT:=ah
def DC(l i c:Nat):aJ P 43 (.ptr l i c) 2=D (.ptr l i (c+2)):=ah
def EL(a0 aT a2:aa):c0 P 43 (.agg [a0,aT,a2]) 2=D a2:=ah
def JN:eH P 45=D true:=ah
def xr:cQ P 45=D 11:=ah
def DD(l i c:Nat):aJ P 45 (.ptr l i c) 0=D (.ptr l i (c+0)):=ah
def EM(a0 aT a2 a3 a4 a5 c d e a9 a:aa):c0 P 45 (.agg [a0,aT,a2,a3,a4,a5,c,d,e,a9,a]) 0=D a0:=ah
def DF(l i c:Nat):aJ P 45 (.ptr l i c) 1=D (.ptr l i (c+1)):=ah
def EN(a0 aT a2 a3 a4 a5 c d e a9 a:aa):c0 P 45 (.agg [a0,aT,a2,a3,a4,a5,c,d,e,a9,a]) 1=D aT:=ah
def DG(l i c:Nat):aJ P 45 (.ptr l i c) 2=D (.ptr l i (c+2)):=ah
def EO(a0 aT a2 a3 a4 a5 c d e a9 a:aa):c0 P 45 (.agg [a0,aT,a2,a3,a4,a5,c,d,e,a9,a]) 2=D a2:=ah
def DH(l i c:Nat):aJ P 45 (.ptr l i c) 3=D (.ptr l i (c+3)):=ah
def EP(a0 aT a2 a3 a4 a5 c d e a9 a:aa):c0 P 45 (.agg [a0,aT,a2,a3,a4,a5,c,d,e,a9,a]) 3=D (.agg [a3,a4]):=ah
def DI(l i c:Nat):aJ P 45 (.ptr l i c) 4=D (.ptr l i (c+5)):=ah
def ER(a0 aT a2 a3 a4 a5 c d e a9 a:aa):c0 P 45 (.agg [a0,aT,a2,a3,a4,a5,c,d,e,a9,a]) 4=D a5:=ah
def DJ(l i c:Nat):aJ P 45 (.ptr l i c) 5=D (.ptr l i (c+6)):=ah
def ES(a0 aT a2 a3 a4 a5 a d e a9 c:aa):c0 P 45 (.agg [a0,aT,a2,a3,a4,a5,a,d,e,a9,c]) 5=D a:=ah
def DK(l i c:Nat):aJ P 45 (.ptr l i c) 6=D (.ptr l i (c+7)):=ah
def ET(a0 aT a2 a3 a4 a5 e a c a9 d:aa):c0 P 45 (.agg [a0,aT,a2,a3,a4,a5,e,a,c,a9,d]) 6=D (.agg [a,c,a9]):=ah
def DL(l i c:Nat):aJ P 45 (.ptr l i c) 7=D (.ptr l i (c+10)):=ah
def EU(a0 aT a2 a3 a4 a5 c d e a9 a:aa):c0 P 45 (.agg [a0,aT,a2,a3,a4,a5,c,d,e,a9,a]) 7=D a:=ah
def uW:eH P 50=D false:=ah
def Kq:cQ P 50=D 1:=ah
def Ot(l i n:Nat)(cap:Option Nat)(k:Int):cF P 50 (.aG l i n 1 cap) (.int .i64 k)=if 1=1/\0<=k/\k<n then D (.ptr l (i+k.toNat) 0)else none:=ah
def y1{l i n:Nat}{cap:Option Nat}{k:Int}(a:0<=k)(c:k<n):cF P 50 (.aG l i n 1 cap) (.int .i64 k)=D (.ptr l (i+k.toNat) 0):=by rw[Ot,if_pos ⟨rfl,a,c⟩]
def Gl{H:af}{l i n e:Nat}{cap:Option Nat}:cx P H .len [50] [.aG l i n e cap]=D (.int .i64 n):=ah
def Gm{H:af}:cx P H .len [50] [.aA]=D (.int .i64 0):=ah
def uX:eH P 51=D false:=ah
def Kr:cQ P 51=D 1:=ah
def Ou(l i n:Nat)(cap:Option Nat)(k:Int):cF P 51 (.aG l i n 1 cap) (.int .i64 k)=if 1=1/\0<=k/\k<n then D (.ptr l (i+k.toNat) 0)else none:=ah
def y2{l i n:Nat}{cap:Option Nat}{k:Int}(a:0<=k)(c:k<n):cF P 51 (.aG l i n 1 cap) (.int .i64 k)=D (.ptr l (i+k.toNat) 0):=by rw[Ou,if_pos ⟨rfl,a,c⟩]
def Gn{H:af}{l i n e:Nat}{cap:Option Nat}:cx P H .len [51] [.aG l i n e cap]=D (.int .i64 n):=ah
def Gp{H:af}:cx P H .len [51] [.aA]=D (.int .i64 0):=ah
def rM(l i c:Nat):aJ P 59 (.ptr l i c) 0=D (.ptr l i (c+0)):=ah
def EV(a0 aT a2 a3 a4:aa):c0 P 59 (.agg [a0,aT,a2,a3,a4]) 0=D a0:=ah
def rN(l i c:Nat):aJ P 59 (.ptr l i c) 1=D (.ptr l i (c+1)):=ah
def EW(a0 aT a2 a3 a4:aa):c0 P 59 (.agg [a0,aT,a2,a3,a4]) 1=D aT:=ah
def DM(l i c:Nat):aJ P 59 (.ptr l i c) 2=D (.ptr l i (c+2)):=ah
def EX(a0 aT a2 a3 a4:aa):c0 P 59 (.agg [a0,aT,a2,a3,a4]) 2=D a2:=ah
def DN(l i c:Nat):aJ P 59 (.ptr l i c) 3=D (.ptr l i (c+3)):=ah
def EY(a0 aT a2 a3 a4:aa):c0 P 59 (.agg [a0,aT,a2,a3,a4]) 3=D (.agg [a3,a4]):=ah
def JP:eH P 61=D true:=ah
def xt:cQ P 61=D 4:=ah
def DO(l i c:Nat):aJ P 61 (.ptr l i c) 0=D (.ptr l i (c+0)):=ah
def EZ(a0 aT a2 a3:aa):c0 P 61 (.agg [a0,aT,a2,a3]) 0=D a0:=ah
def DP(l i c:Nat):aJ P 61 (.ptr l i c) 1=D (.ptr l i (c+1)):=ah
def E0(a0 aT a2 a3:aa):c0 P 61 (.agg [a0,aT,a2,a3]) 1=D aT:=ah
def DQ(l i c:Nat):aJ P 61 (.ptr l i c) 2=D (.ptr l i (c+2)):=ah
def E1(a0 aT a2 a3:aa):c0 P 61 (.agg [a0,aT,a2,a3]) 2=D a2:=ah
def DR(l i c:Nat):aJ P 61 (.ptr l i c) 3=D (.ptr l i (c+3)):=ah
def E2(a0 aT a2 a3:aa):c0 P 61 (.agg [a0,aT,a2,a3]) 3=D a3:=ah
def JQ:eH P 65=D true:=ah
def A3:cQ P 65=D 3:=ah
def DS(l i c:Nat):aJ P 65 (.ptr l i c) 0=D (.ptr l i (c+0)):=ah
def E3(a0 aT a2:aa):c0 P 65 (.agg [a0,aT,a2]) 0=D a0:=ah
def DT(l i c:Nat):aJ P 65 (.ptr l i c) 1=D (.ptr l i (c+1)):=ah
def E4(a0 aT a2:aa):c0 P 65 (.agg [a0,aT,a2]) 1=D aT:=ah
def DU(l i c:Nat):aJ P 65 (.ptr l i c) 2=D (.ptr l i (c+2)):=ah
def E5(a0 aT a2:aa):c0 P 65 (.agg [a0,aT,a2]) 2=D a2:=ah
def JR:eH P 68=D true:=ah
def A4:cQ P 68=D 4:=ah
def DV(l i c:Nat):aJ P 68 (.ptr l i c) 0=D (.ptr l i (c+0)):=ah
def E6(a0 aT a2 a3:aa):c0 P 68 (.agg [a0,aT,a2,a3]) 0=D a0:=ah
def DW(l i c:Nat):aJ P 68 (.ptr l i c) 1=D (.ptr l i (c+1)):=ah
def E7(a0 aT a2 a3:aa):c0 P 68 (.agg [a0,aT,a2,a3]) 1=D (.agg [aT,a2]):=ah
def DX(l i c:Nat):aJ P 68 (.ptr l i c) 2=D (.ptr l i (c+3)):=ah
def E8(a0 aT a2 a3:aa):c0 P 68 (.agg [a0,aT,a2,a3]) 2=D a3:=ah
def AQ:eH P 71=D false:=ah
def u0:cQ P 71=D 1:=ah
def Ov(l i n:Nat)(cap:Option Nat)(k:Int):cF P 71 (.aG l i n 9 cap) (.int .i64 k)=if 9=9/\0<=k/\k<n then D (.ptr l (i+k.toNat) 0)else none:=ah
def Fx{l i n:Nat}{cap:Option Nat}{k:Int}(a:0<=k)(c:k<n):cF P 71 (.aG l i n 9 cap) (.int .i64 k)=D (.ptr l (i+k.toNat) 0):=by rw[Ov,if_pos ⟨rfl,a,c⟩]
def vV{H:af}{l i n e:Nat}{cap:Option Nat}:cx P H .len [71] [.aG l i n e cap]=D (.int .i64 n):=ah
def zr{H:af}:cx P H .len [71] [.aA]=D (.int .i64 0):=ah
def JS:eH P 73=D true:=ah
def A5:cQ P 73=D 7:=ah
def DY(l i c:Nat):aJ P 73 (.ptr l i c) 0=D (.ptr l i (c+0)):=ah
def E9(a0 aT a2 a3 a4 a5 a:aa):c0 P 73 (.agg [a0,aT,a2,a3,a4,a5,a]) 0=D a0:=ah
def DZ(l i c:Nat):aJ P 73 (.ptr l i c) 1=D (.ptr l i (c+1)):=ah
def E_(a0 aT a2 a3 a4 a5 a:aa):c0 P 73 (.agg [a0,aT,a2,a3,a4,a5,a]) 1=D aT:=ah
def D0(l i c:Nat):aJ P 73 (.ptr l i c) 2=D (.ptr l i (c+2)):=ah
def Fa(a0 aT a2 a3 a4 a5 a:aa):c0 P 73 (.agg [a0,aT,a2,a3,a4,a5,a]) 2=D a2:=ah
def D1(l i c:Nat):aJ P 73 (.ptr l i c) 3=D (.ptr l i (c+3)):=ah
def Fb(a0 aT a2 a3 a4 a5 a:aa):c0 P 73 (.agg [a0,aT,a2,a3,a4,a5,a]) 3=D (.agg [a3,a4]):=ah
def D2(l i c:Nat):aJ P 73 (.ptr l i c) 4=D (.ptr l i (c+5)):=ah
def Fc(a0 aT a2 a3 a4 a5 a:aa):c0 P 73 (.agg [a0,aT,a2,a3,a4,a5,a]) 4=D a5:=ah
def D3(l i c:Nat):aJ P 73 (.ptr l i c) 5=D (.ptr l i (c+6)):=ah
def Fe(a0 aT a2 a3 a4 a5 a:aa):c0 P 73 (.agg [a0,aT,a2,a3,a4,a5,a]) 5=D a:=ah
def JT:eH P 75=D false:=ah
def Ks:cQ P 75=D 1:=ah
def JU:eH P 76=D false:=ah
def Kt:cQ P 76=D 1:=ah
def JV:eH P 77=D false:=ah
def Ku:cQ P 77=D 1:=ah
def Ow(l i n:Nat)(cap:Option Nat)(k:Int):cF P 77 (.aG l i n 1 cap) (.int .i64 k)=if 1=1/\0<=k/\k<n then D (.ptr l (i+k.toNat) 0)else none:=ah
def Fy{l i n:Nat}{cap:Option Nat}{k:Int}(a:0<=k)(c:k<n):cF P 77 (.aG l i n 1 cap) (.int .i64 k)=D (.ptr l (i+k.toNat) 0):=by rw[Ow,if_pos ⟨rfl,a,c⟩]
def Gq{H:af}{l i n e:Nat}{cap:Option Nat}:cx P H .len [77] [.aG l i n e cap]=D (.int .i64 n):=ah
def Gr{H:af}:cx P H .len [77] [.aA]=D (.int .i64 0):=ah
def JW:eH P 79=D true:=ah
def Kv:cQ P 79=D 2:=ah
def D4(l i c:Nat):aJ P 79 (.ptr l i c) 0=D (.ptr l i (c+0)):=ah
def Ff(a0 aT:aa):c0 P 79 (.agg [a0,aT]) 0=D a0:=ah
def D5(l i c:Nat):aJ P 79 (.ptr l i c) 1=D (.ptr l i (c+1)):=ah
def Fg(a0 aT:aa):c0 P 79 (.agg [a0,aT]) 1=D aT:=ah
def JX:eH P 81=D true:=ah
def Kw:cQ P 81=D 2:=ah
def D6(l i c:Nat):aJ P 81 (.ptr l i c) 0=D (.ptr l i (c+0)):=ah
def Fh(a0 aT:aa):c0 P 81 (.agg [a0,aT]) 0=D (.agg [a0,aT]):=ah
def AP:eH P 112=D true:=ah
def sY:cQ P 112=D 9:=ah
def Dk(l i c:Nat):aJ P 112 (.ptr l i c) 0=D (.ptr l i (c+0)):=ah
def Et(a0 aT a2 a3 a4 a5 a c d:aa):c0 P 112 (.agg [a0,aT,a2,a3,a4,a5,a,c,d]) 0=D a0:=ah
def Dl(l i c:Nat):aJ P 112 (.ptr l i c) 1=D (.ptr l i (c+1)):=ah
def Eu(a0 aT a2 a3 a4 a5 a c d:aa):c0 P 112 (.agg [a0,aT,a2,a3,a4,a5,a,c,d]) 1=D aT:=ah
def Dm(l i c:Nat):aJ P 112 (.ptr l i c) 2=D (.ptr l i (c+2)):=ah
def Ev(a0 aT a2 a3 a4 a5 a c d:aa):c0 P 112 (.agg [a0,aT,a2,a3,a4,a5,a,c,d]) 2=D (.agg [a2,a3]):=ah
def Dn(l i c:Nat):aJ P 112 (.ptr l i c) 3=D (.ptr l i (c+4)):=ah
def Ew(a0 aT a2 a3 a4 a5 a c d:aa):c0 P 112 (.agg [a0,aT,a2,a3,a4,a5,a,c,d]) 3=D a4:=ah
def Dp(l i c:Nat):aJ P 112 (.ptr l i c) 4=D (.ptr l i (c+5)):=ah
def Ex(a0 aT a2 a3 a4 a5 a c d:aa):c0 P 112 (.agg [a0,aT,a2,a3,a4,a5,a,c,d]) 4=D a5:=ah
def Dq(l i c:Nat):aJ P 112 (.ptr l i c) 5=D (.ptr l i (c+6)):=ah
def Ey(a0 aT a2 a3 a4 a5 a c d:aa):c0 P 112 (.agg [a0,aT,a2,a3,a4,a5,a,c,d]) 5=D a:=ah
def Dr(l i c:Nat):aJ P 112 (.ptr l i c) 6=D (.ptr l i (c+7)):=ah
def Ez(a0 aT a2 a3 a4 a5 c a d:aa):c0 P 112 (.agg [a0,aT,a2,a3,a4,a5,c,a,d]) 6=D a:=ah
def Ds(l i c:Nat):aJ P 112 (.ptr l i c) 7=D (.ptr l i (c+8)):=ah
def EA(a0 aT a2 a3 a4 a5 c d a:aa):c0 P 112 (.agg [a0,aT,a2,a3,a4,a5,c,d,a]) 7=D a:=ah
def Jy:eH P 131=D false:=ah
def Kc:cQ P 131=D 1:=ah
def Oj(l i n:Nat)(cap:Option Nat)(k:Int):cF P 131 (.aG l i n 1 cap) (.int .i64 k)=if 1=1/\0<=k/\k<n then D (.ptr l (i+k.toNat) 0)else none:=ah
def yY{l i n:Nat}{cap:Option Nat}{k:Int}(a:0<=k)(c:k<n):cF P 131 (.aG l i n 1 cap) (.int .i64 k)=D (.ptr l (i+k.toNat) 0):=by rw[Oj,if_pos ⟨rfl,a,c⟩]
def Gh{H:af}{l i n e:Nat}{cap:Option Nat}:cx P H .len [131] [.aG l i n e cap]=D (.int .i64 n):=ah
def Gi{H:af}:cx P H .len [131] [.aA]=D (.int .i64 0):=ah
def Jz:eH P 132=D false:=ah
def Kd:cQ P 132=D 1:=ah
def Ok(l i n:Nat)(cap:Option Nat)(k:Int):cF P 132 (.aG l i n 1 cap) (.int .i64 k)=if 1=1/\0<=k/\k<n then D (.ptr l (i+k.toNat) 0)else none:=ah
def yZ{l i n:Nat}{cap:Option Nat}{k:Int}(a:0<=k)(c:k<n):cF P 132 (.aG l i n 1 cap) (.int .i64 k)=D (.ptr l (i+k.toNat) 0):=by rw[Ok,if_pos ⟨rfl,a,c⟩]
def Gj{H:af}{l i n e:Nat}{cap:Option Nat}:cx P H .len [132] [.aG l i n e cap]=D (.int .i64 n):=ah
def Gk{H:af}:cx P H .len [132] [.aA]=D (.int .i64 0):=ah
def Cw:cS P 59 [(0,aa.aA)]=D (.agg [aa.aA,.int .i64 0,.int .i64 0,.int .i64 0,.int .i64 0]):=ah
def Cx(e:Nat)(d:Nat)(h:Nat)(c:Nat)(a:Option Nat):cS P 59 [(0,(.aG e d h c a))]=D (.agg [.aG e d h c a,.int .i64 0,.int .i64 0,.int .i64 0,.int .i64 0]):=ah
def Cg(a0:List UInt8)(aT:Int):cS P 40 [(0,(.str a0)),(1,(.int .i64 aT))]=D (.agg [.str a0,.int .i64 aT]):=ah
def Cd(a0:Int):cS P 29 [(0,(.int .i64 a0))]=D (.agg [.int .i64 a0,.int .i64 0]):=ah
def Ce(a0:Int)(aT:Int):cS P 29 [(0,(.int .i64 a0)),(1,(.int .i64 aT))]=D (.agg [.int .i64 a0,.int .i64 aT]):=ah
def CB(a0:Int)(a3:Int):cS P 61 [(0,(.int .i64 a0)),(3,(.int .i64 a3))]=D (.agg [.int .i64 a0,.str [],.int .i64 0,.int .i64 a3]):=ah
def Cs(aT:Int)(a2:Int):cS P 59 [(0,aa.aA),(1,(.int .i64 aT)),(2,(.int .i64 a2))]=D (.agg [aa.aA,.int .i64 aT,.int .i64 a2,.int .i64 0,.int .i64 0]):=ah
def Ct(e:Nat)(d:Nat)(h:Nat)(c:Nat)(a:Option Nat)(aT:Int)(a2:Int):cS P 59 [(0,(.aG e d h c a)),(1,(.int .i64 aT)),(2,(.int .i64 a2))]=D (.agg [.aG e d h c a,.int .i64 aT,.int .i64 a2,.int .i64 0,.int .i64 0]):=ah
def Cu(aT:Int):cS P 59 [(0,aa.aA),(1,(.int .i64 aT))]=D (.agg [aa.aA,.int .i64 aT,.int .i64 0,.int .i64 0,.int .i64 0]):=ah
def Cv(e:Nat)(d:Nat)(h:Nat)(c:Nat)(a:Option Nat)(aT:Int):cS P 59 [(0,(.aG e d h c a)),(1,(.int .i64 aT))]=D (.agg [.aG e d h c a,.int .i64 aT,.int .i64 0,.int .i64 0,.int .i64 0]):=ah
def Cy(a0:Int):cS P 61 [(0,(.int .i64 a0))]=D (.agg [.int .i64 a0,.str [],.int .i64 0,.int .i64 0]):=ah
def CC(a2:Int):cS P 65 [(2,(.int .i64 a2))]=D (.agg [.str [],aa.aA,.int .i64 a2]):=ah
def CE(a2:Int):cS P 68 [(2,(.int .i64 a2))]=D (.agg [.str [],.str [],.int .i64 0,.int .i64 a2]):=ah
def CF(a5:Int):cS P 73 [(5,(.int .i64 a5))]=D (.agg [.str [],aa.aA,.bool U,.str [],.int .i64 0,aa.aA,.int .i64 a5]):=ah
def Cz(a0:Int)(aT:List UInt8)(a3:Int):cS P 61 [(0,(.int .i64 a0)),(1,(.str aT)),(3,(.int .i64 a3))]=D (.agg [.int .i64 a0,.str aT,.int .i64 0,.int .i64 a3]):=ah
def CA(a0:Int)(a2:Int)(a3:Int):cS P 61 [(0,(.int .i64 a0)),(2,(.int .i64 a2)),(3,(.int .i64 a3))]=D (.agg [.int .i64 a0,.str [],.int .i64 a2,.int .i64 a3]):=ah
def Cp(a0:Int)(a5:Int):cS P 45 [(0,(.int .i64 a0)),(4,aa.aA),(5,(.int .i64 a5))]=D (.agg [.int .i64 a0,.int .i64 0,.str [],.str [],.int .i64 0,aa.aA,.int .i64 a5,.int .i64 0,.int .i64 0,.int .i64 0,.int .i64 0]):=ah
def Cq(a0:Int)(e:Nat)(d:Nat)(h:Nat)(c:Nat)(a:Option Nat)(a5:Int):cS P 45 [(0,(.int .i64 a0)),(4,(.aG e d h c a)),(5,(.int .i64 a5))]=D (.agg [.int .i64 a0,.int .i64 0,.str [],.str [],.int .i64 0,.aG e d h c a,.int .i64 a5,.int .i64 0,.int .i64 0,.int .i64 0,.int .i64 0]):=ah
def Ch(aT:Int):cS P 40 [(1,(.int .i64 aT))]=D (.agg [.str [],.int .i64 aT]):=ah
def Cc(a:Int):cS P 112 [(6,(.int .i64 a))]=D (.agg [.int .i64 0,.str [],.str [],.int .i64 0,aa.aA,aa.aA,aa.aA,.int .i64 a,.int .i64 0]):=ah
def Cj(a0:Int)(a2:List UInt8)(a5:Int):cS P 45 [(0,(.int .i64 a0)),(2,(.str a2)),(4,aa.aA),(5,(.int .i64 a5))]=D (.agg [.int .i64 a0,.int .i64 0,.str a2,.str [],.int .i64 0,aa.aA,.int .i64 a5,.int .i64 0,.int .i64 0,.int .i64 0,.int .i64 0]):=ah
def Ck(a0:Int)(a2:List UInt8)(e:Nat)(d:Nat)(h:Nat)(c:Nat)(a:Option Nat)(a5:Int):cS P 45 [(0,(.int .i64 a0)),(2,(.str a2)),(4,(.aG e d h c a)),(5,(.int .i64 a5))]=D (.agg [.int .i64 a0,.int .i64 0,.str a2,.str [],.int .i64 0,.aG e d h c a,.int .i64 a5,.int .i64 0,.int .i64 0,.int .i64 0,.int .i64 0]):=ah
def Ci(a0:Int)(aT:Int)(a5:Int):cS P 45 [(0,(.int .i64 a0)),(1,(.int .i64 aT)),(5,(.int .i64 a5))]=D (.agg [.int .i64 a0,.int .i64 aT,.str [],.str [],.int .i64 0,aa.aA,.int .i64 a5,.int .i64 0,.int .i64 0,.int .i64 0,.int .i64 0]):=ah
def Co(a0:Int)(a:List UInt8)(c:Int)(a5:Int):cS P 45 [(0,(.int .i64 a0)),(3,(.agg [.str a,.int .i64 c])),(5,(.int .i64 a5))]=D (.agg [.int .i64 a0,.int .i64 0,.str [],.str a,.int .i64 c,aa.aA,.int .i64 a5,.int .i64 0,.int .i64 0,.int .i64 0,.int .i64 0]):=ah
def Cr(a0:Int)(a5:Int):cS P 45 [(0,(.int .i64 a0)),(5,(.int .i64 a5))]=D (.agg [.int .i64 a0,.int .i64 0,.str [],.str [],.int .i64 0,aa.aA,.int .i64 a5,.int .i64 0,.int .i64 0,.int .i64 0,.int .i64 0]):=ah
def Cl(a0:Int)(a2:List UInt8)(a5:Int):cS P 45 [(0,(.int .i64 a0)),(2,(.str a2)),(5,(.int .i64 a5))]=D (.agg [.int .i64 a0,.int .i64 0,.str a2,.str [],.int .i64 0,aa.aA,.int .i64 a5,.int .i64 0,.int .i64 0,.int .i64 0,.int .i64 0]):=ah
def Cf(a0:List UInt8):cS P 40 [(0,(.str a0))]=D (.agg [.str a0,.int .i64 0]):=ah
def Cm(a0:Int)(a:List UInt8)(c:Int)(a5:Int):cS P 45 [(0,(.int .i64 a0)),(3,(.agg [.str a,.int .i64 c])),(4,aa.aA),(5,(.int .i64 a5))]=D (.agg [.int .i64 a0,.int .i64 0,.str [],.str a,.int .i64 c,aa.aA,.int .i64 a5,.int .i64 0,.int .i64 0,.int .i64 0,.int .i64 0]):=ah
def Cn(a0:Int)(a:List UInt8)(c:Int)(i:Nat)(h:Nat)(j:Nat)(e:Nat)(d:Option Nat)(a5:Int):cS P 45 [(0,(.int .i64 a0)),(3,(.agg [.str a,.int .i64 c])),(4,(.aG i h j e d)),(5,(.int .i64 a5))]=D (.agg [.int .i64 a0,.int .i64 0,.str [],.str a,.int .i64 c,.aG i h j e d,.int .i64 a5,.int .i64 0,.int .i64 0,.int .i64 0,.int .i64 0]):=ah
end Go.Proofs.YtghmbpmaafnodaaDoor
namespace Go.bn
open Go.ChangeShapes Go.WideShapes Go.ChangeAt Go.RowKit
def Bx(E:Env)(P:Program)(f:Nat)(args:List Value)(W:World):Prop:=∃(ρ:Env) (H:af) (a:List aa) (H':af),Rel ρ H W/\(∀l,¬H.rw l)/\(∀l,H.next<=l->ρ l=C)/\E.le ρ/\H.next<=H'.next/\bL ρ a args/\kf E P f a H (.bool X) H'
def OU{E:Env}{P:Program}{f:Nat}{fn:Func}{c:Code}{args:List Value}{W:World}(w:pO P)(m:P.funcs[f]? =D fn)(y:fn.body=D c)(h:Bx E P f args W):
  Calls P f args.toArray W λe a=>e= .returned (.bool X)/\Below W.heap.size W a:=by
 obtain⟨ρ,H,L,H',n,o,p,v,q,s,u⟩:=h;have F:∀b,¬jW ρ H b:=by rintro b ⟨l,loc,j,_⟩;exact o l j
 have i:=u ρ W args n ⟨λl j _=>p l j,v⟩ s q (λx a=>x= .bool X/\Below W.heap.size W a) (λx a M K ar=>by
  cases K;exact⟨rfl,ar.os,ar.tape,ar.output,ar.size,λk A=>ar.frame k A (F k)⟩)
 have B:(fn.name== "runtime.NumGoroutine")=false:=w.names fn (Array.mem_of_getElem? m);have G:(callFunc f args.toArray).run P W= .ok (.enter f args.toArray) W:=by
  unfold callFunc;simp[m,y];intro z;simp[z]at B
 unfold ov at i;rw[G]at i;simp only at i;refine i.mono λe a d=> ?_
 split at d
 ·exact⟨by rw[d.1],d.2⟩
 ·exact d.elim
def Kb{H:Type}{enc:TypeId×Value->H}{P:Program}{W j:World}(n:laidOutB P=X)(l:Below W.heap.size W j):∀{ts:List TypeId} {c:List Value} {a:List (DataW H)} {i:List MemPlace},(∀t∈ts,P.readableRec t=X/\t<P.types.size)->
  DataW.TrodAll enc P W 0 (λ_=>X) X ts c a i->∃o,DataW.TrodAll enc P j 0 (λb=>decide (b<W.heap.size)) X ts c a o
 |[],c,a,i,_,h=>by
  obtain⟨rfl,rfl,rfl⟩:=trodAll_nil h;exact⟨[],trodAll_mk0⟩
 |t::ts,c,a,i,e,h=>by
  obtain⟨v,A,d,z,p,q,rfl,rfl,rfl,k,s⟩:=trodAll_cons h;obtain⟨o,u⟩:=Kb n l (λt y=>e t (List.mem_cons_of_mem _ y)) s;have w:∀x∈p,x.block<W.heap.size:=by obtain⟨m,hm⟩:=k;exact DataW.trod_lt m _ _ _ hm
  exact⟨_,trodAll_cons_mk (Below.trod n (e t (List.mem_cons_self ..)).1 (e t (List.mem_cons_self ..)).2 k l w) u⟩
structure Seen(ρ:Env)(H:af)(W:World):Prop where
 rel:Rel ρ H W
 ro:∀l,¬H.rw l
 top:∀l,H.next<=l->ρ l=none
def Seen.empty(W:World):Seen (λ_=>C) af.empty W:=
 have c:∀l,¬af.empty.rw l:=λl a=>by
  rcases a with⟨e,s,h⟩|⟨es,h⟩|⟨t,e,s,h⟩<;>rw[af.tz]at h<;>cases h
 ⟨QJ W,c,λ_ _=>rfl⟩
def Seen.tN{ρ:Env}{H:af}{W:World}(h:Seen ρ H W)(loc:Go.bn.Loc):ρ.le (ρ.fe H.next loc):=λl a e=>by
 have:l≠H.next:=by rintro rfl;rw[h.top _ (bo _)]at e;cases e
 simp only[Env.fe,if_neg this];exact e
def gD.mono{ρ d:Env}(hle:ρ.le d){w:World}{loc:Go.bn.Loc}{ro:Bool}{esz:Nat}{els:List (List aa)}(h:gD ρ w loc ro esz els):gD d w loc ro esz els:=by
 obtain⟨l,c,t,k,m,n,a⟩:=h;refine⟨l,c,t,k,m,n,λi e he=>⟨(a i e he).1,λj v o=> ?_⟩⟩;obtain⟨bb,x,p,q⟩:=(a i e he).2 j v o;exact⟨bb,x,p,q.mono hle⟩
def Seen.push{ρ:Env}{H:af}{W:World}(h:Seen ρ H W){loc:Go.bn.Loc}{esz:Nat}{els:List (List aa)}(k:gD ρ W loc X esz els):Seen (ρ.fe H.next loc) (H.push (.row X esz els)) W:=by
 have hle:=h.tN loc;have d:∀l,¬(H.push (.row X esz els)).rw l:=by
  rintro l (⟨e,s,a⟩|⟨es,a⟩|⟨t,e,s,a⟩)
  ·rw[af.tH]at a;split at a
   ·cases a
   ·exact h.ro l (.inl ⟨e,s,a⟩)
  ·rw[af.tH]at a;split at a
   ·cases a
   ·exact h.ro l (.inr (.inl ⟨es,a⟩))
  ·rw[af.tH]at a;split at a
   ·cases a
   ·exact h.ro l (.inr (.inr ⟨t,e,s,a⟩))
 refine⟨⟨λl ro e s a=> ?_,λl es a=> ?_,λl t e s a=>absurd (.inr (.inr ⟨t,e,s,a⟩)) (d l),λl l' _ _ c=>absurd c (d l)⟩,d,λl c=> ?_⟩
 ·rw[af.tH]at a;split at a
  ·rename_i c;cases a;exact⟨loc,by simp[Env.fe,c],k.mono hle⟩
  ·obtain⟨m,i,j⟩:=h.rel.row l ro e s a;exact⟨m,hle _ _ i,j.mono hle⟩
 ·exact absurd (.inr (.inl ⟨es,a⟩)) (d l)
 ·simp only[af.ch]at c;have:l≠H.next:=ae
  simp only[Env.fe,if_neg this];exact h.top l ae
