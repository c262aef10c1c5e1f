/-
  Texts of one proof, laid together: Hv23 Hv24 Base Hv25 Pk Hv26 Tab Ls Lw Ma.
-/
import Derived.Test.YtmhhnnklfcbgfaaGreatMD
import Derived.Test.YtmhhnnklfcbgfaaGreatProg
import Derived.KernelRfl
import Derived.ProofKit
import Derived.OpenShut
import Derived.ShutString
import Derived.ChangeOld
import Derived.Below
import Derived.Carry
set_option linter.unusedVariables false
set_option linter.unusedSimpArgs false
set_option linter.defProp false
open Option renaming some→A,none→Z
open Bool renaming true→J,false→I
namespace Go
def Code.aj:Code->Code
 | .seq a _=>a
 | .cond _ a _=>a
 | .block _ b=>b
 | .loop b=>b
 |c=>c
def Code.aa:Code->Code
 | .seq _ b=>b
 | .cond _ _ b=>b
 |c=>c
def Code.test:Code->Operand
 | .cond c _ _=>c
 |_=> .tmp 0
def Code.num:Code->Nat
 | .block id _=>id
 | .exit id=>id
 |_=>0
def Code.MB:Code->Bool| .seq _ _=>J|_=>I
def Code.Mv:Code->Bool| .cond _ _ _=>J|_=>I
def Code.Mu:Code->Bool| .block _ _=>J|_=>I
def Code.My:Code->Bool| .loop _=>J|_=>I
end Go
namespace Go.cw
section
variable {P:Program}{call:aq}{N:Nat}{b7 fV:bQ}{b2:List (Nat×bQ)}
def ajJ{c:Code}{k T:bQ}(aA:c.MB=J)(d:∀R H,bS P call N c.aa b7 b2 fV R H=k R H)(aE:∀R H,bS P call N c.aj k b2 fV R H=T R H):
  ∀R H,bS P call N c b7 b2 fV R H=T R H:=by
 cases c<;>first|cases aA|skip
 rename_i a b;intro R H;rw[<-aE];show bS P call N a (λR H=>bS P call N b b7 b2 fV R H) b2 fV R H=_;rw[show(λR H=>bS P call N b b7 b2 fV R H)=k from funext λR=>funext λH=>d R H];rfl
def ajG{c:Code}{zA B:bQ}(aA:c.Mv=J)(a:∀R H,bS P call N c.aj b7 b2 fV R H=zA R H)(b:∀R H,bS P call N c.aa b7 b2 fV R H=B R H):
  ∀R H,bS P call N c b7 b2 fV R H=ep (bm R c.test) (zA R H) (B R H):=by
 cases c<;>first|cases aA|skip
 intro R H;rw[<-a,<-b];rfl
def ajF{c:Code}{T:bQ}(aA:c.Mu=J)(a:∀R H,bS P call N c.aj b7 ((c.num,b7)::b2) fV R H=T R H):∀R H,bS P call N c b7 b2 fV R H=T R H:=by
 cases c<;>first|cases aA|skip
 intro R H;rw[<-a];rfl
theorem ajI{c:Code}{k:Nat->bQ}(aA:c.My=J)(a:∀R H,k 0 R H=Z)(d:∀n R H,bS P call N c.aj (k n) b2 fV R H=k (n+1) R H):∀R H,bS P call N c b7 b2 fV R H=k N R H:=by
 cases c<;>first|cases aA|skip
 rename_i b;have key:∀n R H,qO (λaV R H=>bS P call N b aV b2 fV R H) n R H=k n R H:=by
  intro n
  induction n with
  |zero=>intro R H;exact(a R H).symm
  |succ n e=>
   intro R H;rw[<-d n R H];show bS P call N b (λR H=>qO _ n R H) b2 fV R H=_;rw[show(λR H=>qO (λaV R H=>bS P call N b aV b2 fV R H) n R H)=k n from al];rfl
 intro R H;exact key N R H
def ajH(c:Code):∀R H,bS P call N c b7 b2 fV R H=bS P call N c b7 b2 fV R H:=λ_ _=>rfl
def aU(r:Option af)(k:af->O):O:=match r with
 |some v=>k v
 |none=>Z
def ea(H:ae)(r:O)(k:af->ae->O):O:=match r with
 |some (v,H')=>bif decide (H.next<=H'.next)then k v H' else Z
 |none=>Z
def gp(H:ae)(r:Option ae)(k:ae->O):O:=ea H (r.bind λH'=>A (.tuple [],H')) λ_ H'=>k H'
def fe(H:ae)(r:Option (af×bz))(k:af->ae->O):O:=match r with
 |some (v,b)=>k v (H.push b)
 |none=>Z
def e5(H:ae)(cs:List af)(k:af->ae->O):O:=k (.ptr H.next 0 0) (H.push (.row I cs.length [cs]))
def bL(fn:Func):Code:=match fn.body with
 |some c=>c
 |none=> .skip
def eM(P:Program)(b:Builtin)(ts:List TypeId)(ak:List af)(H:ae)(k:af->O):O:=match bE P .empty b ts ak with
 |some v=>k v
 |none=>(bE P H b ts ak).bind k
def IY(P:Program)(s d:TypeId)(v:af)(H:ae)(k:af->O):O:=match r_ P s d v with
 |some v=>k v
 |none=>(ui P H s d v).bind k
def qe(call:aq)(H:ae)(f:af)(ak:List af)(k:af->ae->O):O:=(oY f ak).bind λp=>ea H (call p.1 p.2 H) k
def qv(v:af)(q:K->O):O:=q (.pure v)
def ck(r:Option af)(q:K->O):O:=r.bind λv=>q (.pure v)
def qr(r:Option af)(q:K->O):O:=r.bind λv=>q (.read v)
def bW(b:af)(want:Bool)(H:ae)(m:(K->O)->O)(k:af->ae->O):O:=ca b want m λx=>k x.val (x.heap H)
end
end Go.cw
namespace Go.cw
def W(m:O)(Q:af->ae->Prop):Prop:=∃v H,m=A (v,H)/\Q v H
theorem aD{v:af}{H:ae}{Q:af->ae->Prop}:W (A (v,H)) Q↔Q v H:=by
 constructor
 ·rintro⟨a,H',h,q⟩;grind
 ·exactλq=>⟨v,H,rfl,q⟩
def W.mono{m:O}{Q a:af->ae->Prop}(h:W m Q)(aJ:∀v H,Q v H->a v H):W m a:=by
 obtain⟨v,H,e,q⟩:=h;exact⟨v,H,e,aJ v H q⟩
theorem cK{r:O}{H:ae}{k:af->ae->O}{Q a:af->ae->Prop}(h:W r a)(b:∀v H',a v H'->H.next<=H'.next/\W (k v H') Q):W (ea H r k) Q:=by
 obtain⟨v,H',e,q⟩:=h;grind[ea]
theorem yB{r:O}{H:ae}{q:K->O}{Q a:af->ae->Prop}(h:W r a)(b:∀v H',a v H'->H.next<=H'.next/\W (q (.cR v H')) Q):W (eb H r q) Q:=by
 obtain⟨v,H',e,c⟩:=h;grind[eb]
def dK{r:O}{H:ae}{x:af}{k:af->ae->O}{Q:af->ae->Prop}(h:W r λv H'=>v=x/\H'=H)(a:W (k x H) Q):W (ea H r k) Q:=by
 grind[cK]
def ht{r:O}{H:ae}{x:af}{q:K->O}{Q:af->ae->Prop}(h:W r λv H'=>v=x/\H'=H)(a:W (q (.cR x H)) Q):W (eb H r q) Q:=by
 grind[yB]
def r6{m gz:O}{Q:af->ae->Prop}(ar:∀r,m=A r->gz=A r)(h:W m Q):W gz Q:=by
 obtain⟨v,H,e,q⟩:=h;exact⟨v,H,ar _ e,q⟩
def zA:Nat:=0
def akh:Nat:=0
def Tf:zA=akh:=rfl
def tV(v:af)(H:ae)(k:af->ae->O):O:=k v H
section
variable {r df:Option af}{o gT:O}{m gz:Option (af×bz)}{h cu:Option ae}{H H':ae}{a b1:af}{b b':Bool}{z:Nat}
 @[congr] theorem akz {k:af->ae->O} (e:a=b1) (d:H=H') (y:zA=z):tV a H k=tV b1 H' k:=al
theorem iL(H:ae)(cs:List af)(k:af->ae->O):e5 H cs k=tV (.ptr H.next 0 0) (H.push (.row I cs.length [cs])) k:=rfl
theorem iN(v:af)(H:ae)(k:af->ae->O):tV v H k=k v H:=rfl
 @[congr] theorem aks {k:af->O} (e:r=df) (y:zA=z):aU r k=aU df k:=by rw[e]
 @[congr] theorem aku {k:af->ae->O} (d:H=H') (e:o=gT) (y:zA=z):ea H o k=ea H' gT k:=al
 @[congr] theorem akv {k:K->O} (d:H=H') (e:o=gT) (y:zA=z):eb H o k=eb H' gT k:=al
 @[congr] theorem akE {k:ae->O} (d:H=H') (e:h=cu) (y:zA=z):gp H h k=gp H' cu k:=al
 @[congr] theorem akA {k:af->ae->O} (d:H=H') (e:m=gz) (y:zA=z):fe H m k=fe H' gz k:=al
 @[congr] theorem akC {k:K->O} (e:m=gz) (y:zA=z):jA m k=jA gz k:=by rw[e]
 @[congr] theorem aky {p q:O} (e:r=df) (y:zA=z):ep r p q=ep df p q:=by rw[e]
 @[congr] theorem akl {p q:O} (e:b=b') (y:zA=z):cond b p q=cond b' p q:=by rw[e]
 @[congr] theorem akw {w:Bool} {f:(K->O)->O} {k:af->ae->O} (e:a=b1) (y:zA=z):bW a w H f k=bW b1 w H f k:=by rw[e]
 @[congr] theorem akx {w:Bool} {f:(K->O)->O} {k:K->O} (e:a=b1) (y:zA=z):ca a w f k=ca b1 w f k:=by rw[e]
 @[congr] theorem akt {s a:Option af} {k:K->O} (e:r=df) (d:s=a) (y:zA=z):iM r s k=iM df a k:=al
 @[congr] theorem ako {q:K->O} (e:r=df) (y:zA=z):ck r q=ck df q:=by rw[e]
 @[congr] theorem akp {q:K->O} (e:r=df) (y:zA=z):qr r q=qr df q:=by rw[e]
 @[congr] theorem akq {q:K->O} (e:a=b1) (y:zA=z):qv a q=qv b1 q:=by rw[e]
def acJ(v:af)(q:K->O):ck (A v) q=q (.pure v):=rfl
def acM(v:af)(q:K->O):qr (A v) q=q (.read v):=rfl
def acN(v:af)(q:K->O):qv v q=q (.pure v):=rfl
end
def fp(k:IntKind)(n:Int):bF (A (.int k n)) (.int k n)=true:=by simp[bF,af.beq]
def acU(x:List UInt8):bF (A (.str x)) (.str x)=true:=by simp[bF,af.beq]
def ve(x:Bool):bF (A (.bool x)) (.bool x)=true:=by simp[bF,af.beq]
def acT(l i n e:Nat)(c:Option Nat):bF (A (.az l i n e c)) (.az l i n e c)=true:=by simp[bF,af.beq]
def acS:bF (A .ao) .ao=true:=rfl
def ae.jS(H:ae)(b:bz)(l:Nat):(H.push b).get l=if l=H.next then A b else H.get l:=by
 grind[ae.a2,ae.eW]
theorem bK.Ab{α:Type}(x y:α):∀(p:List m3) (t:bK α),bK.fc y p (bK.fc x p t)=bK.fc y p t
 |[],.leaf=>rfl
 |[],.node .. =>rfl
 |d::p,.leaf=>by cases d<;>simp[bK.fc,bK.Ab x y p]
 |d::p,.node .. =>by cases d<;>simp[bK.fc,bK.Ab x y p]
theorem ae.lb(H:ae)(b c:bz):(H.push b).set H.next c=H.push c:=by
 grind[ae.push,ae.set,bK.put,bK.Ab]
def ae.set_set(H:ae)(l:Nat)(b c:bz):(H.set l b).set l c=H.set l c:=by
 grind[ae.set,bK.put,bK.Ab]
def ae.Y2{H:ae}{b:bz}{l:Nat}(h:l<=H.next)(cu:H.next<=l):(H.push b).get l=A b:=by
 grind[ae.a2]
def ae.gU{H:ae}{b c:bz}{l:Nat}(h:l<=H.next)(cu:H.next<=l):(H.push b).set l c=H.push c:=by
 grind[ae.lb]
def fK(S:Nat->Prop)(H H':ae):Prop:=H.next<=H'.next/\∀l,l<H.next->¬S l->H'.get l=H.get l
def au(H H':ae):Prop:=H.next<=H'.next/\∀l,l<H.next->H'.get l=H.get l
theorem au.refl(H:ae):au H H:=⟨ad,λ_ _=>rfl⟩
theorem au.trans{H H1 a:ae}(h:au H H1)(k:au H1 a):au H a:=⟨Nat.le_trans h.1 k.1,λl aw=>(k.2 l (Nat.lt_of_lt_of_le aw h.1)).trans (h.2 l aw)⟩
theorem au.push(H:ae)(b:bz):au H (H.push b):=⟨aX,(by grind[ae.eW])⟩
def au.eI{H H1:ae}(h:au H H1)(b:bz):au H (H1.push b):=h.trans (au.push H1 b)
def au.oF{H H1:ae}(h:au H H1){l:Nat}(aw:H.next<=l)(b:bz):au H (H1.set l b):=
 ⟨h.1,λj a=>by rw[ae.b8 ad];exact h.2 j a⟩
theorem au.get{H H':ae}(h:au H H'){l:Nat}{b:bz}(a:H.get l=A b):H'.get l=A b:=by rw[h.2 l (ae.bq a)];omega
def au.mut{H H':ae}(h:au H H')(S:Nat->Prop):fK S H H':=⟨h.1,λl aw _=>h.2 l aw⟩
theorem fK.refl(S:Nat->Prop)(H:ae):fK S H H:=(au.refl H).mut S
theorem fK.trans{S:Nat->Prop}{H H1 a:ae}(h:fK S H H1)(k:fK S H1 a):fK S H a:=⟨Nat.le_trans h.1 k.1,λl aw b=>(k.2 l (Nat.lt_of_lt_of_le aw h.1) b).trans (h.2 l aw b)⟩
def fK.oF{S:Nat->Prop}{H H1:ae}(h:fK S H H1){l:Nat}(aw:S l\/H.next<=l)(b:bz):fK S H (H1.set l b):=
 ⟨h.1,λj a c=>by rw[ae.b8 al];exact h.2 j a c⟩
theorem fK.get{S:Nat->Prop}{H H':ae}(h:fK S H H'){l:Nat}{b:bz}(a:H.get l=A b)(c:¬S l):H'.get l=A b:=by rw[h.2 l (ae.bq a) c];omega
section
variable {P:Program}{H:ae}
def lZ(v:af)(k:af->O):aU (A v) k=k v:=rfl
def Ta(b:Bool)(x y:O):ep (A (.bool b)) x y=bif b then x else y:=rfl
theorem Dt{v:af}{H':ae}{k:af->ae->O}(h:H.next<=H'.next):ea H (A (v,H')) k=k v H':=by
 grind[ea]
theorem m1{H':ae}{k:ae->O}(h:H.next<=H'.next):gp H (A H') k=k H':=by
 grind[gp,Dt]
def kM(v:af)(b:bz)(k:af->ae->O):fe H (A (v,b)) k=k v (H.push b):=rfl
def akb(m:(K->O)->O)(k:af->ae->O):bW (.bool J) J H m k=m (λx=>tV x.val (x.heap H) k):=rfl
def aj8(m:(K->O)->O)(k:af->ae->O):bW (.bool I) I H m k=m (λx=>tV x.val (x.heap H) k):=rfl
def aka(m:(K->O)->O)(k:af->ae->O):bW (.bool J) I H m k=k (.tuple []) H:=rfl
def aj9(m:(K->O)->O)(k:af->ae->O):bW (.bool I) J H m k=k (.tuple []) H:=rfl
def aj_(w:Bool)(m:(K->O)->O)(k:af->ae->O):bW (.tuple []) w H m k=k (.tuple []) H:=rfl
def aj6(v:af)(b:Option af)(k:K->O):iM (A v) b k=k (.pure v):=rfl
def acz(a b:Option af):dt (.bool J) a b=a:=rfl
def acy(a b:Option af):dt (.bool I) a b=b:=rfl
def Ur(b:Bool):jL .not (.bool b)=A (.bool (!b)):=rfl
def T5(l i c:Nat):eB (.ptr l i c)=A (.ptr l i c):=rfl
def Jc(v:af):(K.pure v).val=v:=rfl
def Jd(v:af):(K.read v).val=v:=rfl
def Jb(v:af)(b:bz):(K.new v b).val=v:=rfl
def Ja(v:af)(H':ae):(K.cR v H').val=v:=rfl
def Ti:K.skip.val= .tuple []:=rfl
def I9(v:af):(K.pure v).heap H=H:=rfl
def I_(v:af):(K.read v).heap H=H:=rfl
def I8(v:af)(b:bz):(K.new v b).heap H=H.push b:=rfl
def I7(v:af)(H':ae):(K.cR v H').heap H=H':=rfl
def Th:K.skip.heap H=H:=rfl
def yF(ak:List af)(i:Nat):iS (.tuple ak) i=ak[i]? :=rfl
def X2(t:TypeId)(c:Bool)(k:IntKind)(a b:Int):bx P .add t c (.int k a) (.int k b)=A (.int k (k.wrap (a+b))):=by simp[bx,lL]
def Ya(t:TypeId)(c:Bool)(k:IntKind)(a b:Int):bx P .sub t c (.int k a) (.int k b)=A (.int k (k.wrap (a-b))):=by simp[bx,lL]
def Lq(t:TypeId)(c:Bool)(k:IntKind)(a b:Int):bx P .eql t c (.int k a) (.int k b)=A (.bool (a==b)):=by simp[bx,lL]
def X8(t:TypeId)(c:Bool)(k:IntKind)(a b:Int):bx P .neq t c (.int k a) (.int k b)=A (.bool (a != b)):=by simp[bx,lL]
def X7(t:TypeId)(c:Bool)(k:IntKind)(a b:Int):bx P .lss t c (.int k a) (.int k b)=A (.bool (decide (a<b))):=by simp[bx,lL]
def X6(t:TypeId)(c:Bool)(k:IntKind)(a b:Int):bx P .leq t c (.int k a) (.int k b)=A (.bool (decide (a<=b))):=by simp[bx,lL]
def X5(t:TypeId)(c:Bool)(k:IntKind)(a b:Int):bx P .gtr t c (.int k a) (.int k b)=A (.bool (decide (b<a))):=by simp[bx,lL]
def X4(t:TypeId)(c:Bool)(k:IntKind)(a b:Int):bx P .geq t c (.int k a) (.int k b)=A (.bool (decide (b<=a))):=by simp[bx,lL]
def X9(t:TypeId)(c:Bool)(a b:List UInt8):bx P .eql t c (.str a) (.str b)=A (.bool (a==b)):=rfl
def X_(t:TypeId)(c:Bool)(a b:List UInt8):bx P .neq t c (.str a) (.str b)=A (.bool (!(a==b))):=rfl
theorem e0{t:TypeId}(ba:eo P t=A I){l i c esz:Nat}{ro:Bool}{els:List (List af)}{e:List af}(h:H.get l=A (.row ro esz els))(he:els[i]? =A e):aI P H t (.ptr l i c)=e[c]? :=by
 grind[aI]
theorem hz{t:TypeId}{n:Nat}(ba:eo P t=A J)(aL:cE P t=A n){l i c esz:Nat}{ro:Bool}{els:List (List af)}{e:List af}(h:H.get l=A (.row ro esz els))(he:els[i]? =A e)(aA:c+n<=esz):aI P H t (.ptr l i c)=A (.agg ((e.drop c).take n)):=by
 grind[aI]
theorem e4{t:TypeId}{n:Nat}(aL:cE P t=A n){l i c esz:Nat}{els:List (List af)}{e:List af}{v:af}(h:H.get l=A (.row I esz els))(he:els[i]? =A e)(a:v.cells.length=n)(aZ:v.cells.all af.one=J)(aA:c+n<=esz):
  cr P H t (.ptr l i c) v=A (H.set l (.row I esz (els.set i (fU e c v.cells)))):=by
 grind[cr]
def OI(k:IntKind)(n:Int):(af.int k n).one=true:=rfl
def OO(x:List UInt8):(af.str x).one=true:=rfl
def OG(x:Bool):(af.bool x).one=true:=rfl
def OM(l i c:Nat):(af.ptr l i c).one=true:=rfl
def ON(l i n e:Nat)(c:Option Nat):(af.az l i n e c).one=true:=rfl
def OL:af.ao.one=true:=rfl
def OK:af.ho.one=true:=rfl
def OJ(l:Nat):(af.map l).one=true:=rfl
def OH(f:Fn)(a c:List af):(af.func f a c).one=true:=rfl
theorem dq{v:af}(h:v.one=J):v.cells=[v]:=by cases v<;>first|rfl|cases h
theorem mg(l:Nat)(cs:List af)(h:cs.all af.one=J):fj l (.agg cs)=A (.ptr l 0 0,.row I cs.length [cs]):=by
 grind[fj,af.cells]
end
end Go.cw
namespace Go.Proofs.YtmhhnnklfcbgfaaGreat
open Go.cw
noncomputable def P:Program:=Tryz.prog
noncomputable abbrev a8(f:Func):bQ:=lf P f.results.toList
noncomputable abbrev ev(f:Func)(G:aq)(N:Nat):bQ:=bS P G N (bL f) (a8 f) [] (a8 f)
def rS(H:ae)(r:Option ae)(k:af->ae->O):O:=ea H (r.bind λH'=>A (.tuple [],H')) k
def ake{H H':ae}{k:af->ae->O}(h:H.next<=H'.next):rS H (A H') k=k (.tuple []) H':=by
 simp only[rS,Option.bind_some];exact Dt h
 @[congr] theorem akD {H a:ae} {h cu:Option ae} {z:Nat} {k:af->ae->O} (d:H=a) (e:h=cu) (b:zA=z):rS H h k=rS a cu k:=by rw[d,e]
def oL(H:ae)(r:Option (af×bz))(k:af->bz->ae->O):O:=match r with
 |some (v,b)=>k v b (H.push b)
 |none=>Z
def tW{H:ae}(v:af)(b:bz)(k:af->bz->ae->O):oL H (A (v,b)) k=k v b (H.push b):=rfl
 @[congr] theorem akB {H a:ae} {m gz:Option (af×bz)} {z:Nat} {k:af->bz->ae->O} (d:H=a) (e:m=gz) (b:zA=z):oL H m k=oL a gz k:=by rw[d,e]
noncomputable def j6(call:aq)(H:ae)(r:af)(name:String)(ak:List af)(k:af->ae->O):O:=(jr P H r name ak).bind λp=>ea H (call p.1 p.2 H) k
def E0:Env:=λ_=>Z
def qL:List (List af)->Option (List Int)
 |[]=>A []
 |[.int .i64 n]::es=>(qL es).map (n:: ·)
 |_=>Z
def n0(n:Int):List af:=[.int .i64 n]
def Ec(o:Option bz):Option af:=match o with
 |some (.row _ e els)=>if e=1 then(match els with
  |[[v]]=>A v
  |_=>Z)else Z
 |_=>Z
def Km{o:Option bz}{v:af}(h:Ec o=A v):∃ro,o=A (.row ro 1 [[v]]):=by
 unfold Ec at h;split at h
 ·split at h
  ·rename_i he;subst he;split at h
   ·cases h;exact⟨_,rfl⟩
   ·cases h
  ·cases h
 ·cases h
def F_(o:Option bz):Option (List (List af)):=match o with
 |some (.row ro e els)=>if ro=I/\e=1 then A els else Z
 |_=>Z
def ado{o:Option bz}{els:List (List af)}(h:F_ o=A els):o=A (.row I 1 els):=by
 unfold F_ at h;split at h
 ·split at h
  ·rename_i he;obtain⟨rfl,rfl⟩:=he;cases h;rfl
  ·cases h
 ·cases h
def aG:aq:=λf args H=>match f,args with
 |95,[.func (.func 97) [] [.ptr l 0 0]]=>(match Ec (H.get l)with
  |some .ao=>A (.ao,H)
  |some (.az m i n 1 _)=>(match iR H m i n 1 with
   |some es=>(match qL es with
    |some xs=>if n<=1000000 then(match xs with
     |[]=>A (.ao,H)
     |_=>A (.az H.next 0 n 1 Z,H.push (.row I 1 (xs.map n0))))else Z
    |none=>Z)
   |none=>Z)
  |_=>Z)
 |96,[.ao]=>A (.tuple [],H)
 |96,[.az l 0 n 1 _]=>(match F_ (H.get l)with
  |some es=>(match qL es with
   |some xs=>if es.length=n/\n<=1000000 then A (.tuple [],H.set l (.row I 1 ((xs.mergeSort λx y=>decide (x<=y)).map n0)))else Z
   |none=>Z)
  |_=>Z)
 |_,_=>Z
def q2{f:Nat}{fn:Func}{N:Nat}{args:List af}{H:ae}{r:af×ae}(a:aG f args H=Z)(aC:P.funcs[f]? =A fn)(b:fn.body=A (bL fn))(c:gY fn.ntmps (bL fn)=J)(aL:Nat.ble args.length fn.ntmps=J)(h:ev fn (aK P aG) N (cY args) H=A r):aK P aG f args H=A r:=Ws a aC b c aL h
def akr{f:Nat}{fn:Func}(N:Nat){args:List af}{H:ae}{r:af×ae}{S:aq->O}(aC:P.funcs[f]? =A fn)(he:∀G,ev fn G N (cY args) H=S G)(h:S (aK P aG)=A r)(a:aG f args H=none:=by first|kernel_rfl)(b:fn.body=A (bL fn):=by first|kernel_rfl)(c:gY fn.ntmps (bL fn)=true:=by first|kernel_rfl)(aL:Nat.ble args.length fn.ntmps=true:=by first|kernel_rfl):aK P aG f args H=A r:=q2 a aC b c aL ((he _).trans h)
end Go.Proofs.YtmhhnnklfcbgfaaGreat
namespace Go.cw
def dU(m:(K->O)->O)(k:K->O):ca (.bool J) J m k=m k:=rfl
def dQ(m:(K->O)->O)(k:K->O):ca (.bool I) I m k=m k:=rfl
def dT(m:(K->O)->O)(k:K->O):ca (.bool J) I m k=k .skip:=rfl
def dR(m:(K->O)->O)(k:K->O):ca (.bool I) J m k=k .skip:=rfl
def dS(w:Bool)(m:(K->O)->O)(k:K->O):ca (.tuple []) w m k=k .skip:=rfl
def lx{c:Bool}{a b:O}{Q:af->ae->Prop}(aA:c=J)(h:W a Q):W (bif c then a else b) Q:=al
def hW:List fr->ae->List ae
 |[],H=>[H]
 |t::ts,H=>H::hW ts (t.k.heap H)
theorem S0{ms:List Nat}{rd:ae->Bool}{i:Nat}:∀(T:List fr) (H:ae),(∀H'∈hW T H,rd H'=J)->iq ms rd i T H=J
 |[],H,h=>h H (by simp[hW])
 |t::ts,H,h=>by
  have c:=h H (by simp[hW]);have d:=S0 (ms:=ms) (rd:=rd) (i:=i) ts (t.k.heap H) (by grind[hW]);rw[iq];cases b:t.k.fF with
  |true=>grind
  |false=>
   have:t.k.heap H=H:=by cases a:t.k<;>simp[a,K.fF,K.heap]at b ⊢
   grind
theorem agr{ms:List Nat}{rd:ae->Bool}{i:Nat}{T:List fr}{H:ae}(h:∀H'∈hW T H,rd H'=J):rE ms rd i T H=true:=by
 grind[rE,S0]
def tU(cN:List Nat)(T:List fr)(H:ae):List fr->Prop
 |[]=>True
 |t::ts=>(∀v,t.k= .read v->cN.contains t.i=J\/∀H'∈hW T H,bF (t.rd H') v=J)/\tU cN T H ts
theorem S2{ms cN:List Nat}{T:List fr}{H:ae}:∀S:List fr,tU cN T H S->jb ms cN T H S=J
 |[],_=>rfl
 |t::ts,h=>by
  rw[tU]at h;rw[jb,S2 ts h.2,Bool.and_true];split
  ·grind[agr]
  ·rfl
def lH{ms cN:List Nat}{T:List fr}{H:ae}(ah:hv ms T []=J)(ai:tU cN T H T):jj ms cN T H=true:=by
 grind[jj,S2]
section
variable {E:Env}{P:Program}{aG:aq}
def U6{G:aq}(h:∀g args H v H',G g args H=A (v,H')->hr E P g args H v H'):e1 E P G:=λg args H v H' e=>h g args H v H' e
theorem Lf(b:kn P){G:aq}(h:e1 E P G){N f:Nat}{args:List af}{H H1:ae}{fn:Func}{c:Code}{ex:gX}{R:bf}{ak:List af}
  (a:P.funcs[f]? =A fn) (aA:fn.body=A c) (l:dc (hB P G) N c (bf.enter fn.ntmps args) H=A (ex,R,H1)) (s:∀id,ex≠ .exit id) (o:jh P R H1 fn.results.toList=A ak):hr E P f args H (lA ak) H1:=by
 intro ρ w xs i aC j aL next m
 have k:=Lg (N:=N) Py (Pz b.mixed h) c (b.O5 _ _ _ a aA);have r:(fn.name== "runtime.NumGoroutine")=false:=b.names fn (Array.mem_of_getElem? a);have n:(callFunc f xs.toArray).run P w= .ok (.enter f xs.toArray) w:=by
  unfold callFunc;simp[a,aA];grind
 unfold oS;rw[n];refine calls_of_wp a aA (k _ _ _ _ _ l ρ w _ _ i aC (Lb j fn.ntmps) λq b1 p ah ai=> ?_);obtain⟨x,d,g⟩:=PD ai.rel ah o;have e:=m x p q g ai;cases ex with
 |normal=>exact⟨ah.none,x,d,e⟩
 |ret=>exact⟨ah.none,x,d,e⟩
 |exit id=>grind
theorem qx(d:kn P){G:aq}(b:e1 E P G){f:Nat}{args:List af}{H:ae}{fn:Func}{c:Code}{M:Nat}{r:af×ae}(aC:P.funcs[f]? =A fn)(g:fn.body=A c)(i:gY fn.ntmps c=J)(aL:Nat.ble args.length fn.ntmps=J)
  (h:bS P G M c (lf P fn.results.toList) [] (lf P fn.results.toList) (cY args) H=A r):hr E P f args H r.1 r.2:=by
 have j:(bf.enter fn.ntmps args).size=fn.ntmps:=by have:=Nat.le_of_ble_eq_true aL;grind[bf.enter]
 rw[<-JH fn.ntmps,KH c _ _ _ _ _ al]at h;unfold sy at h;have fin:∀(R:bf) (H':ae),lf P fn.results.toList R.get H'=A r->∃ak,jh P R H' fn.results.toList=A ak/\r=(lA ak,H'):=by
  intro R H' a;unfold lf at a;rw[Ah]at a;cases e:jh P R H' fn.results.toList with
  |none=>grind
  |some ak=>grind
 split at h
 ·grind[Lf]
 ·cases h
 ·grind[Lf]
 grind
theorem Rel.EN{ρ:Env}{H:ae}{w a:World}(h:Rel ρ H w)(i:w.heap.size<=a.heap.size)(d:∀b,b<w.heap.size->a.heap[b]? =w.heap[b]?):Rel ρ H a:=by
 have key:∀b x,w.heap[b]? =A x->a.heap[b]? =A x:=λb x e=>by
  rw[d b ?_];exact e;grind
 refine⟨λl ro esz els e=> ?_,λl es e=> ?_,λl t esz els e=> ?_,h.apart,λl s esz els e=>(h.old l s esz els e).step ρ.le_refl i (λb g _=>d b g) λ_ h=> .inl h⟩
 ·obtain⟨loc,ah,ai,c,t,f,ax,aM⟩:=h.row l ro esz els e;exact⟨loc,ah,ai,c,t,f,key _ _ ax,aM⟩
 ·obtain⟨loc,ah,ents,clock,ax,aM⟩:=h.map l es e;exact⟨loc,ah,ents,clock,key _ _ ax,aM⟩
 ·obtain⟨loc,ah,ai⟩:=h.dZ l t esz els e;exact⟨loc,ah,ai.frame ρ.le_refl (d _ ai.1.lt)⟩
theorem ae.y9(l:Nat):ae.empty.get l=none:=by
 cases h:ae.empty.get l with
 |none=>rfl
 |some b=>exact absurd (ae.bq h) (Nat.not_lt_zero l)
theorem PA(w:World):Rel (λ_=>Z) ae.empty w:=by
 refine⟨λl ro esz els e=> ?_,λl es e=> ?_,λl t esz els e=> ?_,λl a loc b _ _ _ h=> ?_,λl s esz els e=> ?_⟩
 ·grind[ae.y9]
 ·grind[ae.y9]
 ·grind[ae.y9]
 ·cases h
 ·cases e
def ab5(b:Nat):¬eX (λ_=>Z) ae.empty b:=by
 rintro⟨l,loc,_,h,_⟩;cases h
def U5{g:Nat}{b:Bool}{H0:ae}(h:hr (λ_=>Z) P g [] ae.empty (.bool b) H0)(H:ae):hr E P g [] H (.bool b) H:=by
 intro ρ w xs f aC i aL next j
 cases i;refine h (λ_=>Z) w [] (PA w) ⟨λ_ _ _=>rfl,Env.le_refl _⟩ .nil (Nat.zero_le _) next λx e k aE a=> ?_
 cases aE;have d:∀b,b<w.heap.size->e.heap[b]? =w.heap[b]? :=λb c=>a.frame b c (ab5 b)
 exact j _ e ρ (.bool b) ⟨ρ.le_refl,ad,λ_ _=>rfl,f.EN a.size d,a.os,a.tape,a.output,a.size,λb c _=>d b c,λ_ h=> .inl h,λ_ _ _ h=>h,.same λ_ _ _ _ h=>h⟩
noncomputable def o6(P:Program)(aG:aq)(g:Nat)(b:Bool):aq:=λf args H=>if f=g/\args=[]then A (.bool b,H)else aK P aG f args H
theorem Wq(c:kn P)(a:e1 E P aG){g:Nat}{b:Bool}(h:∀H,hr E P g [] H (.bool b) H):e1 E P (o6 P aG g b):=by
 refine U6 λf args H v H' e=> ?_
 unfold o6 at e;split at e
 ·grind
 ·exactλρ w xs=>Wt c a f args H v H' e ρ w xs
theorem Wr{g:Nat}{b:Bool}(H:ae):o6 P aG g b g [] H=A (.bool b,H):=by simp[o6]
def qF{f g:Nat}{b:Bool}{args:List af}{H:ae}(h:f≠g):o6 P aG g b f args H=aK P aG f args H:=by simp[o6,h]
end
end Go.cw
namespace Go.Proofs.YtmhhnnklfcbgfaaGreat
open Go.cw
section
def abN(fs:List Func):Bool:=fs.all λfn=> !(fn.name== "runtime.NumGoroutine")
def UU(fs:List Func):Bool:=fs.all λfn=>match fn.body with
 |some c=>mK c
 |none=>J
def acH{P:Program}(ah:P.follows .mixedOrders=J)(ai:abN P.funcs.toList=J)(ax:UU P.funcs.toList=J):kn P:=by
 refine⟨ah,λfn a=> ?_,λf fn c aC aA=> ?_⟩
 ·have:=List.all_eq_true.1 ai fn (Array.mem_toList_iff.2 a);simpa using this
 ·have:=List.all_eq_true.1 ax fn (Array.mem_toList_iff.2 (Array.mem_of_getElem? aC));simpa [aA]using this
set_option maxRecDepth 1000000
def la:kn P:=acH aF aF aF
end
end Go.Proofs.YtmhhnnklfcbgfaaGreat
namespace Go.cw
open Go.ChangeShapes Go.WideShapes Go.ChangeAt Go.RowKit
def DA(E:Env)(P:Program)(f:Nat)(args:List Value)(W:World):Prop:=∃(ρ:Env) (H:ae) (a:List af) (H':ae),Rel ρ H W/\(∀l,¬H.rw l)/\(∀l,H.next<=l->ρ l=Z)/\E.le ρ/\H.next<=H'.next/\bU ρ a args/\hr E P f a H (.bool J) H'
def aaw{E:Env}{P:Program}{f:Nat}{fn:Func}{c:Code}{args:List Value}{W:World}(n:kn P)(g:P.funcs[f]? =A fn)(aA:fn.body=A c)(h:DA E P f args W):
  Calls P f args.toArray W λe d=>e= .returned (.bool J)/\Below W.heap.size W d:=by
 obtain⟨ρ,H,q,H',ah,ai,ax,m,aM,i,j⟩:=h;have p:∀b,¬eX ρ H b:=by rintro b ⟨l,loc,aw,_⟩;grind
 have t:=j ρ W args ah ⟨λl aw _=>ax l aw,m⟩ i aM (λx d=>x= .bool J/\Below W.heap.size W d) (λx d u aE a=>by
  cases aE;exact⟨rfl,a.os,a.tape,a.output,a.size,λk o=>a.frame k o (p k)⟩)
 have r:(fn.name== "runtime.NumGoroutine")=false:=n.names fn (Array.mem_of_getElem? g);have s:(callFunc f args.toArray).run P W= .ok (.enter f args.toArray) W:=by
  unfold callFunc;simp[g,aA];grind
 grind[oS]
def SA{H:Type}{enc:TypeId×Value->H}{P:Program}{W c:World}(aw:laidOutB P=J)(e:Below W.heap.size W c):∀{ts:List TypeId} {ak:List Value} {a:List (DataW H)} {dk:List MemPlace},(∀t∈ts,P.readableRec t=J/\t<P.types.size)->
  DataW.TrodAll enc P W 0 (λ_=>J) J ts ak a dk->∃f,DataW.TrodAll enc P c 0 (λb=>decide (b<W.heap.size)) J ts ak a f
 |[],ak,a,dk,_,h=>by
  obtain⟨rfl,rfl,rfl⟩:=trodAll_nil h;exact⟨[],trodAll_mk0⟩
 |t::ts,ak,a,dk,ba,h=>by
  obtain⟨v,j,d,i,p,q,rfl,rfl,rfl,ah,ai⟩:=trodAll_cons h;obtain⟨f,ax⟩:=SA aw e al ai;have g:∀x∈p,x.block<W.heap.size:=by obtain⟨m,hm⟩:=ah;exact DataW.trod_lt m _ _ _ hm
  exact⟨_,trodAll_cons_mk (Below.trod aw (ba t (List.mem_cons_self ..)).1 (ba t (List.mem_cons_self ..)).2 ah e g) ax⟩
theorem yE{a:Addr}(h:a.spot=Z)(j:Nat):a.add j=⟨a.block,a.off+j,Z⟩:=by
 obtain⟨b,o,s⟩:=a;grind[na]
structure Seen(ρ:Env)(H:ae)(W:World):Prop where
 rel:Rel ρ H W
 ro:∀l,¬H.rw l
 top:∀l,H.next<=l->ρ l=none
def Seen.empty(W:World):Seen (λ_=>Z) ae.empty W:=
 have a:∀l,¬ae.empty.rw l:=λl aw=>by
  rcases aw with⟨e,s,h⟩|⟨es,h⟩|⟨t,e,s,h⟩<;>rw[ae.y9]at h<;>cases h
 ⟨PA W,a,λ_ _=>rfl⟩
def Seen.od{ρ:Env}{H:ae}{W:World}(h:Seen ρ H W)(loc:Go.cw.Loc):ρ.le (ρ.dG H.next loc):=λl a e=>by
 have:l≠H.next:=by rintro rfl;rw[h.top _ ad]at e;cases e
 grind[Env.dG]
def gJ.mono{ρ a:Env}(hle:ρ.le a){w:World}{loc:Go.cw.Loc}{ro:Bool}{esz:Nat}{els:List (List af)}(h:gJ ρ w loc ro esz els):gJ a w loc ro esz els:=by
 obtain⟨ah,c,t,b,ai,ax,aM⟩:=h;refine⟨ah,c,t,b,ai,ax,λi e he=>⟨(aM i e he).1,λj v d=> ?_⟩⟩;obtain⟨f,x,g,k⟩:=(aM i e he).2 j v d;exact⟨f,x,g,k.mono hle⟩
theorem Seen.push{ρ:Env}{H:ae}{W:World}(h:Seen ρ H W){loc:Go.cw.Loc}{esz:Nat}{els:List (List af)}(ar:gJ ρ W loc J esz els):Seen (ρ.dG H.next loc) (H.push (.row J esz els)) W:=by
 have hle:=h.od loc;have a:∀l,¬(H.push (.row J esz els)).rw l:=by
  rintro l (⟨e,s,aS⟩|⟨es,aS⟩|⟨t,e,s,aS⟩)
  ·rw[ae.jS]at aS;split at aS
   ·grind
   ·exact h.ro l (.inl ⟨e,s,aS⟩)
  ·rw[ae.jS]at aS;split at aS
   ·grind
   ·exact h.ro l (.inr (.inl ⟨es,aS⟩))
  ·rw[ae.jS]at aS;split at aS
   ·grind
   ·exact h.ro l (.inr (.inr ⟨t,e,s,aS⟩))
 refine⟨⟨λl ro e s aS=> ?_,λl es aS=> ?_,λl t e s aS=>absurd (.inr (.inr ⟨t,e,s,aS⟩)) (a l),al,λl s esz els aS=>(h.rel.old _ _ _ _ (ae.qZ rfl l s esz els aS)).step hle ad (λ_ _ _=>rfl) λb ⟨l,_,aw,_⟩=>absurd aw (a l)⟩,a,λl aw=> ?_⟩
 ·rw[ae.jS]at aS;split at aS
  ·rename_i aw;cases aS;exact⟨loc,by simp[Env.dG,aw],ar.mono hle⟩
  ·obtain⟨c,ah,ai⟩:=h.rel.row l ro e s aS;exact⟨c,hle _ _ ah,ai.mono hle⟩
 ·exact absurd (.inr (.inl ⟨es,aS⟩)) (a l)
 ·simp only[ae.fR]at aw;have:l≠H.next:=ad
  simp only[Env.dG,if_neg this];exact h.top l ad
def Seen.blank{ρ:Env}{H:ae}{W:World}(h:Seen ρ H W)(loc:Go.cw.Loc):Seen (ρ.dG H.next loc) (H.push .dead) W:=by
 have hle:=h.od loc;have a:∀l,¬(H.push .dead).rw l:=by
  rintro l (⟨e,s,aS⟩|⟨es,aS⟩|⟨t,e,s,aS⟩)
  ·rw[ae.jS]at aS;split at aS
   ·grind
   ·exact h.ro l (.inl ⟨e,s,aS⟩)
  ·rw[ae.jS]at aS;split at aS
   ·grind
   ·exact h.ro l (.inr (.inl ⟨es,aS⟩))
  ·rw[ae.jS]at aS;split at aS
   ·grind
   ·exact h.ro l (.inr (.inr ⟨t,e,s,aS⟩))
 refine⟨⟨λl ro e s aS=> ?_,λl es aS=> ?_,λl t e s aS=>absurd (.inr (.inr ⟨t,e,s,aS⟩)) (a l),al,λl s esz els aS=>(h.rel.old _ _ _ _ (ae.qZ rfl l s esz els aS)).step hle ad (λ_ _ _=>rfl) λb ⟨l,_,aw,_⟩=>absurd aw (a l)⟩,a,λl aw=> ?_⟩
 ·rw[ae.jS]at aS;split at aS
  ·grind
  ·obtain⟨c,ah,ai⟩:=h.rel.row l ro e s aS;exact⟨c,hle _ _ ah,ai.mono hle⟩
 ·exact absurd (.inr (.inl ⟨es,aS⟩)) (a l)
 ·simp only[ae.fR]at aw;have:l≠H.next:=ad
  simp only[Env.dG,if_neg this];exact h.top l ad
def gj(P:Program)(t i:Nat):Option (Nat×Nat):=match P.underlying t with
 |some (.struct fs)=>(fs[i]?).map λf=>(f.type,f.offset)
 |_=>Z
theorem hF{H:Type}{enc:TypeId×Value->H}{P:Program}{w:World}{base:Nat}{sp:Nat->Bool}{held:Bool}{n t:Nat}{cs:List Value}{x:DataW H×List MemPlace}{i ty off:Nat}
  (aC:gj P t i=A (ty,off)) (h:DataW.trod enc P w base sp held n t cs=A x):∃m y,DataW.trod enc P w base sp held m ty ((cs.drop off).take (P.cellsOf ty))=A y:=by
 unfold gj at aC;split at aC
 ·rename_i fs ba;obtain⟨f,ah,ai⟩:=Option.map_eq_some_iff.1 aC;obtain⟨rfl,rfl⟩:=ai;obtain⟨xs,m,_,_,_,aw,aE⟩:=DataW.trod_struct ba h;grind
 grind
def rP{H:Type}{enc:TypeId×Value->H}{P:Program}{w:World}{base:Nat}{sp:Nat->Bool}{held:Bool}{n t:Nat}{cs:List Value}{x:DataW H×List MemPlace}{i ty off:Nat}
  (aC:gj P t i=A (ty,off)) (h:DataW.trod enc P w base sp held n t cs=A x):cs.length=P.cellsOf t:=by
 unfold gj at aC;split at aC
 ·rename_i fs ba;obtain⟨xs,m,_,_,aw,_⟩:=DataW.trod_struct ba h;omega
 grind
theorem oG{H:Type}{enc:TypeId×Value->H}{P:Program}{w:World}{base:Nat}{sp:Nat->Bool}{held:Bool}{n t:Nat}{v:Value}{x:DataW H×List MemPlace}{k:IntKind}
  (ba:P.underlying t=A (.int k)) (h:DataW.trod enc P w base sp held n t [v]=A x):∃z,v= .int k z:=by
 grind[DataW.trod_int]
def SB{H:Type}{enc:TypeId×Value->H}{P:Program}{w:World}{base:Nat}{sp:Nat->Bool}{held:Bool}{n t:Nat}{v:Value}{x:DataW H×List MemPlace}
  (ba:P.underlying t=A .string) (h:DataW.trod enc P w base sp held n t [v]=A x):∃s:List UInt8,v= .string ⟨s.toArray⟩:=by
 obtain⟨s,ah,_⟩:=DataW.trod_string ba h;simp only[List.cons.injEq,and_true]at ah;exact⟨s.data.toList,by rw[ah]⟩
def acn{H:Type}{enc:TypeId×Value->H}{P:Program}{w:World}{fuel t e:Nat}{cs:List Value}{x:DataW H×List MemPlace}(ba:P.underlying t=A (.slice e))(h:DataW.trod enc P w 0 (λ_=>J) J fuel t cs=A x):
  cs=[.slice Z 0 0]\/∃a len cap q,fuel=q+1/\cs=[.slice (A a) len cap]/\len<=cap/\∀i,i<cap->∃b,w.cells? 0 (a.add (i*P.cellsOf e)) (P.cellsOf e)=A b/\∃z,DataW.trod enc P w 0 (λ_=>J) J q e b=A z:=by
 rcases DataW.trod_slice ba h with⟨d,_⟩|⟨a,len,cap,elems,rest,n,aC,rfl,_,_,aw,_,hlen,f,c,_⟩
 ·grind
 ·refine .inr ⟨a,len,cap,n,aC,rfl,aw,λi aP=> ?_⟩;obtain⟨ar,k⟩:=c rfl;have key:∃z,(w.cells? 0 (a.add (i*P.cellsOf e)) (P.cellsOf e)).bind (DataW.trod enc P w 0 (λ_=>J) J n e)=A z:=by
   by_cases g:i<len
   ·grind
   ·have j:i-len<cap-len:=ad;grind
  grind[eV]
end Go.cw
namespace Go.Proofs.YtmhhnnklfcbgfaaGreat
open Go.cw
def um(place:Nat->Option (Nat×Nat))(cells:List af):List (Nat×List af)->Option (List af)
 |[]=>A cells
 |(i,v)::rest=>match place i with
  |none=>Z
  |some (off,size)=>if v.length=size/\off+v.length<=cells.length then um place (fU cells off v) rest else Z
def DG(P:Program)(t:TypeId)(parts:List (Nat×List af)):Option af:=
 match fX P t,P.underlying t with
 |some z,A (.struct fs)=>(match sb P fs.toList with|some pl=>(um (pl[·]?) z.cells parts).map .agg|none=>Z)
 |some z,A (.array _ e)=>(match cE P e with|some n=>(um (λi=>A (i*n,n)) z.cells parts).map .agg|none=>Z)
 |_,_=>Z
def Jp(place:Nat->Option (Nat×Nat)):∀(parts:List (Nat×af)) (cells:List af),oU place cells parts=um place cells (parts.map λp=>(p.1,p.2.cells))
 |[],_=>rfl
 |(i,v)::rest,cells=>by
  show(match place i with
   |none=>Z
   |some (off,size)=>if v.cells.length=size/\off+v.cells.length<=cells.length then oU place (fU cells off v.cells) rest else Z)=(match place i with
   |none=>Z
   |some (off,size)=>if v.cells.length=size/\off+v.cells.length<=cells.length then um place (fU cells off v.cells) (rest.map λp=>(p.1,p.2.cells))else Z)
  cases place i with
  |none=>rfl
  |some p=>simp only[Jp place rest]
def Tq(Q:Program)(t:TypeId)(parts:List (Nat×af)):ei Q t parts=DG Q t (parts.map λp=>(p.1,p.2.cells)):=by
 unfold ei DG;simp only[Jp];generalize fX Q t=z;generalize Q.underlying t=u;cases z with
 |none=>rfl
 |some z=>cases u with
  |none=>rfl
  |some d=>cases d<;>rfl
def h3(t:TypeId)(parts:List (Nat×af)):ei P t parts=DG P t (parts.map λp=>(p.1,p.2.cells)):=Tq P t parts
def rO:eo P 3=A false:=aF
def Dk:cE P 3=A 1:=aF
def Dh:eo P 4=A false:=aF
def SC:cE P 4=A 1:=aF
def Wk{c:Bool}(a b:Bool):bx P .eql 4 c (.bool a) (.bool b)=A (.bool (a==b)):=aF
def abO{c:Bool}(a b:Bool):bx P .neq 4 c (.bool a) (.bool b)=A (.bool (!(a==b))):=aF
def aiE:eo P 9=A false:=aF
def ajg:cE P 9=A 1:=aF
def abd{H:ae}{s:List UInt8}:bE P H .len [9] [.str s]=A (.int .i64 s.length):=aF
def aiq:eo P 22=A false:=aF
def aiW:cE P 22=A 1:=aF
def Zm(l i n:Nat)(cap:Option Nat)(k:Int):ct P 22 (.az l i n 2 cap) (.int .i64 k)=if 2=2/\0<=k/\k<n then A (.ptr l (i+k.toNat) 0)else none:=aF
def Zl{l i n:Nat}{cap:Option Nat}{k:Int}(a:0<=k)(ah:k<n):ct P 22 (.az l i n 2 cap) (.int .i64 k)=A (.ptr l (i+k.toNat) 0):=by rw[Zm,if_pos ⟨rfl,a,ah⟩]
def aaT{H:ae}{l i n e:Nat}{cap:Option Nat}:bE P H .len [22] [.az l i n e cap]=A (.int .i64 n):=aF
def aaU{H:ae}:bE P H .len [22] [.ao]=A (.int .i64 0):=aF
def air:eo P 23=A false:=aF
def aiX:cE P 23=A 1:=aF
def Zo(l i n:Nat)(cap:Option Nat)(k:Int):ct P 23 (.az l i n 3 cap) (.int .i64 k)=if 3=3/\0<=k/\k<n then A (.ptr l (i+k.toNat) 0)else none:=aF
def Zn{l i n:Nat}{cap:Option Nat}{k:Int}(a:0<=k)(ah:k<n):ct P 23 (.az l i n 3 cap) (.int .i64 k)=A (.ptr l (i+k.toNat) 0):=by rw[Zo,if_pos ⟨rfl,a,ah⟩]
def aaV{H:ae}{l i n e:Nat}{cap:Option Nat}:bE P H .len [23] [.az l i n e cap]=A (.int .i64 n):=aF
def aaW{H:ae}:bE P H .len [23] [.ao]=A (.int .i64 0):=aF
def ais:eo P 24=A false:=aF
def aiY:cE P 24=A 1:=aF
def Zq(l i n:Nat)(cap:Option Nat)(k:Int):ct P 24 (.az l i n 7 cap) (.int .i64 k)=if 7=7/\0<=k/\k<n then A (.ptr l (i+k.toNat) 0)else none:=aF
def Zp{l i n:Nat}{cap:Option Nat}{k:Int}(a:0<=k)(ah:k<n):ct P 24 (.az l i n 7 cap) (.int .i64 k)=A (.ptr l (i+k.toNat) 0):=by rw[Zq,if_pos ⟨rfl,a,ah⟩]
def aaX{H:ae}{l i n e:Nat}{cap:Option Nat}:bE P H .len [24] [.az l i n e cap]=A (.int .i64 n):=aF
def aa0{H:ae}:bE P H .len [24] [.ao]=A (.int .i64 0):=aF
def aiw:eo P 25=A false:=aF
def ai2:cE P 25=A 1:=aF
def Zy(l i n:Nat)(cap:Option Nat)(k:Int):ct P 25 (.az l i n 4 cap) (.int .i64 k)=if 4=4/\0<=k/\k<n then A (.ptr l (i+k.toNat) 0)else none:=aF
def Zx{l i n:Nat}{cap:Option Nat}{k:Int}(a:0<=k)(ah:k<n):ct P 25 (.az l i n 4 cap) (.int .i64 k)=A (.ptr l (i+k.toNat) 0):=by rw[Zy,if_pos ⟨rfl,a,ah⟩]
def aa1{H:ae}{l i n e:Nat}{cap:Option Nat}:bE P H .len [25] [.az l i n e cap]=A (.int .i64 n):=aF
def aa2{H:ae}:bE P H .len [25] [.ao]=A (.int .i64 0):=aF
def aiy:eo P 27=A true:=aF
def ai4:cE P 27=A 5:=aF
def Xg(l i c:Nat):bO P 27 (.ptr l i c) 0=A (.ptr l i (c+0)):=aF
def Xh(l i c:Nat):bO P 27 (.ptr l i c) 1=A (.ptr l i (c+1)):=aF
def Xi(l i c:Nat):bO P 27 (.ptr l i c) 2=A (.ptr l i (c+2)):=aF
def Xj(l i c:Nat):bO P 27 (.ptr l i c) 3=A (.ptr l i (c+3)):=aF
def Xk(l i c:Nat):bO P 27 (.ptr l i c) 4=A (.ptr l i (c+4)):=aF
def yn:eo P 30=A false:=aF
def ai8:cE P 30=A 1:=aF
def ZC(l i n:Nat)(cap:Option Nat)(k:Int):ct P 30 (.az l i n 1 cap) (.int .i64 k)=if 1=1/\0<=k/\k<n then A (.ptr l (i+k.toNat) 0)else none:=aF
def ZB{l i n:Nat}{cap:Option Nat}{k:Int}(a:0<=k)(ah:k<n):ct P 30 (.az l i n 1 cap) (.int .i64 k)=A (.ptr l (i+k.toNat) 0):=by rw[ZC,if_pos ⟨rfl,a,ah⟩]
def aa5{H:ae}{l i n e:Nat}{cap:Option Nat}:bE P H .len [30] [.az l i n e cap]=A (.int .i64 n):=aF
def aa6{H:ae}:bE P H .len [30] [.ao]=A (.int .i64 0):=aF
def Sk:eo P 31=A false:=aF
def ai9:cE P 31=A 1:=aF
def ZE(l i n:Nat)(cap:Option Nat)(k:Int):ct P 31 (.az l i n 1 cap) (.int .i64 k)=if 1=1/\0<=k/\k<n then A (.ptr l (i+k.toNat) 0)else none:=aF
def ZD{l i n:Nat}{cap:Option Nat}{k:Int}(a:0<=k)(ah:k<n):ct P 31 (.az l i n 1 cap) (.int .i64 k)=A (.ptr l (i+k.toNat) 0):=by rw[ZE,if_pos ⟨rfl,a,ah⟩]
def aa7{H:ae}{l i n e:Nat}{cap:Option Nat}:bE P H .len [31] [.az l i n e cap]=A (.int .i64 n):=aF
def aa8{H:ae}:bE P H .len [31] [.ao]=A (.int .i64 0):=aF
def aiB:eo P 33=A true:=aF
def ai_:cE P 33=A 4:=aF
def Xt(l i c:Nat):bO P 33 (.ptr l i c) 0=A (.ptr l i (c+0)):=aF
def Xu(l i c:Nat):bO P 33 (.ptr l i c) 1=A (.ptr l i (c+1)):=aF
def Xv(l i c:Nat):bO P 33 (.ptr l i c) 2=A (.ptr l i (c+2)):=aF
def Xw(l i c:Nat):bO P 33 (.ptr l i c) 3=A (.ptr l i (c+3)):=aF
def tS:eo P 46=A true:=aF
def aja:cE P 46=A 3:=aF
def Xx(l i c:Nat):bO P 46 (.ptr l i c) 0=A (.ptr l i (c+0)):=aF
def Xy(l i c:Nat):bO P 46 (.ptr l i c) 1=A (.ptr l i (c+1)):=aF
def Xz(l i c:Nat):bO P 46 (.ptr l i c) 2=A (.ptr l i (c+2)):=aF
def Ym(a0 b a:af):oT P 46 (.agg [a0,b,a]) 2=A a:=aF
def aiC:eo P 47=A false:=aF
def ajb:cE P 47=A 1:=aF
def ZG(l i n:Nat)(cap:Option Nat)(k:Int):ct P 47 (.az l i n 6 cap) (.int .i64 k)=if 6=6/\0<=k/\k<n then A (.ptr l (i+k.toNat) 0)else none:=aF
def ZF{l i n:Nat}{cap:Option Nat}{k:Int}(a:0<=k)(ah:k<n):ct P 47 (.az l i n 6 cap) (.int .i64 k)=A (.ptr l (i+k.toNat) 0):=by rw[ZG,if_pos ⟨rfl,a,ah⟩]
def aa9{H:ae}{l i n e:Nat}{cap:Option Nat}:bE P H .len [47] [.az l i n e cap]=A (.int .i64 n):=aF
def aa_{H:ae}:bE P H .len [47] [.ao]=A (.int .i64 0):=aF
def Sl:eo P 49=A true:=aF
def ajc:cE P 49=A 7:=aF
def XA(l i c:Nat):bO P 49 (.ptr l i c) 0=A (.ptr l i (c+0)):=aF
def XB(l i c:Nat):bO P 49 (.ptr l i c) 1=A (.ptr l i (c+1)):=aF
def XC(l i c:Nat):bO P 49 (.ptr l i c) 2=A (.ptr l i (c+2)):=aF
def XD(l i c:Nat):bO P 49 (.ptr l i c) 3=A (.ptr l i (c+3)):=aF
def XE(l i c:Nat):bO P 49 (.ptr l i c) 4=A (.ptr l i (c+6)):=aF
def aiD:eo P 53=A false:=aF
def ajd:cE P 53=A 1:=aF
def ZI(l i n:Nat)(cap:Option Nat)(k:Int):ct P 53 (.az l i n 4 cap) (.int .i64 k)=if 4=4/\0<=k/\k<n then A (.ptr l (i+k.toNat) 0)else none:=aF
def ZH{l i n:Nat}{cap:Option Nat}{k:Int}(a:0<=k)(ah:k<n):ct P 53 (.az l i n 4 cap) (.int .i64 k)=A (.ptr l (i+k.toNat) 0):=by rw[ZI,if_pos ⟨rfl,a,ah⟩]
def aba{H:ae}{l i n e:Nat}{cap:Option Nat}:bE P H .len [53] [.az l i n e cap]=A (.int .i64 n):=aF
def abb{H:ae}:bE P H .len [53] [.ao]=A (.int .i64 0):=aF
def Sm:eo P 56=A true:=aF
def aje:cE P 56=A 4:=aF
def XF(l i c:Nat):bO P 56 (.ptr l i c) 0=A (.ptr l i (c+0)):=aF
def XG(l i c:Nat):bO P 56 (.ptr l i c) 1=A (.ptr l i (c+1)):=aF
def XH(l i c:Nat):bO P 56 (.ptr l i c) 2=A (.ptr l i (c+2)):=aF
def XI(l i c:Nat):bO P 56 (.ptr l i c) 3=A (.ptr l i (c+3)):=aF
def XJ(l i c:Nat):bO P 76 (.ptr l i c) 0=A (.ptr l i (c+0)):=aF
def XK(l i c:Nat):bO P 76 (.ptr l i c) 1=A (.ptr l i (c+5)):=aF
def XL(l i c:Nat):bO P 76 (.ptr l i c) 2=A (.ptr l i (c+9)):=aF
def XM(l i c:Nat):bO P 76 (.ptr l i c) 3=A (.ptr l i (c+10)):=aF
def XN(l i c:Nat):bO P 78 (.ptr l i c) 0=A (.ptr l i (c+0)):=aF
def XO(l i c:Nat):bO P 78 (.ptr l i c) 1=A (.ptr l i (c+5)):=aF
def XP(l i c:Nat):bO P 78 (.ptr l i c) 2=A (.ptr l i (c+9)):=aF
def XQ(l i c:Nat):bO P 78 (.ptr l i c) 3=A (.ptr l i (c+10)):=aF
def XR(l i c:Nat):bO P 78 (.ptr l i c) 4=A (.ptr l i (c+11)):=aF
def XS(l i c:Nat):bO P 78 (.ptr l i c) 5=A (.ptr l i (c+12)):=aF
def Sn:eo P 89=A true:=aF
def ajf:cE P 89=A 6:=aF
def XT(l i c:Nat):bO P 89 (.ptr l i c) 0=A (.ptr l i (c+0)):=aF
def XU(l i c:Nat):bO P 89 (.ptr l i c) 1=A (.ptr l i (c+1)):=aF
def XV(l i c:Nat):bO P 89 (.ptr l i c) 2=A (.ptr l i (c+2)):=aF
def XW(l i c:Nat):bO P 89 (.ptr l i c) 3=A (.ptr l i (c+3)):=aF
def XX(l i c:Nat):bO P 89 (.ptr l i c) 4=A (.ptr l i (c+4)):=aF
def XZ(l i c:Nat):bO P 89 (.ptr l i c) 5=A (.ptr l i (c+5)):=aF
def aiF:eo P 93=A false:=aF
def ajh:cE P 93=A 1:=aF
def ZK(l i n:Nat)(cap:Option Nat)(k:Int):ct P 93 (.az l i n 4 cap) (.int .i64 k)=if 4=4/\0<=k/\k<n then A (.ptr l (i+k.toNat) 0)else none:=aF
def ZJ{l i n:Nat}{cap:Option Nat}{k:Int}(a:0<=k)(ah:k<n):ct P 93 (.az l i n 4 cap) (.int .i64 k)=A (.ptr l (i+k.toNat) 0):=by rw[ZK,if_pos ⟨rfl,a,ah⟩]
def abe{H:ae}{l i n e:Nat}{cap:Option Nat}:bE P H .len [93] [.az l i n e cap]=A (.int .i64 n):=aF
def abf{H:ae}:bE P H .len [93] [.ao]=A (.int .i64 0):=aF
def aiG:eo P 95=A true:=aF
def aji:cE P 95=A 2:=aF
def X0(l i c:Nat):bO P 95 (.ptr l i c) 1=A (.ptr l i (c+1)):=aF
def aiH:eo P 98=A true:=aF
def ajj:cE P 98=A 4:=aF
def X1(l i c:Nat):bO P 98 (.ptr l i c) 1=A (.ptr l i (c+1)):=aF
def aim:eo P 100=A true:=aF
def aiQ:cE P 100=A 4:=aF
def WR(l i c:Nat):bO P 100 (.ptr l i c) 0=A (.ptr l i (c+0)):=aF
def WS(l i c:Nat):bO P 100 (.ptr l i c) 1=A (.ptr l i (c+1)):=aF
def IG:eo P 104=A false:=aF
def aiR:cE P 104=A 1:=aF
def Zc(l i n:Nat)(cap:Option Nat)(k:Int):ct P 104 (.az l i n 1 cap) (.int .i64 k)=if 1=1/\0<=k/\k<n then A (.ptr l (i+k.toNat) 0)else none:=aF
def Zb{l i n:Nat}{cap:Option Nat}{k:Int}(a:0<=k)(ah:k<n):ct P 104 (.az l i n 1 cap) (.int .i64 k)=A (.ptr l (i+k.toNat) 0):=by rw[Zc,if_pos ⟨rfl,a,ah⟩]
def aaJ{H:ae}{l i n e:Nat}{cap:Option Nat}:bE P H .len [104] [.az l i n e cap]=A (.int .i64 n):=aF
def aaK{H:ae}:bE P H .len [104] [.ao]=A (.int .i64 0):=aF
def ain:eo P 152=A false:=aF
def aiS:cE P 152=A 1:=aF
def Ze(l i n:Nat)(cap:Option Nat)(k:Int):ct P 152 (.az l i n 1 cap) (.int .i64 k)=if 1=1/\0<=k/\k<n then A (.ptr l (i+k.toNat) 0)else none:=aF
def Zd{l i n:Nat}{cap:Option Nat}{k:Int}(a:0<=k)(ah:k<n):ct P 152 (.az l i n 1 cap) (.int .i64 k)=A (.ptr l (i+k.toNat) 0):=by rw[Ze,if_pos ⟨rfl,a,ah⟩]
def aaL{H:ae}{l i n e:Nat}{cap:Option Nat}:bE P H .len [152] [.az l i n e cap]=A (.int .i64 n):=aF
def aaM{H:ae}:bE P H .len [152] [.ao]=A (.int .i64 0):=aF
def aio:eo P 154=A true:=aF
def aiT:cE P 154=A 2:=aF
def WT(l i c:Nat):bO P 154 (.ptr l i c) 0=A (.ptr l i (c+0)):=aF
def WU(l i c:Nat):bO P 154 (.ptr l i c) 1=A (.ptr l i (c+1)):=aF
def WV(l i c:Nat):bO P 196 (.ptr l i c) 0=A (.ptr l i (c+0)):=aF
def WW(l i c:Nat):bO P 196 (.ptr l i c) 1=A (.ptr l i (c+7)):=aF
def WY(l i c:Nat):bO P 196 (.ptr l i c) 2=A (.ptr l i (c+8)):=aF
def WZ(l i c:Nat):bO P 196 (.ptr l i c) 3=A (.ptr l i (c+9)):=aF
def W1(l i c:Nat):bO P 196 (.ptr l i c) 4=A (.ptr l i (c+10)):=aF
def W2(l i c:Nat):bO P 196 (.ptr l i c) 5=A (.ptr l i (c+11)):=aF
def Zg(l i n:Nat)(cap:Option Nat)(k:Int):ct P 198 (.az l i n 1 cap) (.int .i64 k)=if 1=1/\0<=k/\k<n then A (.ptr l (i+k.toNat) 0)else none:=aF
def Zf{l i n:Nat}{cap:Option Nat}{k:Int}(a:0<=k)(ah:k<n):ct P 198 (.az l i n 1 cap) (.int .i64 k)=A (.ptr l (i+k.toNat) 0):=by rw[Zg,if_pos ⟨rfl,a,ah⟩]
def aaN{H:ae}{l i n e:Nat}{cap:Option Nat}:bE P H .len [198] [.az l i n e cap]=A (.int .i64 n):=aF
def aaO{H:ae}:bE P H .len [198] [.ao]=A (.int .i64 0):=aF
def Si:eo P 203=A false:=aF
def aiU:cE P 203=A 1:=aF
def Zi(l i n:Nat)(cap:Option Nat)(k:Int):ct P 203 (.az l i n 1 cap) (.int .i64 k)=if 1=1/\0<=k/\k<n then A (.ptr l (i+k.toNat) 0)else none:=aF
def Zh{l i n:Nat}{cap:Option Nat}{k:Int}(a:0<=k)(ah:k<n):ct P 203 (.az l i n 1 cap) (.int .i64 k)=A (.ptr l (i+k.toNat) 0):=by rw[Zi,if_pos ⟨rfl,a,ah⟩]
def aaP{H:ae}{l i n e:Nat}{cap:Option Nat}:bE P H .len [203] [.az l i n e cap]=A (.int .i64 n):=aF
def aaQ{H:ae}:bE P H .len [203] [.ao]=A (.int .i64 0):=aF
def aip:eo P 204=A false:=aF
def aiV:cE P 204=A 1:=aF
def Zk(l i n:Nat)(cap:Option Nat)(k:Int):ct P 204 (.az l i n 1 cap) (.int .i64 k)=if 1=1/\0<=k/\k<n then A (.ptr l (i+k.toNat) 0)else none:=aF
def Zj{l i n:Nat}{cap:Option Nat}{k:Int}(a:0<=k)(ah:k<n):ct P 204 (.az l i n 1 cap) (.int .i64 k)=A (.ptr l (i+k.toNat) 0):=by rw[Zk,if_pos ⟨rfl,a,ah⟩]
def aaR{H:ae}{l i n e:Nat}{cap:Option Nat}:bE P H .len [204] [.az l i n e cap]=A (.int .i64 n):=aF
def aaS{H:ae}:bE P H .len [204] [.ao]=A (.int .i64 0):=aF
def W3(l i c:Nat):bO P 206 (.ptr l i c) 0=A (.ptr l i (c+0)):=aF
def W4(l i c:Nat):bO P 206 (.ptr l i c) 1=A (.ptr l i (c+1)):=aF
def W5(l i c:Nat):bO P 206 (.ptr l i c) 2=A (.ptr l i (c+2)):=aF
def ait:eo P 243=A false:=aF
def aiZ:cE P 243=A 1:=aF
def Zs(l i n:Nat)(cap:Option Nat)(k:Int):ct P 243 (.az l i n 1 cap) (.int .i64 k)=if 1=1/\0<=k/\k<n then A (.ptr l (i+k.toNat) 0)else none:=aF
def Zr{l i n:Nat}{cap:Option Nat}{k:Int}(a:0<=k)(ah:k<n):ct P 243 (.az l i n 1 cap) (.int .i64 k)=A (.ptr l (i+k.toNat) 0):=by rw[Zs,if_pos ⟨rfl,a,ah⟩]
def aiu:eo P 244=A false:=aF
def ai0:cE P 244=A 1:=aF
def Zu(l i n:Nat)(cap:Option Nat)(k:Int):ct P 244 (.az l i n 1 cap) (.int .i64 k)=if 1=1/\0<=k/\k<n then A (.ptr l (i+k.toNat) 0)else none:=aF
def Zt{l i n:Nat}{cap:Option Nat}{k:Int}(a:0<=k)(ah:k<n):ct P 244 (.az l i n 1 cap) (.int .i64 k)=A (.ptr l (i+k.toNat) 0):=by rw[Zu,if_pos ⟨rfl,a,ah⟩]
def aiv:eo P 246=A false:=aF
def ai1:cE P 246=A 1:=aF
def Zw(l i n:Nat)(cap:Option Nat)(k:Int):ct P 246 (.az l i n 1 cap) (.int .i64 k)=if 1=1/\0<=k/\k<n then A (.ptr l (i+k.toNat) 0)else none:=aF
def Zv{l i n:Nat}{cap:Option Nat}{k:Int}(a:0<=k)(ah:k<n):ct P 246 (.az l i n 1 cap) (.int .i64 k)=A (.ptr l (i+k.toNat) 0):=by rw[Zw,if_pos ⟨rfl,a,ah⟩]
def aaY{H:ae}{l i n e:Nat}{cap:Option Nat}:bE P H .len [246] [.az l i n e cap]=A (.int .i64 n):=aF
def aaZ{H:ae}:bE P H .len [246] [.ao]=A (.int .i64 0):=aF
def W7(l i c:Nat):bO P 248 (.ptr l i c) 0=A (.ptr l i (c+0)):=aF
def W8(l i c:Nat):bO P 248 (.ptr l i c) 1=A (.ptr l i (c+1)):=aF
def W9(l i c:Nat):bO P 248 (.ptr l i c) 2=A (.ptr l i (c+2)):=aF
def W_(l i c:Nat):bO P 248 (.ptr l i c) 3=A (.ptr l i (c+3)):=aF
def Xa(l i c:Nat):bO P 248 (.ptr l i c) 4=A (.ptr l i (c+4)):=aF
def Xb(l i c:Nat):bO P 248 (.ptr l i c) 5=A (.ptr l i (c+5)):=aF
def Xc(l i c:Nat):bO P 248 (.ptr l i c) 6=A (.ptr l i (c+6)):=aF
def Xd(l i c:Nat):bO P 248 (.ptr l i c) 7=A (.ptr l i (c+7)):=aF
def Xe(l i c:Nat):bO P 248 (.ptr l i c) 8=A (.ptr l i (c+8)):=aF
def aix:eo P 251=A false:=aF
def ai3:cE P 251=A 1:=aF
def Xf(l i c:Nat):bO P 262 (.ptr l i c) 0=A (.ptr l i (c+0)):=aF
def aiz:eo P 280=A true:=aF
def ai5:cE P 280=A 19:=aF
def Xl(l i c:Nat):bO P 280 (.ptr l i c) 0=A (.ptr l i (c+0)):=aF
def Xm(l i c:Nat):bO P 280 (.ptr l i c) 1=A (.ptr l i (c+5)):=aF
def Xn(l i c:Nat):bO P 280 (.ptr l i c) 2=A (.ptr l i (c+6)):=aF
def Xo(l i c:Nat):bO P 280 (.ptr l i c) 3=A (.ptr l i (c+13)):=aF
def aiA:eo P 284=A false:=aF
def ai6:cE P 284=A 1:=aF
def ZA(l i n:Nat)(cap:Option Nat)(k:Int):ct P 284 (.az l i n 3 cap) (.int .i64 k)=if 3=3/\0<=k/\k<n then A (.ptr l (i+k.toNat) 0)else none:=aF
def Zz{l i n:Nat}{cap:Option Nat}{k:Int}(a:0<=k)(ah:k<n):ct P 284 (.az l i n 3 cap) (.int .i64 k)=A (.ptr l (i+k.toNat) 0):=by rw[ZA,if_pos ⟨rfl,a,ah⟩]
def aa3{H:ae}{l i n e:Nat}{cap:Option Nat}:bE P H .len [284] [.az l i n e cap]=A (.int .i64 n):=aF
def aa4{H:ae}:bE P H .len [284] [.ao]=A (.int .i64 0):=aF
def Sj:eo P 286=A true:=aF
def ai7:cE P 286=A 3:=aF
def Xp(l i c:Nat):bO P 286 (.ptr l i c) 0=A (.ptr l i (c+0)):=aF
def Xq(l i c:Nat):bO P 286 (.ptr l i c) 1=A (.ptr l i (c+1)):=aF
def Xr(l i c:Nat):bO P 286 (.ptr l i c) 2=A (.ptr l i (c+2)):=aF
def Xs(l i c:Nat):bO P 292 (.ptr l i c) 0=A (.ptr l i (c+0)):=aF
def JY{a0:af}{a:af}{b:af}(c:a0.one=J)(ah:a.one=J)(ai:b.one=J):ei P 56 [(0,a0),(1,a),(2,b)]=A (.agg [a0,a,b,.int .i64 0]):=by
 rw[h3];simp only[List.map_cons,List.map_nil,dq c,dq ah,dq ai];kernel_rfl
def J0{a:af}{b:af}{c:af}{d:af}{e:af}{f:af}{g:af}{h:af}{i:af}:ei P 76 [(0,.agg [a,b,c,d,e]),(1,.agg [f,g,h,i])]=A (.agg [a,b,c,d,e,f,g,h,i,af.ao,af.ao]):=by
 rw[h3];simp only[List.map_cons,List.map_nil];kernel_rfl
def J1{a:af}{b:af}{c:af}{d:af}{e:af}{f:af}{g:af}{h:af}{i:af}:ei P 78 [(0,.agg [a,b,c,d,e]),(1,.agg [f,g,h,i])]=A (.agg [a,b,c,d,e,f,g,h,i,af.ao,af.ao,af.ao,af.ao]):=by
 rw[h3];simp only[List.map_cons,List.map_nil];kernel_rfl
def JS{a:af}{a3:af}{a4:af}(ah:a.one=J)(ax:a3.one=J)(aM:a4.one=J):ei P 196 [(1,a),(3,a3),(4,a4)]=A (.agg [.int .i64 0,af.ao,.bool I,.int .i64 0,.int .i64 0,.int .i64 0,af.ao,a,.int .i64 0,a3,a4,af.ao]):=by
 rw[h3];simp only[List.map_cons,List.map_nil,dq ah,dq ax,dq aM];kernel_rfl
def UB{a:af}(ai:a.one=J):ei P 206 [(2,a)]=A (.agg [af.ao,af.ao,a]):=by
 rw[h3];simp only[List.map_cons,List.map_nil,dq ai];kernel_rfl
def JX{a:af}(ah:a.one=J):ei P 33 [(1,a)]=A (.agg [.int .i64 0,a,af.ao,af.ao]):=by
 rw[h3];simp only[List.map_cons,List.map_nil,dq ah];kernel_rfl
def UG{a0:af}(a:a0.one=J):ei P 46 [(0,a0)]=A (.agg [a0,.int .i64 0,.int .i64 0]):=by
 rw[h3];simp only[List.map_cons,List.map_nil,dq a];kernel_rfl
def UH{a0:af}{a:af}{b:af}(c:a0.one=J)(ah:a.one=J)(ai:b.one=J):ei P 46 [(0,a0),(1,a),(2,b)]=A (.agg [a0,a,b]):=by
 rw[h3];simp only[List.map_cons,List.map_nil,dq c,dq ah,dq ai];kernel_rfl
def JZ{a0:af}{a:af}{b:af}{a3:af}(c:a0.one=J)(ah:a.one=J)(ai:b.one=J)(ax:a3.one=J):ei P 56 [(0,a0),(1,a),(2,b),(3,a3)]=A (.agg [a0,a,b,a3]):=by
 rw[h3];simp only[List.map_cons,List.map_nil,dq c,dq ah,dq ai,dq ax];kernel_rfl
def JT{a0:af}{a:af}{b:af}{a3:af}{a4:af}{a5:af}{c:af}{d:af}(e:a0.one=J)(ah:a.one=J)(ai:b.one=J)(ax:a3.one=J)(aM:a4.one=J)(f:a5.one=J)(g:c.one=J)(h:d.one=J):ei P 248 [(0,a0),(1,a),(2,b),(3,a3),(4,a4),(5,a5),(6,c),(8,d)]=A (.agg [a0,a,b,a3,a4,a5,c,af.ao,d]):=by
 rw[h3];simp only[List.map_cons,List.map_nil,dq e,dq ah,dq ai,dq ax,dq aM,dq f,dq g,dq h];kernel_rfl
def JR{a0:af}{a:af}(b:a0.one=J)(ah:a.one=J):ei P 154 [(0,a0),(1,a)]=A (.agg [a0,a]):=by
 rw[h3];simp only[List.map_cons,List.map_nil,dq b,dq ah];kernel_rfl
def JW{a0:af}{a:af}(b:a0.one=J)(ah:a.one=J):ei P 33 [(0,a0),(1,a)]=A (.agg [a0,a,af.ao,af.ao]):=by
 rw[h3];simp only[List.map_cons,List.map_nil,dq b,dq ah];kernel_rfl
def JU{b:af}{c:af}{d:af}{e:af}{f:af}{a:af}{g:af}{h:af}{i:af}{j:af}{k:af}{l:af}{m:af}{n:af}{o:af}{p:af}{q:af}{r:af}{s:af}(ah:a.one=J):ei P 280 [(0,.agg [b,c,d,e,f]),(1,a),(2,.agg [g,h,i,j,k,l,m]),(3,.agg [n,o,p,q,r,s])]=A (.agg [b,c,d,e,f,a,g,h,i,j,k,l,m,n,o,p,q,r,s]):=by
 rw[h3];simp only[List.map_cons,List.map_nil,dq ah];kernel_rfl
def D3{a0:af}{a:af}{b:af}(c:a0.one=J)(ah:a.one=J)(ai:b.one=J):ei P 286 [(0,a0),(1,a),(2,b)]=A (.agg [a0,a,b]):=by
 rw[h3];simp only[List.map_cons,List.map_nil,dq c,dq ah,dq ai];kernel_rfl
def UD{a0:af}(a:a0.one=J):ei P 292 [(0,a0)]=A (.agg [a0]):=by
 rw[h3];simp only[List.map_cons,List.map_nil,dq a];kernel_rfl
def JV{a0:af}{a:af}(b:a0.one=J)(ah:a.one=J):ei P 312 [(0,a0),(1,a)]=A (.agg [a0,a]):=by
 rw[h3];simp only[List.map_cons,List.map_nil,dq b,dq ah];kernel_rfl
def UF:ei P 33 []=A (.agg [.int .i64 0,af.ao,af.ao,af.ao]):=by
 rw[h3];simp only[List.map_cons,List.map_nil];kernel_rfl
def D4:ei P 46 []=A (.agg [.int .i64 0,.int .i64 0,.int .i64 0]):=by
 rw[h3];simp only[List.map_cons,List.map_nil];kernel_rfl
def UA:ei P 154 []=A (.agg [af.ao,af.ao]):=by
 rw[h3];simp only[List.map_cons,List.map_nil];kernel_rfl
def UC:ei P 262 []=A (.agg [af.ao]):=by
 rw[h3];simp only[List.map_cons,List.map_nil];kernel_rfl
def UE:ei P 310 []=A (.agg []):=by
 rw[h3];simp only[List.map_cons,List.map_nil];kernel_rfl
section
set_option linter.defProp false
def kD:=ag @ae.fR @ae.u1
def ej:=ag (ag (ag (ag (ag @Tf @iN) (ag @Dt (ag @acJ @acM))) (ag (ag @acN @iL) (ag @m1 (ag @ake @tW)))) (ag (ag (ag @lZ @T5) (ag @Ta (ag @kM @akb))) (ag (ag @aj8 (ag @aka @aj9)) (ag @aj_ (ag @aj6 @acz))))) (ag (ag (ag (ag @acy @Ur) (ag @Jc (ag @Jd @Ti))) (ag (ag @I9 @I_) (ag @Th (ag @Ja @I7)))) (ag (ag (ag @Jb @I8) (ag @Option.bind_some.{0,0} (ag @g8 @oZ))) (ag (ag @yF (ag @fp @acU)) (ag @ve (ag @acT @acS)))))
def NG:=ag (ag (ag (ag (ag @List.getElem?_cons_zero.{0} @List.getElem?_cons_succ.{0}) (ag @List.drop_zero.{0} @List.drop_succ_cons.{0})) (ag (ag @List.take_succ_cons.{0} @List.take_zero.{0}) (ag @List.set_cons_zero.{0} @List.set_cons_succ.{0}))) (ag (ag (ag @List.cons_append.{0} @List.nil_append.{0}) (ag @List.length_cons.{0} @List.length_nil.{0})) (ag (ag @List.all_cons.{0} @List.all_nil.{0}) (ag @Bool.and_true @Bool.and_self)))) (ag (ag (ag (ag @Nat.zero_add @Nat.add_zero) (ag @du @and_self)) (ag (ag @and_true @true_and) (ag @if_true.{1} @bD))) (ag (ag (ag @OI @OO) (ag @OG @ON)) (ag (ag @OL @OM) (ag @OH (ag @OJ @OK)))))
def ajk:=ag (ag (ag (ag (ag (ag @rO @Dh) (ag @aiE @aiq)) (ag (ag @air @ais) (ag @aiw @aiy))) (ag (ag (ag @yn @Sk) (ag @aiB @tS)) (ag (ag @aiC @Sl) (ag @aiD @Sm)))) (ag (ag (ag (ag @Sn @aiF) (ag @aiG @aiH)) (ag (ag @aim @IG) (ag @ain @aio))) (ag (ag (ag @Si @aip) (ag @ait @aiu)) (ag (ag @aiv @aix) (ag @aiz (ag @aiA @Sj)))))) (ag (ag (ag (ag (ag @Dk @SC) (ag @ajg @aiW)) (ag (ag @aiX @aiY) (ag @ai2 @ai4))) (ag (ag (ag @ai8 @ai9) (ag @ai_ @aja)) (ag (ag @ajb @ajc) (ag @ajd @aje)))) (ag (ag (ag (ag @ajf @ajh) (ag @aji @ajj)) (ag (ag @aiQ @aiR) (ag @aiS @aiT))) (ag (ag (ag @aiU @aiV) (ag @aiZ @ai0)) (ag (ag @ai1 @ai3) (ag @ai5 (ag @ai6 @ai7))))))
def cV:=ag (ag (ag @X2 (ag @Ya @Lq)) (ag @X8 (ag @X7 @X6))) (ag (ag @X5 (ag @X4 @X9)) (ag @X_ (ag @Wk @abO)))
def qI:=ag (ag (ag @ae.Y2 @ae.eW) (ag @ae.cH @ae.b8)) (ag (ag @ae.fR @ae.u1) (ag @ae.gU @ae.set_set))
def J2:=ag (ag (ag (ag @JY @J0) (ag @J1 (ag @JS @UB))) (ag (ag @JX @UG) (ag @UH (ag @JZ @JT)))) (ag (ag (ag @JR @JW) (ag @JU (ag @D3 @UD))) (ag (ag @JV (ag @UF @D4)) (ag @UA (ag @UC @UE))))
def dz:=ag (ag (ag (ag (ag (ag @Xg @Xh) (ag @Xi @Xj)) (ag (ag @Xk @Xt) (ag @Xu @Xv))) (ag (ag (ag @Xw @Xx) (ag @Xy @Xz)) (ag (ag @XA @XB) (ag @XC (ag @XD @XE))))) (ag (ag (ag (ag @XF @XG) (ag @XH @XI)) (ag (ag @XJ @XK) (ag @XL (ag @XM @XN)))) (ag (ag (ag @XO @XP) (ag @XQ @XR)) (ag (ag @XS @XT) (ag @XU (ag @XV @XW)))))) (ag (ag (ag (ag (ag @XX @XZ) (ag @X0 @X1)) (ag (ag @WR @WS) (ag @WT @WU))) (ag (ag (ag @WV @WW) (ag @WY @WZ)) (ag (ag @W1 @W2) (ag @W3 (ag @W4 @W5))))) (ag (ag (ag (ag @W7 @W8) (ag @W9 @W_)) (ag (ag @Xa @Xb) (ag @Xc (ag @Xd @Xe)))) (ag (ag (ag @Xf @Xl) (ag @Xm @Xn)) (ag (ag @Xo @Xp) (ag @Xq (ag @Xr @Xs))))))
def LB:= @Ym
def Ny:=ag (ag (ag (ag (ag @abd @aaT) (ag @aaU @aaV)) (ag (ag @aaW @aaX) (ag @aa0 @aa1))) (ag (ag (ag @aa2 @aa5) (ag @aa6 @aa7)) (ag (ag @aa8 @aa9) (ag @aa_ @aba)))) (ag (ag (ag (ag @abb @abe) (ag @abf @aaJ)) (ag (ag @aaK @aaL) (ag @aaM @aaN))) (ag (ag (ag @aaO @aaP) (ag @aaQ @aaR)) (ag (ag @aaS @aaY) (ag @aaZ (ag @aa3 @aa4)))))
def Ml:=ag (ag (ag (ag @Zl @Zn) (ag @Zp @Zx)) (ag (ag @ZB @ZD) (ag @ZF (ag @ZH @ZJ)))) (ag (ag (ag @Zb @Zd) (ag @Zf @Zh)) (ag (ag @Zj @Zr) (ag @Zt (ag @Zv @Zz))))
def TO:=ag ej (ag NG (ag ajk (ag cV (ag qI (ag J2 (ag dz (ag LB (ag Ny Ml))))))))
def OF:=ag (ag (ag @OI @OO) (ag @OG @ON)) (ag (ag @OL @OM) (ag @OH (ag @OJ @OK)))
def aW{p:Prop}(h:p:=by first|assumption|omega|(simp only[kD];omega)|(simp only[OF];done)|fail):p:=h
def akm{p:Prop}(h:p:=by first|assumption|omega|(simp only[kD];omega)|(simp only[OF];done)|(simp only[List.length_append,List.length_cons,List.length_nil];omega)|fail):p:=h
def VQ:(∀cs,(af.agg cs).cells=cs)/\(∀b,(af.bool b).cells=[.bool b])/\(∀k n,(af.int k n).cells=[.int k n])/\(∀s,(af.str s).cells=[.str s])/\(∀l i c,(af.ptr l i c).cells=[.ptr l i c])/\af.ho.cells=[.ho]/\(∀l i n e c,(af.az l i n e c).cells=[.az l i n e c])/\af.ao.cells=[.ao]/\(∀f a b,(af.func f a b).cells=[.func f a b])/\af.nilFunc.cells=[.nilFunc]/\af.nilIface.cells=[.nilIface]:=
 ⟨λ_=>rfl,λ_=>rfl,λ_ _=>rfl,λ_=>rfl,λ_ _ _=>rfl,rfl,λ_ _ _ _ _=>rfl,rfl,λ_ _ _=>rfl,rfl,rfl⟩
def eU:=ag @eM.eq_1 (ag @fU.eq_1 (ag @aI.eq_1 (ag @cr.eq_1 (ag VQ TO))))
def bB:=ag @eM.eq_1 (ag ej (ag NG (ag cV (ag J2 (ag dz (ag LB (ag Ny (ag Ml (ag @ae.fR (ag @ae.u1 @ae.set_set))))))))))
end
def S_{k:Nat}(h:k<=1000000000):IntKind.i64.wrap ((k:Int)+1)=((k+1:Nat):Int):=by rw[wrap_i64 ad ad];omega
def K6{a b:Int}(h:a<b):decide (a<b)=true:=decide_eq_true h
def K4{a b:Int}(h:¬a<b):decide (a<b)=false:=decide_eq_false h
def K3{a b:Int}(h:a<=b):decide (a<=b)=true:=decide_eq_true h
def K5{a b:Int}(h:¬a<=b):decide (a<=b)=false:=decide_eq_false h
def bw{r:O}{H:ae}{v:af}{k:af->ae->O}{Q:af->ae->Prop}(h:W r λw H'=>w=v/\au H H')(f:∀H',au H H'->W (k v H') Q):W (ea H r k) Q:=cK h λ_ H' e=>⟨e.2.1,by rw[e.1];exact f H' e.2⟩
def e2{r:O}{H:ae}{k:af->ae->O}{Q R:af->ae->Prop}(h:W r λw H'=>R w H'/\au H H')(f:∀w H',R w H'->au H H'->W (k w H') Q):W (ea H r k) Q:=cK h λw H' e=>⟨e.2.1,f w H' e.1 e.2⟩
def cT{r:O}{H:ae}{v:af}{k:K->O}{Q:af->ae->Prop}(h:W r λw H'=>w=v/\au H H')(f:∀H',au H H'->W (k (.cR v H')) Q):W (eb H r k) Q:=yB h λ_ H' e=>⟨e.2.1,by rw[e.1];exact f H' e.2⟩
def Jh{r:O}{H:ae}{k:K->O}{Q R:af->ae->Prop}(h:W r λw H'=>R w H'/\au H H')(f:∀w H',R w H'->au H H'->W (k (.cR w H')) Q):W (eb H r k) Q:=yB h λw H' e=>⟨e.2.1,f w H' e.1 e.2⟩
def S7{cN:List Nat}{T:List fr}{H:ae}:∀{S:List fr},(∀H'∈hW T H,au H H')->(∀t∈S,∀v,t.k= .read v->cN.contains t.i=J\/∀H',au H H'->bF (t.rd H') v=J)->tU cN T H S
 |[],_,_=>trivial
 |t::ts,ah,ai=>⟨λv a=>(ai t aX v a).imp id λh H' hm=>h H' (ah H' hm),S7 ah λb ba=>ai b (by simp[ba])⟩
def ds{zF:ae->Prop}{ms cN:List Nat}{T:List fr}{H:ae}{zA B:O}{Q:af->ae->Prop}(f:∀H',au H H'->zF H')(h:W zA Q)(c:hv ms T []=true:=by first|kernel_rfl)(b:∀H'∈hW T H,au H H':=by simp only[hW,cw.K.heap,List.forall_mem_cons];repeat' first|exact au.refl _|assumption|exact au.push _ _|(intro _ h;cases h;done)|refine ag ?_ ?_)(d:(∀H',au H H'->zF H')->∀t∈T,∀v,t.k= .read v->cN.contains t.i=J\/∀H',au H H'->bF (t.rd H') v=true:=by intro f;simp only[List.forall_mem_cons];repeat' first|(intro v a;cases a;done)|(intro v a;exact .inl rfl)|(intro v a;cases a;refine .inr λH' p=> ?_;simp only[Nat.zero_add,Nat.reduceAdd,f H' p];done)|(intro _ h;cases h;done)|refine ag ?_ ?_):W (bif jj ms cN T H then zA else B) Q:=lx (lH c (S7 b (d f))) h
def rN{zF p q:Prop}(e:zF->p=q:=by intro f;simp-implicitDefEqProofs(disch:=try exact aW)only[Nat.reduceAdd,Nat.reduceLeDiff,reduceIte,bB,f];rfl):zF->p=q:=e
def aii{p q:Prop}(h:q)(e:True->p=q:=by exact rN):p:=(e trivial).mpr h
def Sf{p q a:Prop}(f0:a)(h:q)(e:a->p=q:=by exact rN):p:=(e f0).mpr h
def IE{p q a b:Prop}(f0:a)(f1:b)(h:q)(e:a/\b->p=q:=by exact rN):p:=(e ⟨f0,f1⟩).mpr h
def IF{p q a b c:Prop}(f0:a)(f1:b)(f2:c)(h:q)(e:a/\b/\c->p=q:=by exact rN):p:=(e ⟨f0,f1,f2⟩).mpr h
def Sg{p q a b c d:Prop}(f0:a)(f1:b)(f2:c)(f3:d)(h:q)(e:a/\b/\c/\d->p=q:=by exact rN):p:=(e ⟨f0,f1,f2,f3⟩).mpr h
def aij{p q a b c d f:Prop}(f0:a)(f1:b)(f2:c)(f3:d)(f4:f)(h:q)(e:a/\b/\c/\d/\f->p=q:=by exact rN):p:=(e ⟨f0,f1,f2,f3,f4⟩).mpr h
def qb{p q a b c d f g:Prop}(f0:a)(f1:b)(f2:c)(f3:d)(f4:f)(f5:g)(h:q)(e:a/\b/\c/\d/\f/\g->p=q:=by exact rN):p:=(e ⟨f0,f1,f2,f3,f4,f5⟩).mpr h
def Sh{zF p q:Prop}(e:zF->p=q:=by intro f;simp-implicitDefEqProofs(disch:=try exact aW)only[Nat.reduceAdd,Nat.reduceLeDiff,reduceIte,bB,dU,dQ,dT,dR,dS,f];rfl):zF->p=q:=e
def aik{p q:Prop}(h:q)(e:True->p=q:=by exact Sh):p:=(e trivial).mpr h
def ail{p q a b:Prop}(f0:a)(f1:b)(h:q)(e:a/\b->p=q:=by exact Sh):p:=(e ⟨f0,f1⟩).mpr h
def C6{zF p q:Prop}(e:zF->p=q:=by intro f;simp-implicitDefEqProofs(disch:=try exact aW)only[Nat.reduceAdd,Nat.reduceLeDiff,reduceIte,eU,f];rfl):zF->p=q:=e
def EM{zF p:Prop}(e:zF->p:=by intro f;simp-implicitDefEqProofs(disch:=try exact aW)only[Nat.reduceAdd,Nat.reduceLeDiff,reduceIte,eU,f]):zF->p:=e
def age{p q:Prop}(h:q)(e:True->p=q:=by exact C6):p:=(e trivial).mpr h
def aaa{p:Prop}(e:True->p:=by exact EM):p:=e trivial
def kz{p a:Prop}(f0:a)(e:a->p:=by exact EM):p:=e f0
def Im{p q a b:Prop}(f0:a)(f1:b)(h:q)(e:a/\b->p=q:=by exact C6):p:=(e ⟨f0,f1⟩).mpr h
def sI{p a b:Prop}(f0:a)(f1:b)(e:a/\b->p:=by exact EM):p:=e ⟨f0,f1⟩
def agf{p q a b c:Prop}(f0:a)(f1:b)(f2:c)(h:q)(e:a/\b/\c->p=q:=by exact C6):p:=(e ⟨f0,f1,f2⟩).mpr h
def C5{p q a b c d f g:Prop}(f0:a)(f1:b)(f2:c)(f3:d)(f4:f)(f5:g)(h:q)(e:a/\b/\c/\d/\f/\g->p=q:=by exact C6):p:=(e ⟨f0,f1,f2,f3,f4,f5⟩).mpr h
def RD{zF p q:Prop}(e:zF->p=q:=by intro f;simp-implicitDefEqProofs(disch:=try exact aW)only[ej,f];rfl):zF->p=q:=e
def agn{p q a b c d f:Prop}(f0:a)(f1:b)(f2:c)(f3:d)(f4:f)(h:q)(e:a/\b/\c/\d/\f->p=q:=by exact RD):p:=(e ⟨f0,f1,f2,f3,f4⟩).mpr h
def ago{p q a b c d f g:Prop}(f0:a)(f1:b)(f2:c)(f3:d)(f4:f)(f5:g)(h:q)(e:a/\b/\c/\d/\f/\g->p=q:=by exact RD):p:=(e ⟨f0,f1,f2,f3,f4,f5⟩).mpr h
def rD{zF p q:Prop}(e:zF->p=q:=by intro f;simp-implicitDefEqProofs(disch:=try exact aW)only[ej,dU,dQ,dT,dR,dS,f];rfl):zF->p=q:=e
def RC{p q:Prop}(h:q)(e:True->p=q:=by exact rD):p:=(e trivial).mpr h
def kI{p q a:Prop}(f0:a)(h:q)(e:a->p=q:=by exact rD):p:=(e f0).mpr h
def tN{p q a b:Prop}(f0:a)(f1:b)(h:q)(e:a/\b->p=q:=by exact rD):p:=(e ⟨f0,f1⟩).mpr h
def rC{p q a b c:Prop}(f0:a)(f1:b)(f2:c)(h:q)(e:a/\b/\c->p=q:=by exact rD):p:=(e ⟨f0,f1,f2⟩).mpr h
def p5{p q a b c d:Prop}(f0:a)(f1:b)(f2:c)(f3:d)(h:q)(e:a/\b/\c/\d->p=q:=by exact rD):p:=(e ⟨f0,f1,f2,f3⟩).mpr h
def oA{p q a b c d f:Prop}(f0:a)(f1:b)(f2:c)(f3:d)(f4:f)(h:q)(e:a/\b/\c/\d/\f->p=q:=by exact rD):p:=(e ⟨f0,f1,f2,f3,f4⟩).mpr h
def gV{p q a b c d f g:Prop}(f0:a)(f1:b)(f2:c)(f3:d)(f4:f)(f5:g)(h:q)(e:a/\b/\c/\d/\f/\g->p=q:=by exact rD):p:=(e ⟨f0,f1,f2,f3,f4,f5⟩).mpr h
def rL{zF:Prop}{zX Y:O}(e:zF->zX=Y:=by intro f;simp-implicitDefEqProofs(disch:=try exact aW)only[Nat.reduceAdd,Nat.reduceLeDiff,reduceIte,bB,dU,dQ,dT,dR,dS,Int.reduceBEq,decide_true,decide_false,Bool.not_true,Bool.not_false,S_,K6,K4,K3,K5,f];rfl):zF->zX=Y:=e
def bN{zX Y:O}{Q:af->ae->Prop}(h:W Y Q)(e:True->zX=Y:=by exact rL):W zX Q:=(e trivial).symm▸h
def bP{zX Y:O}{Q:af->ae->Prop}{a:Prop}(f0:a)(h:W Y Q)(e:a->zX=Y:=by exact rL):W zX Q:=(e f0).symm▸h
def bG{zX Y:O}{Q:af->ae->Prop}{a b:Prop}(f0:a)(f1:b)(h:W Y Q)(e:a/\b->zX=Y:=by exact rL):W zX Q:=(e ⟨f0,f1⟩).symm▸h
def b3{zX Y:O}{Q:af->ae->Prop}{a b c:Prop}(f0:a)(f1:b)(f2:c)(h:W Y Q)(e:a/\b/\c->zX=Y:=by exact rL):W zX Q:=(e ⟨f0,f1,f2⟩).symm▸h
def cv{zX Y:O}{Q:af->ae->Prop}{a b c d:Prop}(f0:a)(f1:b)(f2:c)(f3:d)(h:W Y Q)(e:a/\b/\c/\d->zX=Y:=by exact rL):W zX Q:=(e ⟨f0,f1,f2,f3⟩).symm▸h
def c_{zX Y:O}{Q:af->ae->Prop}{a b c d f:Prop}(f0:a)(f1:b)(f2:c)(f3:d)(f4:f)(h:W Y Q)(e:a/\b/\c/\d/\f->zX=Y:=by exact rL):W zX Q:=(e ⟨f0,f1,f2,f3,f4⟩).symm▸h
def bh{zX Y:O}{Q:af->ae->Prop}{a b c d f g:Prop}(f0:a)(f1:b)(f2:c)(f3:d)(f4:f)(f5:g)(h:W Y Q)(e:a/\b/\c/\d/\f/\g->zX=Y:=by exact rL):W zX Q:=(e ⟨f0,f1,f2,f3,f4,f5⟩).symm▸h
def rI{zF:Prop}{zX Y:O}(e:zF->zX=Y:=by intro f;simp-implicitDefEqProofs(disch:=try exact aW)only[Nat.reduceAdd,Nat.reduceLeDiff,reduceIte,eU,dU,dQ,dT,dR,dS,Int.reduceBEq,decide_true,decide_false,Bool.not_true,Bool.not_false,S_,K6,K4,K3,K5,f];rfl):zF->zX=Y:=e
def mX{zX Y:O}{Q:af->ae->Prop}(h:W Y Q)(e:True->zX=Y:=by exact rI):W zX Q:=(e trivial).symm▸h
def p8{zX Y:O}{Q:af->ae->Prop}{a:Prop}(f0:a)(h:W Y Q)(e:a->zX=Y:=by exact rI):W zX Q:=(e f0).symm▸h
def It{zX Y:O}{Q:af->ae->Prop}{a b:Prop}(f0:a)(f1:b)(h:W Y Q)(e:a/\b->zX=Y:=by exact rI):W zX Q:=(e ⟨f0,f1⟩).symm▸h
def oC{zX Y:O}{Q:af->ae->Prop}{a b c:Prop}(f0:a)(f1:b)(f2:c)(h:W Y Q)(e:a/\b/\c->zX=Y:=by exact rI):W zX Q:=(e ⟨f0,f1,f2⟩).symm▸h
def yd{zX Y:O}{Q:af->ae->Prop}{a b c d:Prop}(f0:a)(f1:b)(f2:c)(f3:d)(h:W Y Q)(e:a/\b/\c/\d->zX=Y:=by exact rI):W zX Q:=(e ⟨f0,f1,f2,f3⟩).symm▸h
def ye{zX Y:O}{Q:af->ae->Prop}{a b c d f:Prop}(f0:a)(f1:b)(f2:c)(f3:d)(f4:f)(h:W Y Q)(e:a/\b/\c/\d/\f->zX=Y:=by exact rI):W zX Q:=(e ⟨f0,f1,f2,f3,f4⟩).symm▸h
def gm{zX Y:O}{Q:af->ae->Prop}{a b c d f g:Prop}(f0:a)(f1:b)(f2:c)(f3:d)(f4:f)(f5:g)(h:W Y Q)(e:a/\b/\c/\d/\f/\g->zX=Y:=by exact rI):W zX Q:=(e ⟨f0,f1,f2,f3,f4,f5⟩).symm▸h
section
set_option maxRecDepth 2000
def dm(H:ae)(ok:Nat->Prop)(H':ae)(ok':Nat->Prop):Prop:=∀l b,ok l->H.get l=A b->ok' l/\H'.get l=A b
def dm.le{H:ae}{ok ok':Nat->Prop}(h:∀l,ok l->ok' l):dm H ok H ok':=λl _ a b=>⟨h l a,b⟩
def dm.mut{H H':ae}{ok:Nat->Prop}{S:Nat->Prop}(m:fK S H H')(h:∀l,ok l->¬S l):dm H ok H' ok:=λl _ a b=>⟨a,m.get b (h l a)⟩
theorem dm.aB{H H':ae}{ok:Nat->Prop}(m:au H H'):dm H ok H' ok:=λ_ _ a b=>⟨a,m.get b⟩
theorem dm.trans{H1 d e:ae}{a b c:Nat->Prop}(h:dm H1 a d b)(k:dm d b e c):dm H1 a e c:=λl x y z=>k l x (h l x y z).1 (h l x y z).2
structure eS(α:Type) where
 esz:Nat
 V:ae->(Nat->Prop)->α->List af->Prop
 len:∀{H ok a cs},V H ok a cs->cs.length=esz/\cs.all af.one=true
 keep:∀{H ok H' ok'} {a:α} {cs},dm H ok H' ok'->V H ok a cs->V H' ok' a cs
def bb:Nat->Prop:=λ_=>True
section
variable {α:Type}{K:eS α}{H H':ae}{ok ok':Nat->Prop}
def iO(K:eS α)(ok:Nat->Prop)(H:ae)(l:List α)(v:af):Prop:=(v= .ao/\l=[])\/∃L els cap,v= .az L 0 l.length K.esz cap/\ok L/\H.get L=A (.row I K.esz els)/\l.length<=els.length/\(cap=Z\/cap=A l.length)/\∀(i:Nat) (a:α),l[i]? =A a->∃cs,els[i]? =A cs/\K.V H (λk=>ok k/\k≠L) a cs
def aH(K:eS α)(H:ae)(ok:Nat->Prop)(l:List α)(v:af):Prop:=(v= .ao/\l=[])\/(∃L i cap ro els,v= .az L i l.length K.esz cap/\ok L/\H.get L=A (.row ro K.esz els)/\i+l.length<=els.length/\∀(j:Nat) (a:α),l[j]? =A a->∃cs,els[i+j]? =A cs/\K.V H ok a cs)\/∃L i cap,v= .az L i 0 K.esz cap/\l=[]
theorem aH.one{l:List α}{v:af}(h:aH K H ok l v):v.one=true:=by
 rcases h with⟨rfl,_⟩|⟨L,i,cap,ro,els,rfl,_⟩|⟨L,i,cap,rfl,_⟩<;>rfl
theorem iO.nil:iO K ok H [] .ao:= .inl ⟨rfl,rfl⟩
theorem aH.nil:aH K H ok [] .ao:= .inl ⟨rfl,rfl⟩
def iO.keep{l:List α}{v:af}(p:dm H ok H' ok')(h:iO K ok H l v):iO K ok' H' l v:=by
 rcases h with h|⟨L,els,cap,f,d,e,j,n,m⟩
 ·exact .inl h
 ·refine .inr ⟨L,els,cap,f,(p _ _ d e).1,(p _ _ d e).2,j,n,λi a aP=> ?_⟩;obtain⟨cs,o,q⟩:=m i a aP;exact⟨cs,o,K.keep (λk b c g=>⟨⟨(p _ _ c.1 g).1,c.2⟩,(p _ _ c.1 g).2⟩) q⟩
def aH.keep{l:List α}{v:af}(p:dm H ok H' ok')(h:aH K H ok l v):aH K H' ok' l v:=by
 rcases h with h|⟨L,i,cap,ro,els,d,b,c,e,f⟩|h
 ·exact .inl h
 ·refine .inr (.inl ⟨L,i,cap,ro,els,d,(p _ _ b c).1,(p _ _ b c).2,e,λj a g=> ?_⟩);obtain⟨cs,k,m⟩:=f j a g;exact⟨cs,k,K.keep p m⟩
 ·exact .inr (.inr h)
theorem aH.aB{l:List α}{v:af}(h:aH K H ok l v)(p:au H H'):aH K H' ok l v:=h.keep (.aB p)
theorem iO.aB{l:List α}{v:af}(h:iO K ok H l v)(p:au H H'):iO K ok H' l v:=h.keep (.aB p)
def aH.any{l:List α}{v:af}(h:aH K H ok l v):aH K H bb l v:=h.keep (.le λ_ _=>trivial)
def aH.below{l:List α}{v:af}(h:aH K H ok l v):aH K H (· <H.next) l v:=h.keep λ_ _ _ g=>⟨ae.bq g,g⟩
theorem iO.az{l:List α}{v:af}(h:iO K ok H l v):aH K H ok l v:=by
 rcases h with h|⟨L,els,cap,b,c,d,i,_,e⟩
 ·exact .inl h
 ·refine .inr (.inl ⟨L,0,cap,I,els,b,c,d,ad,λj a f=> ?_⟩);obtain⟨cs,k,g⟩:=e j a f;exact⟨cs,al,K.keep (dm.le λ_ h=>h.1) g⟩
structure fa(t e esz:Nat):Prop where
 un:P.underlying t=some (.slice e)
 ts:cE P e=some esz
 iV:∃b,lW P e=some b/\b<=200
 ft:∃z,fX P e=some z/\z.cells.length=esz/\z.cells.all af.one=true
 pos:0<esz/\esz<=100
def iF{t e:Nat}(hu:P.underlying t=A (.slice e))(l i n z:Nat)(c:Option Nat):bE P H .len [t] [.az l i n z c]=A (.int .i64 n):=by simp[bE,uq,hu]
def len_nil{t e:Nat}(hu:P.underlying t=A (.slice e)):bE P H .len [t] [.ao]=A (.int .i64 0):=by simp[bE,uq,hu]
def aH.len{t e esz:Nat}(y:fa t e esz){l:List α}{v:af}(h:aH K H ok l v){H0:ae}:bE P H0 .len [t] [v]=A (.int .i64 l.length):=by
 rcases h with⟨rfl,rfl⟩|⟨L,i,cap,ro,els,rfl,_⟩|⟨L,i,cap,rfl,rfl⟩
 ·exact len_nil y.un
 ·exact iF y.un _ _ _ _ _
 ·exact iF y.un _ _ _ _ _
def aH.bg{t e esz:Nat}{l:List α}{v:af}(h:aH K H ok l v)(y:fa t e esz):∀H0,bE P H0 .len [t] [v]=A (.int .i64 l.length):=λ_=>h.len y
theorem pc{t e esz:Nat}(y:fa t e esz){l i n:Nat}{c:Option Nat}{j:Int}(a:0<=j)(ah:j<n):ct P t (.az l i n esz c) (.int .i64 j)=A (.ptr l (i+j.toNat) 0):=by
 simp[ct,y.un,y.ts,a,ah]
theorem aH.at_{t e:Nat}(y:fa t e K.esz){l:List α}{v:af}(h:aH K H ok l v){j:Int}{a:α}(k:0<=j)(b:l[j.toNat]? =A a):∃L i ro els cs,ct P t v (.int .i64 j)=A (.ptr L i 0)/\ok L/\H.get L=A (.row ro K.esz els)/\els[i]? =A cs/\K.V H ok a cs:=by
 have aw:=(List.getElem?_eq_some_iff.1 b).1;rcases h with⟨rfl,rfl⟩|⟨L,i,cap,ro,els,rfl,c,d,f,g⟩|⟨L,i,cap,rfl,rfl⟩
 ·grind
 ·grind[pc]
 grind
def aH.agg{t e:Nat}(y:fa t e K.esz)(c:eo P e=A J){l:List α}{v:af}(h:aH K H ok l v){j:Int}{a:α}(b:0<=j)(d:l[j.toNat]? =A a):∃p cs,ct P t v (.int .i64 j)=A p/\aI P H e p=A (.agg cs)/\K.V H ok a cs:=by
 obtain⟨L,i,ro,els,cs,ah,_,ai,ax,aM⟩:=h.at_ y b d;refine⟨_,cs,ah,?_,aM⟩;rw[hz c y.ts ai ax ad,List.drop_zero,List.take_of_length_le (by have:=(K.len aM).1;omega)]
def aH.val{t e:Nat}(y:fa t e K.esz)(c:eo P e=A I){l:List α}{v:af}(h:aH K H ok l v){j:Int}{a:α}(b:0<=j)(d:l[j.toNat]? =A a):∃p cs,ct P t v (.int .i64 j)=A p/\aI P H e p=cs[0]? /\K.V H ok a cs:=by
 obtain⟨L,i,ro,els,cs,ah,_,ai,ax,aM⟩:=h.at_ y b d;exact⟨_,cs,ah,e0 c ai ax,aM⟩
theorem aH.els{l:List α}{v:af}(h:aH K H ok l v){t e:Nat}(y:fa t e K.esz):∃b,l_ P H t K.esz v=A b/\b.length=l.length/\∀(i:Nat) (a:α),l[i]? =A a->∃cs,b[i]? =A cs/\K.V H ok a cs:=by
 rcases h with⟨rfl,rfl⟩|⟨L,i,cap,ro,els,rfl,k,d,f,m⟩|⟨L,i,cap,rfl,rfl⟩
 ·exact⟨[],by simp[l_,y.un],rfl,λi a h=>al⟩
 ·by_cases c:l.length=0
  ·refine⟨[],by simp[l_,y.un,c],al,λj a g=> ?_⟩;grind
  ·refine⟨(els.drop i).take l.length,by simp[l_,y.un,iR,d,f,c],al,λj a g=> ?_⟩;grind
 ·exact⟨[],by simp[l_,y.un],rfl,λi a h=>al⟩
def lo(K:eS α)(H:ae)(okE:Nat->Prop)(t:Nat)(m:List α)(w:af):Prop:=(∃b,l_ P H t K.esz w=A b/\b.length=m.length/\∀(i:Nat) (a:α),m[i]? =A a->∃cs,b[i]? =A cs/\K.V H okE a cs)/\∀e,yI w e=Z
def aH.y7{l:List α}{v:af}(h:aH K H ok l v){t e:Nat}(y:fa t e K.esz):lo K H ok t l v:=⟨h.els y,λe=>by
 rcases h with⟨rfl,_⟩|⟨L,i,cap,ro,els,rfl,_⟩|⟨L,i,cap,rfl,_⟩<;>rfl⟩
theorem lo.plain{okE okE':Nat->Prop}{t:Nat}{l:List α}{v:af}(h:lo K H okE t l v)(c:∀a cs,K.V H okE a cs->K.V H okE' a cs):lo K H okE' t l v:=by
 obtain⟨⟨b,ah,ai,ax⟩,aM⟩:=h;exact⟨al,aM⟩
theorem Uc{okE:Nat->Prop}{t e:Nat}(y:fa t e K.esz){l m:List α}{v w:af}(h:iO K ok H l v)(hm:lo K H okE t m w)(ab:∀k b,okE k->H.get k=A b->ok' k/\∀L n c,v= .az L 0 n K.esz c->k≠L)(r:∀k b,ok k->H.get k=A b->ok' k)(aL:ok' H.next)(aw:l.length+m.length<=1000000000):
  ∃s H',eA P H [t,t] v w=A (s,H')/\iO K ok' H' (l++m) s/\H.next<=H'.next/\(∀k,k<H.next->(∀L n c,v= .az L 0 n K.esz c->k≠L)->H'.get k=H.get k)/\(s=v\/∃n,s= .az H.next 0 n K.esz Z):=by
 obtain⟨⟨d,d1,d2,d3⟩,U⟩:=hm;obtain⟨b,f,N⟩:=y.iV;obtain⟨z,o,p,_⟩:=y.ft;have j:qM P t=false:=by simp[qM,y.un]
 have T:=U e;by_cases M:m.length=0
 ·
  obtain rfl:=List.length_eq_zero_iff.1 M;obtain rfl:=List.length_eq_zero_iff.1 (d2.trans M);refine⟨v,H,?_,?_,ad,λ_ _ _=>rfl,.inl rfl⟩
  ·rcases h with⟨rfl,rfl⟩|⟨L,els,cap,rfl,_⟩
   ·simp[eA,y.un,y.ts,f,o,p,y.pos.1,j,d1]
   ·simp[eA,y.un,y.ts,f,o,p,y.pos.1,j,d1]
  ·rw[List.append_nil];exact h.keep λk b R g=>⟨r k b R g,g⟩
 have u:d.length≠0:=ad;rcases h with⟨rfl,rfl⟩|⟨L,els,cap,rfl,Y,E,aa,S,G⟩
 ·have ah:d.length*b<=140737488355328:=Nat.le_trans (Nat.mul_le_mul_left _ N) ad;have ai:d.length<=9223372036854775807:=ad;refine⟨.az H.next 0 d.length K.esz Z,H.push (.row I K.esz d),by simp[eA,y.un,y.ts,f,o,p,y.pos.1,j,d1,u,ah,ai,T,eQ],?_,aX,(by grind[ae.eW]),.inr ⟨_,rfl⟩⟩;refine .inr ⟨H.next,d,Z,al,aL,ae.a2 _ _,al,.inl rfl,λi a aP=> ?_⟩;obtain⟨cs,B,q⟩:=d3 i a al;refine⟨cs,B,K.keep (λk b r g=> ?_) q⟩;have:=ae.bq g;exact⟨al,(au.push _ _).get g⟩
 ·have ar:=ae.bq E;have ah:(l.length+d.length)*b<=140737488355328:=Nat.le_trans (Nat.mul_le_mul_left _ N) ad;have ai:l.length+d.length<=9223372036854775807:=ad;have O:iR H L 0 l.length K.esz=A (els.take l.length):=by
   grind[iR]
  have ap:(els.take l.length).length=l.length:=al;replace G:∀(i:Nat) (a:α),l[i]? =A a->∃cs,(els.take l.length)[i]? =A cs/\K.V H (λk=>ok k/\k≠L) a cs:=al;have Q:∀H1:ae,H1.next=H.next->(∀k b,H.get k=A b->k≠L->H1.get k=A b)->iO K ok' (H1.push (.row I K.esz (els.take l.length++d))) (l++m) (.az H.next 0 (l.length+d.length) K.esz Z):=by
   intro H1 am aj;have aq:∀k b,H.get k=A b->k≠L->(H1.push (.row I K.esz (els.take l.length++d))).get k=A b:=λk b g ak=>by
    have:=ae.bq g;grind[ae.eW]
   refine .inr ⟨H.next,els.take l.length++d,Z,al,aL,by grind[ae.a2],al,.inl rfl,λi a aP=> ?_⟩;by_cases W:i<l.length
   ·rw[List.getElem?_append_left W]at aP;obtain⟨c,B,q⟩:=G i a aP;refine⟨c,al,K.keep (λk x R g=> ?_) q⟩;have:=ae.bq g;grind
   ·rw[List.getElem?_append_right ad]at aP;obtain⟨c,B,q⟩:=d3 _ a aP;refine⟨c,al,K.keep (λk x r g=> ?_) q⟩;have:=ae.bq g;grind
  rcases S with rfl|rfl
  ·refine⟨_,_,by simp[eA,y.un,y.ts,f,o,p,y.pos.1,j,d1,u,ah,ai,O,E],Q (H.set L (gone 0 H.next K.esz els)) rfl (by grind[ae.b8]),aX,λk r an=> ?_,.inr ⟨_,rfl⟩⟩;rw[ae.eW (by simp;omega),ae.b8 al]
  ·have aA:0<d.length:=ad;refine⟨_,_,by simp[eA,y.un,y.ts,f,o,p,y.pos.1,j,d1,u,ah,ai,O,aA],Q H rfl (λk b g _=>g),aX,(by grind[ae.eW]),.inr ⟨_,rfl⟩⟩
def iO.lt{l:List α}{v:af}(h:iO K ok H l v){L n:Nat}{c:Option Nat}(e:v= .az L 0 n K.esz c):L<H.next:=by
 rcases h with⟨rfl,_⟩|⟨L',els,cap,rfl,_,a,_⟩
 ·cases e
 ·cases e;exact ae.bq a
structure aY(K:eS α)(B:Nat)(ok:Nat->Prop)(H:ae)(l:List α)(v:af):Prop where
 eL:iO K ok H l v
 low:∀L n c,v= .az L 0 n K.esz c->B<=L
theorem aY.nil(K:eS α)(B:Nat)(ok:Nat->Prop)(H:ae):aY K B ok H [] .ao:=⟨.nil,λ_ _ _ h=>by cases h⟩
def aY.az{B:Nat}{l:List α}{v:af}(h:aY K B ok H l v):aH K H ok l v:=h.eL.az
def aY.keep{B:Nat}{l:List α}{v:af}(p:dm H ok H' ok')(h:aY K B ok H l v):aY K B ok' H' l v:=⟨h.eL.keep p,h.low⟩
theorem aY.aB{B:Nat}{l:List α}{v:af}(h:aY K B ok H l v)(p:au H H'):aY K B ok H' l v:=⟨h.eL.aB p,h.low⟩
def cl(B:Nat)(H H':ae):Prop:=H.next<=H'.next/\∀l,l<B->H'.get l=H.get l
theorem cl.refl(B:Nat)(H:ae):cl B H H:=⟨ad,λ_ _=>rfl⟩
theorem cl.trans{B:Nat}{H1 a b:ae}(h:cl B H1 a)(k:cl B a b):cl B H1 b:=⟨Nat.le_trans h.1 k.1,λl aw=>(k.2 l aw).trans (h.2 l aw)⟩
theorem ek{B:Nat}{H1 a:ae}(h:au H1 a)(b:B<=H1.next):cl B H1 a:=⟨h.1,λl aw=>h.2 l ad⟩
theorem cl.aB{H1 a:ae}(h:cl H1.next H1 a):au H1 a:=h
def cl.le{B zC:Nat}{H1 a:ae}(h:cl B H1 a)(aA:zC<=B):cl zC H1 a:=⟨h.1,λl aw=>h.2 l ad⟩
def aH.e3{B:Nat}{l:List α}{v:af}(h:aH K H (· <B) l v)(p:cl B H H'):aH K H' (· <B) l v:=h.keep λk b a g=>⟨a,by rw[p.2 k a];exact g⟩
theorem aY.app{B:Nat}{okE:Nat->Prop}{t e:Nat}(y:fa t e K.esz){l m:List α}{v w:af}(h:aY K B ok H l v)(r:B<=H.next)(hm:lo K H okE t m w)(q:∀k b,okE k->H.get k=A b->ok' k/\∀L n c,v= .az L 0 n K.esz c->k≠L)(i:∀k b,ok k->H.get k=A b->ok' k)(aL:ok' H.next)(aw:l.length+m.length<=1000000000):
  ∃a H',eA P H [t,t] v w=A (a,H')/\aY K B ok' H' (l++m) a/\cl B H H'/\(∀k,k<H.next->(∀L n c,v= .az L 0 n K.esz c->k≠L)->H'.get k=H.get k)/\(a=v\/∃n,a= .az H.next 0 n K.esz Z):=by
 obtain⟨a,H',j,o,p,f,g⟩:=Uc y h.eL hm q i aL aw;refine⟨a,H',j,⟨o,λL n c d=> ?_⟩,⟨p,λk i=>f k ad λL n c d=>by have:=h.low L n c d;omega⟩,f,g⟩;rcases g with rfl|⟨s,rfl⟩
 ·exact h.low L n c d
 grind
theorem lo.one{okE:Nat->Prop}{t e:Nat}(y:fa t e K.esz){a:α}{cs:List af}{ro:Bool}{cap:Option Nat}{L:Nat}(aS:H.get L=A (.row ro K.esz [cs]))(c:K.V H okE a cs):lo K H okE t [a] (.az L 0 1 K.esz cap):=by
 refine⟨⟨[cs],by simp[l_,y.un,iR,aS],rfl,λi b aP=> ?_⟩,λ_=>rfl⟩;grind
theorem mW{t e esz:Nat}(y:fa t e esz)(l:Nat){v:af}{cs:List af}(aA:v.cells=cs)(h:cs.length=esz)(aZ:cs.all af.one=J):gB P l t 1 [(0,v)]=A (.az l 0 1 esz (A 1),.row I esz [cs]):=by
 obtain⟨z,a,b,c⟩:=y.ft;have ah:1*esz<=16777216:=by have:=y.pos.2;omega
 have ai:esz<=16777216:=ad;have d:∀x∈z.cells,x.one=true:=al;simp[gB,y.un,y.ts,a,b,ma,h,aZ,ai,aA];grind
theorem aY.sc{B:Nat}{H1:ae}{t e:Nat}(y:fa t e K.esz){l:List α}{v:af}{a:α}{cs:List af}(h:aY K B ok H l v)(j:B<=H.next)(p:au H H1)(m:K.V H1 (λk=>H.next<=k) a cs)(q:∀k,ok k\/H.next<=k->ok' k)(aw:l.length<=999999999):
  ∃b H',eA P (H1.push (.row I K.esz [cs])) [t,t] v (.az H1.next 0 1 K.esz (A 1))=A (b,H')/\aY K B ok' H' (l++[a]) b/\cl B H H'/\H1.next<H'.next/\(∀k,k<H1.next->(∀L n c,v= .az L 0 n K.esz c->k≠L)->H'.get k=H1.get k):=by
 have pp:=au.push H1 (.row I K.esz [cs]);have w:=p.1;have u:∀L n c,v= .az L 0 n K.esz c->L<H.next:=λL n c r=>h.eL.lt r
 obtain⟨b,H',f,g,d,i,_⟩:=aY.app (ok:=ok) (ok':=ok') y ((h.aB p).aB pp) (by simp;omega) (lo.one y (ae.a2 _ _) (K.keep (.aB pp) m)) al al (q _ (.inr (by simp;omega))) al;refine⟨b,H',f,g,((ek p j).trans (ek pp ad)).trans d,by have:=d.1;simp at this;omega,λk s o=> ?_⟩;rw[i k (by simp;omega) o,ae.eW ad]
def km(K:eS α)(v:af):Prop:=∀L n c,v= .az L 0 n K.esz c->c=Z\/n=0
theorem km.app{v a:af}{B:Nat}(h:km K v)(e:a=v\/∃n,a= .az B 0 n K.esz Z):km K a:=by
 rcases e with rfl|⟨n,rfl⟩
 ·exact h
 ·intro L n c e;grind
theorem aY.pop{B:Nat}{t e:Nat}(y:fa t e K.esz){l:List α}{a:α}{v:af}(h:aY K B ok H (l++[a]) v)(aA:km K v):∃w,gu P t v Z (A (.int .i64 l.length)) Z=A w/\aY K B ok H l w/\km K w:=by
 obtain⟨ah,ai⟩:=h;rcases ah with⟨_,aw⟩|⟨L,els,cap,rfl,d,f,g,m,j⟩
 ·simp at aw
 ·simp only[List.length_append,List.length_cons,List.length_nil,Nat.zero_add]at g aA ai ⊢;rcases aA L _ _ rfl with rfl|o
  ·refine⟨.az L 0 l.length K.esz Z,?_,⟨.inr ⟨L,els,Z,rfl,d,f,ad,.inl rfl,λi b aP=> ?_⟩,λL' n c k=> ?_⟩,λL' n c k=> ?_⟩
   ·have ah:(l.length:Int)<=(l.length:Int)+1:=ad;simp[gu,y.un,y.ts,dL,ah]
   ·refine j i b ?_;grind
   ·grind
   grind
  omega
theorem qX{t e esz:Nat}{z:af}{b:Nat}(hu:P.underlying t=A (.slice e))(d:cE P e=A esz)(a:lW P e=A b)(f:fX P e=A z)(h:z.cells.length=esz)(i:z.cells.all af.one=J)(g:0<esz)(c:b<=100000)(l n:Nat)(aL:n<=1000000000):gS (hL P ⟨.leaf,l⟩ t (.int .i64 n) (.int .i64 n)) l=A (.az l 0 n esz (A n),.row I esz (List.replicate n z.cells)):=by
 have ah:(b:Int)*(n:Int)<=281474976710656:=by
  have:b*n<=100000*1000000000:=Nat.mul_le_mul c aL;omega
 have ai:(n:Int)<=9223372036854775807:=ad;have ax:(0:Int)<=(n:Int):=ad;have aS:=ae.a2 (⟨.leaf,l⟩:ae) (.row I esz (List.replicate n z.cells));simp only[hL,hu,d,a,f];rw[if_pos al];simp only[gS,Int.toNat_natCast,aS];rw[if_pos aX,if_pos (show(bz.row I esz (List.replicate n z.cells)).iA=J from rfl)]
