/-
  Texts of one proof, laid together: Hv23 Hv24 Base Hv25 Pk Hv26 Tab Ls Lw Ma.
-/
import Derived.Test.YtmhhnnklfcbgfaaGreatMD
import Derived.Test.YtmhhnnklfcbgfaaGreatProg
import Derived.KernelRfl
import Derived.ProofKit
import Derived.OpenShut
import Derived.ShutString
import Derived.ChangeOld
import Derived.Below
import Derived.Carry
set_option linter.unusedVariables false
set_option linter.unusedSimpArgs false
set_option linter.defProp false
open Option renaming some→A,none→Z
open Bool renaming true→J,false→I
namespace Go
def Code.aj:Code->Code
 | .seq a _=>a
 | .cond _ a _=>a
 | .block _ b=>b
 | .loop b=>b
 |c=>c
def Code.ad:Code->Code
 | .seq _ b=>b
 | .cond _ _ b=>b
 |c=>c
def Code.test:Code->Operand
 | .cond c _ _=>c
 |_=> .tmp 0
def Code.num:Code->Nat
 | .block id _=>id
 | .exit id=>id
 |_=>0
def Code.NI:Code->Bool| .seq _ _=>J|_=>I
def Code.NB:Code->Bool| .cond _ _ _=>J|_=>I
def Code.NA:Code->Bool| .block _ _=>J|_=>I
def Code.NF:Code->Bool| .loop _=>J|_=>I
end Go
namespace Go.cv
section
variable {P:Program}{call:ao}{N:Nat}{b9 gm:bU}{b4:List (Nat×bU)}
def ak1{c:Code}{k T:bU}(aA:c.NI=J)(d:∀R H,bX P call N c.ad b9 b4 gm R H=k R H)(aF:∀R H,bX P call N c.aj k b4 gm R H=T R H):
  ∀R H,bX P call N c b9 b4 gm R H=T R H:=by
 cases c<;>first|cases aA|skip
 rename_i a b;intro R H;rw[<-aF];show bX P call N a (λR H=>bX P call N b b9 b4 gm R H) b4 gm R H=_;rw[show(λR H=>bX P call N b b9 b4 gm R H)=k from funext λR=>funext λH=>d R H];rfl
def akY{c:Code}{zA B:bU}(aA:c.NB=J)(a:∀R H,bX P call N c.aj b9 b4 gm R H=zA R H)(b:∀R H,bX P call N c.ad b9 b4 gm R H=B R H):
  ∀R H,bX P call N c b9 b4 gm R H=eB (bn R c.test) (zA R H) (B R H):=by
 cases c<;>first|cases aA|skip
 intro R H;rw[<-a,<-b];rfl
def akX{c:Code}{T:bU}(aA:c.NA=J)(a:∀R H,bX P call N c.aj b9 ((c.num,b9)::b4) gm R H=T R H):∀R H,bX P call N c b9 b4 gm R H=T R H:=by
 cases c<;>first|cases aA|skip
 intro R H;rw[<-a];rfl
theorem ak0{c:Code}{k:Nat->bU}(aA:c.NF=J)(a:∀R H,k 0 R H=Z)(d:∀n R H,bX P call N c.aj (k n) b4 gm R H=k (n+1) R H):∀R H,bX P call N c b9 b4 gm R H=k N R H:=by
 cases c<;>first|cases aA|skip
 rename_i b;have key:∀n R H,rj (λaV R H=>bX P call N b aV b4 gm R H) n R H=k n R H:=by
  intro n
  induction n with
  |zero=>intro R H;exact(a R H).symm
  |succ n e=>
   intro R H;rw[<-d n R H];show bX P call N b (λR H=>rj _ n R H) b4 gm R H=_;rw[show(λR H=>rj (λaV R H=>bX P call N b aV b4 gm R H) n R H)=k n from al];rfl
 intro R H;exact key N R H
def akZ(c:Code):∀R H,bX P call N c b9 b4 gm R H=bX P call N c b9 b4 gm R H:=λ_ _=>rfl
def aU(r:Option af)(k:af->O):O:=match r with
 |some v=>k v
 |none=>Z
def eg(H:ae)(r:O)(k:af->ae->O):O:=match r with
 |some (v,H')=>bif decide (H.next<=H'.next)then k v H' else Z
 |none=>Z
def gG(H:ae)(r:Option ae)(k:ae->O):O:=eg H (r.bind λH'=>A (.tuple [],H')) λ_ H'=>k H'
def fp(H:ae)(r:Option (af×bA))(k:af->ae->O):O:=match r with
 |some (v,b)=>k v (H.push b)
 |none=>Z
def fA(H:ae)(cs:List af)(k:af->ae->O):O:=k (.ptr H.next 0 0) (H.push (.row I cs.length [cs]))
def bL(fn:Func):Code:=match fn.body with
 |some c=>c
 |none=> .skip
def eU(P:Program)(b:Builtin)(ts:List TypeId)(ak:List af)(H:ae)(k:af->O):O:=match bD P .empty b ts ak with
 |some v=>k v
 |none=>(bD P H b ts ak).bind k
def JW(P:Program)(s d:TypeId)(v:af)(H:ae)(k:af->O):O:=match sF P s d v with
 |some v=>k v
 |none=>(uW P H s d v).bind k
def qK(call:ao)(H:ae)(f:af)(ak:List af)(k:af->ae->O):O:=(pB f ak).bind λp=>eg H (call p.1 p.2 H) k
def qv(v:af)(q:K->O):O:=q (.pure v)
def cn(r:Option af)(q:K->O):O:=r.bind λv=>q (.pure v)
def qr(r:Option af)(q:K->O):O:=r.bind λv=>q (.read v)
def b1(b:af)(want:Bool)(H:ae)(m:(K->O)->O)(k:af->ae->O):O:=cb b want m λx=>k x.val (x.heap H)
end
end Go.cv
namespace Go.cv
def W(m:O)(Q:af->ae->Prop):Prop:=∃v H,m=A (v,H)/\Q v H
theorem aE{v:af}{H:ae}{Q:af->ae->Prop}:W (A (v,H)) Q↔Q v H:=by
 constructor
 ·rintro⟨a,H',h,q⟩;grind
 ·exactλq=>⟨v,H,rfl,q⟩
def W.mono{m:O}{Q a:af->ae->Prop}(h:W m Q)(aH:∀v H,Q v H->a v H):W m a:=by
 obtain⟨v,H,e,q⟩:=h;exact⟨v,H,e,aH v H q⟩
theorem cB{r:O}{H:ae}{k:af->ae->O}{Q a:af->ae->Prop}(h:W r a)(b:∀v H',a v H'->H.next<=H'.next/\W (k v H') Q):W (eg H r k) Q:=by
 obtain⟨v,H',e,q⟩:=h;grind[eg]
theorem zi{r:O}{H:ae}{q:K->O}{Q a:af->ae->Prop}(h:W r a)(b:∀v H',a v H'->H.next<=H'.next/\W (q (.cV v H')) Q):W (eh H r q) Q:=by
 obtain⟨v,H',e,c⟩:=h;grind[eh]
def dK{r:O}{H:ae}{x:af}{k:af->ae->O}{Q:af->ae->Prop}(h:W r λv H'=>v=x/\H'=H)(a:W (k x H) Q):W (eg H r k) Q:=by
 grind[cB]
def hY{r:O}{H:ae}{x:af}{q:K->O}{Q:af->ae->Prop}(h:W r λv H'=>v=x/\H'=H)(a:W (q (.cV x H)) Q):W (eh H r q) Q:=by
 grind[zi]
def sB{m gi:O}{Q:af->ae->Prop}(au:∀r,m=A r->gi=A r)(h:W m Q):W gi Q:=by
 obtain⟨v,H,e,q⟩:=h;exact⟨v,H,au _ e,q⟩
def zA:Nat:=0
def aly:Nat:=0
def Ut:zA=aly:=rfl
def uJ(v:af)(H:ae)(k:af->ae->O):O:=k v H
section
variable {r dc:Option af}{o g6:O}{m gi:Option (af×bA)}{h cD:Option ae}{H H':ae}{a bY:af}{b b':Bool}{z:Nat}
 @[congr] theorem alQ {k:af->ae->O} (e:a=bY) (d:H=H') (y:zA=z):uJ a H k=uJ bY H' k:=al
theorem kf(H:ae)(cs:List af)(k:af->ae->O):fA H cs k=uJ (.ptr H.next 0 0) (H.push (.row I cs.length [cs])) k:=rfl
theorem kh(v:af)(H:ae)(k:af->ae->O):uJ v H k=k v H:=rfl
 @[congr] theorem alJ {k:af->O} (e:r=dc) (y:zA=z):aU r k=aU dc k:=by rw[e]
 @[congr] theorem alL {k:af->ae->O} (d:H=H') (e:o=g6) (y:zA=z):eg H o k=eg H' g6 k:=al
 @[congr] theorem alM {k:K->O} (d:H=H') (e:o=g6) (y:zA=z):eh H o k=eh H' g6 k:=al
 @[congr] theorem alV {k:ae->O} (d:H=H') (e:h=cD) (y:zA=z):gG H h k=gG H' cD k:=al
 @[congr] theorem alR {k:af->ae->O} (d:H=H') (e:m=gi) (y:zA=z):fp H m k=fp H' gi k:=al
 @[congr] theorem alT {k:K->O} (e:m=gi) (y:zA=z):jK m k=jK gi k:=by rw[e]
 @[congr] theorem alP {p q:O} (e:r=dc) (y:zA=z):eB r p q=eB dc p q:=by rw[e]
 @[congr] theorem alC {p q:O} (e:b=b') (y:zA=z):cond b p q=cond b' p q:=by rw[e]
 @[congr] theorem alN {w:Bool} {f:(K->O)->O} {k:af->ae->O} (e:a=bY) (y:zA=z):b1 a w H f k=b1 bY w H f k:=by rw[e]
 @[congr] theorem alO {w:Bool} {f:(K->O)->O} {k:K->O} (e:a=bY) (y:zA=z):cb a w f k=cb bY w f k:=by rw[e]
 @[congr] theorem alK {s a:Option af} {k:K->O} (e:r=dc) (d:s=a) (y:zA=z):iZ r s k=iZ dc a k:=al
 @[congr] theorem alF {q:K->O} (e:r=dc) (y:zA=z):cn r q=cn dc q:=by rw[e]
 @[congr] theorem alG {q:K->O} (e:r=dc) (y:zA=z):qr r q=qr dc q:=by rw[e]
 @[congr] theorem alH {q:K->O} (e:a=bY) (y:zA=z):qv a q=qv bY q:=by rw[e]
def adZ(v:af)(q:K->O):cn (A v) q=q (.pure v):=rfl
def ad2(v:af)(q:K->O):qr (A v) q=q (.read v):=rfl
def ad3(v:af)(q:K->O):qv v q=q (.pure v):=rfl
end
def fz(k:IntKind)(n:Int):bG (A (.int k n)) (.int k n)=true:=by simp[bG,af.beq]
def aea(x:List UInt8):bG (A (.str x)) (.str x)=true:=by simp[bG,af.beq]
def vP(x:Bool):bG (A (.bool x)) (.bool x)=true:=by simp[bG,af.beq]
def ad_(l i n e:Nat)(c:Option Nat):bG (A (.az l i n e c)) (.az l i n e c)=true:=by simp[bG,af.beq]
def ad9:bG (A .aq) .aq=true:=rfl
def ae.j2(H:ae)(b:bA)(l:Nat):(H.push b).get l=if l=H.next then A b else H.get l:=by
 grind[ae.a1,ae.eI]
theorem bJ.AT{α:Type}(x y:α):∀(p:List nu) (t:bJ α),bJ.fo y p (bJ.fo x p t)=bJ.fo y p t
 |[],.leaf=>rfl
 |[],.node .. =>rfl
 |d::p,.leaf=>by cases d<;>simp[bJ.fo,bJ.AT x y p]
 |d::p,.node .. =>by cases d<;>simp[bJ.fo,bJ.AT x y p]
theorem ae.lD(H:ae)(b c:bA):(H.push b).set H.next c=H.push c:=by
 grind[ae.push,ae.set,bJ.put,bJ.AT]
def ae.set_set(H:ae)(l:Nat)(b c:bA):(H.set l b).set l c=H.set l c:=by
 grind[ae.set,bJ.put,bJ.AT]
def ae.aad{H:ae}{b:bA}{l:Nat}(h:l<=H.next)(cD:H.next<=l):(H.push b).get l=A b:=by
 grind[ae.a1]
def ae.gD{H:ae}{b c:bA}{l:Nat}(h:l<=H.next)(cD:H.next<=l):(H.push b).set l c=H.push c:=by
 grind[ae.lD]
def fZ(S:Nat->Prop)(H H':ae):Prop:=H.next<=H'.next/\∀l,l<H.next->¬S l->H'.get l=H.get l
def aw(H H':ae):Prop:=H.next<=H'.next/\∀l,l<H.next->H'.get l=H.get l
theorem aw.refl(H:ae):aw H H:=⟨aa,λ_ _=>rfl⟩
theorem aw.trans{H H1 a:ae}(h:aw H H1)(k:aw H1 a):aw H a:=⟨Nat.le_trans h.1 k.1,λl ar=>(k.2 l (Nat.lt_of_lt_of_le ar h.1)).trans (h.2 l ar)⟩
theorem aw.push(H:ae)(b:bA):aw H (H.push b):=⟨aW,(by grind[ae.eI])⟩
def aw.eO{H H1:ae}(h:aw H H1)(b:bA):aw H (H1.push b):=h.trans (aw.push H1 b)
def aw.pc{H H1:ae}(h:aw H H1){l:Nat}(ar:H.next<=l)(b:bA):aw H (H1.set l b):=
 ⟨h.1,λj a=>by rw[ae.b_ aa];exact h.2 j a⟩
theorem aw.get{H H':ae}(h:aw H H'){l:Nat}{b:bA}(a:H.get l=A b):H'.get l=A b:=by rw[h.2 l (ae.bm a)];omega
def aw.mut{H H':ae}(h:aw H H')(S:Nat->Prop):fZ S H H':=⟨h.1,λl ar _=>h.2 l ar⟩
theorem fZ.refl(S:Nat->Prop)(H:ae):fZ S H H:=(aw.refl H).mut S
theorem fZ.trans{S:Nat->Prop}{H H1 a:ae}(h:fZ S H H1)(k:fZ S H1 a):fZ S H a:=⟨Nat.le_trans h.1 k.1,λl ar b=>(k.2 l (Nat.lt_of_lt_of_le ar h.1) b).trans (h.2 l ar b)⟩
def fZ.pc{S:Nat->Prop}{H H1:ae}(h:fZ S H H1){l:Nat}(ar:S l\/H.next<=l)(b:bA):fZ S H (H1.set l b):=
 ⟨h.1,λj a c=>by rw[ae.b_ al];exact h.2 j a c⟩
theorem fZ.get{S:Nat->Prop}{H H':ae}(h:fZ S H H'){l:Nat}{b:bA}(a:H.get l=A b)(c:¬S l):H'.get l=A b:=by rw[h.2 l (ae.bm a) c];omega
section
variable {P:Program}{H:ae}
def mr(v:af)(k:af->O):aU (A v) k=k v:=rfl
def Uo(b:Bool)(x y:O):eB (A (.bool b)) x y=bif b then x else y:=rfl
theorem Ei{v:af}{H':ae}{k:af->ae->O}(h:H.next<=H'.next):eg H (A (v,H')) k=k v H':=by
 grind[eg]
theorem nr{H':ae}{k:ae->O}(h:H.next<=H'.next):gG H (A H') k=k H':=by
 grind[gG,Ei]
def nq(v:af)(b:bA)(k:af->ae->O):fp H (A (v,b)) k=k v (H.push b):=rfl
def alr(m:(K->O)->O)(k:af->ae->O):b1 (.bool J) J H m k=m (λx=>uJ x.val (x.heap H) k):=rfl
def aln(m:(K->O)->O)(k:af->ae->O):b1 (.bool I) I H m k=m (λx=>uJ x.val (x.heap H) k):=rfl
def alq(m:(K->O)->O)(k:af->ae->O):b1 (.bool J) I H m k=k (.tuple []) H:=rfl
def alo(m:(K->O)->O)(k:af->ae->O):b1 (.bool I) J H m k=k (.tuple []) H:=rfl
def alp(w:Bool)(m:(K->O)->O)(k:af->ae->O):b1 (.tuple []) w H m k=k (.tuple []) H:=rfl
def alk(v:af)(b:Option af)(k:K->O):iZ (A v) b k=k (.pure v):=rfl
def adP(a b:Option af):dA (.bool J) a b=a:=rfl
def adO(a b:Option af):dA (.bool I) a b=b:=rfl
def VE(b:Bool):jX .not (.bool b)=A (.bool (!b)):=rfl
def Vg(l i c:Nat):dS (.ptr l i c)=A (.ptr l i c):=rfl
def Kb(v:af):(K.pure v).val=v:=rfl
def Kc(v:af):(K.read v).val=v:=rfl
def Ka(v:af)(b:bA):(K.new v b).val=v:=rfl
def J_(v:af)(H':ae):(K.cV v H').val=v:=rfl
def Uw:K.skip.val= .tuple []:=rfl
def J8(v:af):(K.pure v).heap H=H:=rfl
def J9(v:af):(K.read v).heap H=H:=rfl
def J7(v:af)(b:bA):(K.new v b).heap H=H.push b:=rfl
def J6(v:af)(H':ae):(K.cV v H').heap H=H':=rfl
def Uv:K.skip.heap H=H:=rfl
def zn(ak:List af)(i:Nat):jd (.tuple ak) i=ak[i]? :=rfl
def Ze(t:TypeId)(c:Bool)(k:IntKind)(a b:Int):bx P .add t c (.int k a) (.int k b)=A (.int k (k.wrap (a+b))):=by simp[bx,l9]
def Zn(t:TypeId)(c:Bool)(k:IntKind)(a b:Int):bx P .sub t c (.int k a) (.int k b)=A (.int k (k.wrap (a-b))):=by simp[bx,l9]
def ME(t:TypeId)(c:Bool)(k:IntKind)(a b:Int):bx P .eql t c (.int k a) (.int k b)=A (.bool (a==b)):=by simp[bx,l9]
def Zk(t:TypeId)(c:Bool)(k:IntKind)(a b:Int):bx P .neq t c (.int k a) (.int k b)=A (.bool (a != b)):=by simp[bx,l9]
def Zj(t:TypeId)(c:Bool)(k:IntKind)(a b:Int):bx P .lss t c (.int k a) (.int k b)=A (.bool (decide (a<b))):=by simp[bx,l9]
def Zi(t:TypeId)(c:Bool)(k:IntKind)(a b:Int):bx P .leq t c (.int k a) (.int k b)=A (.bool (decide (a<=b))):=by simp[bx,l9]
def Zh(t:TypeId)(c:Bool)(k:IntKind)(a b:Int):bx P .gtr t c (.int k a) (.int k b)=A (.bool (decide (b<a))):=by simp[bx,l9]
def Zg(t:TypeId)(c:Bool)(k:IntKind)(a b:Int):bx P .geq t c (.int k a) (.int k b)=A (.bool (decide (b<=a))):=by simp[bx,l9]
def Zl(t:TypeId)(c:Bool)(a b:List UInt8):bx P .eql t c (.str a) (.str b)=A (.bool (a==b)):=rfl
def Zm(t:TypeId)(c:Bool)(a b:List UInt8):bx P .neq t c (.str a) (.str b)=A (.bool (!(a==b))):=rfl
theorem eW{t:TypeId}(a_:ev P t=A I){l i c esz:Nat}{ro:Bool}{els:List (List af)}{e:List af}(h:H.get l=A (.row ro esz els))(he:els[i]? =A e):aJ P H t (.ptr l i c)=e[c]? :=by
 grind[aJ]
theorem hA{t:TypeId}{n:Nat}(a_:ev P t=A J)(aL:cM P t=A n){l i c esz:Nat}{ro:Bool}{els:List (List af)}{e:List af}(h:H.get l=A (.row ro esz els))(he:els[i]? =A e)(aA:c+n<=esz):aJ P H t (.ptr l i c)=A (.agg ((e.drop c).take n)):=by
 grind[aJ]
theorem fb{t:TypeId}{n:Nat}(aL:cM P t=A n){l i c esz:Nat}{els:List (List af)}{e:List af}{v:af}(h:H.get l=A (.row I esz els))(he:els[i]? =A e)(a:v.cells.length=n)(aX:v.cells.all af.one=J)(aA:c+n<=esz):
  cz P H t (.ptr l i c) v=A (H.set l (.row I esz (els.set i (gl e c v.cells)))):=by
 grind[cz]
def PZ(k:IntKind)(n:Int):(af.int k n).one=true:=rfl
def P5(x:List UInt8):(af.str x).one=true:=rfl
def PX(x:Bool):(af.bool x).one=true:=rfl
def P3(l i c:Nat):(af.ptr l i c).one=true:=rfl
def P4(l i n e:Nat)(c:Option Nat):(af.az l i n e c).one=true:=rfl
def P2:af.aq.one=true:=rfl
def P1:af.gC.one=true:=rfl
def P0(l:Nat):(af.map l).one=true:=rfl
def PY(f:Fn)(a c:List af):(af.func f a c).one=true:=rfl
theorem dn{v:af}(h:v.one=J):v.cells=[v]:=by cases v<;>first|rfl|cases h
theorem mH(l:Nat)(cs:List af)(h:cs.all af.one=J):fl l (.agg cs)=A (.ptr l 0 0,.row I cs.length [cs]):=by
 grind[fl,af.cells]
end
end Go.cv
namespace Go.Proofs.YtmhhnnklfcbgfaaGreat
open Go.cv
noncomputable def P:Program:=Tryz.prog
noncomputable abbrev a8(f:Func):bU:=lF P f.results.toList
noncomputable abbrev eF(f:Func)(G:ao)(N:Nat):bU:=bX P G N (bL f) (a8 f) [] (a8 f)
def sk(H:ae)(r:Option ae)(k:af->ae->O):O:=eg H (r.bind λH'=>A (.tuple [],H')) k
def alv{H H':ae}{k:af->ae->O}(h:H.next<=H'.next):sk H (A H') k=k (.tuple []) H':=by
 simp only[sk,Option.bind_some];exact Ei h
 @[congr] theorem alU {H a:ae} {h cD:Option ae} {z:Nat} {k:af->ae->O} (d:H=a) (e:h=cD) (b:zA=z):sk H h k=sk a cD k:=by rw[d,e]
def ph(H:ae)(r:Option (af×bA))(k:af->bA->ae->O):O:=match r with
 |some (v,b)=>k v b (H.push b)
 |none=>Z
def uK{H:ae}(v:af)(b:bA)(k:af->bA->ae->O):ph H (A (v,b)) k=k v b (H.push b):=rfl
 @[congr] theorem alS {H a:ae} {m gi:Option (af×bA)} {z:Nat} {k:af->bA->ae->O} (d:H=a) (e:m=gi) (b:zA=z):ph H m k=ph a gi k:=by rw[d,e]
noncomputable def kg(call:ao)(H:ae)(r:af)(name:String)(ak:List af)(k:af->ae->O):O:=(jB P H r name ak).bind λp=>eg H (call p.1 p.2 H) k
def E0:Env:=λ_=>Z
def oI:List (List af)->Option (List Int)
 |[]=>A []
 |[.int .i64 n]::es=>(oI es).map (n:: ·)
 |_=>Z
def fR(n:Int):List af:=[.int .i64 n]
def u7(o:Option bA):Option af:=match o with
 |some (.row _ e els)=>if e=1 then(match els with
  |[[v]]=>A v
  |_=>Z)else Z
 |_=>Z
def Ll{o:Option bA}{v:af}(h:u7 o=A v):∃ro,o=A (.row ro 1 [[v]]):=by
 unfold u7 at h;split at h
 ·split at h
  ·rename_i he;subst he;split at h
   ·cases h;exact⟨_,rfl⟩
   ·cases h
  ·cases h
 ·cases h
def v7(o:Option bA):Option (List (List af)):=match o with
 |some (.row ro e els)=>if ro=I/\e=1 then A els else Z
 |_=>Z
def aeD{o:Option bA}{els:List (List af)}(h:v7 o=A els):o=A (.row I 1 els):=by
 unfold v7 at h;split at h
 ·split at h
  ·rename_i he;obtain⟨rfl,rfl⟩:=he;cases h;rfl
  ·cases h
 ·cases h
def aD:ao:=λf args H=>match f,args with
 |95,[.func (.func 97) [] [.ptr l 0 0]]=>(match u7 (H.get l)with
  |some .aq=>A (.aq,H)
  |some (.az m i n 1 _)=>(match hH H m i n 1 with
   |some es=>(match oI es with
    |some xs=>if n<=1000000 then(match xs with
     |[]=>A (.aq,H)
     |_=>A (.az H.next 0 n 1 Z,H.push (.row I 1 (xs.map fR))))else Z
    |none=>Z)
   |none=>Z)
  |_=>Z)
 |96,[.aq]=>A (.tuple [],H)
 |96,[.az l 0 n 1 _]=>(match v7 (H.get l)with
  |some es=>(match oI es with
   |some xs=>if es.length=n/\n<=1000000 then A (.tuple [],H.set l (.row I 1 ((xs.mergeSort λx y=>decide (x<=y)).map fR)))else Z
   |none=>Z)
  |_=>Z)
 |_,_=>Z
def rF{f:Nat}{fn:Func}{N:Nat}{args:List af}{H:ae}{r:af×ae}(a:aD f args H=Z)(aB:P.funcs[f]? =A fn)(b:fn.body=A (bL fn))(c:ha fn.ntmps (bL fn)=J)(aL:Nat.ble args.length fn.ntmps=J)(h:eF fn (aK P aD) N (c4 args) H=A r):aK P aD f args H=A r:=XI a aB b c aL h
def alI{f:Nat}{fn:Func}(N:Nat){args:List af}{H:ae}{r:af×ae}{S:ao->O}(aB:P.funcs[f]? =A fn)(he:∀G,eF fn G N (c4 args) H=S G)(h:S (aK P aD)=A r)(a:aD f args H=none:=by first|kernel_rfl)(b:fn.body=A (bL fn):=by first|kernel_rfl)(c:ha fn.ntmps (bL fn)=true:=by first|kernel_rfl)(aL:Nat.ble args.length fn.ntmps=true:=by first|kernel_rfl):aK P aD f args H=A r:=rF a aB b c aL ((he _).trans h)
end Go.Proofs.YtmhhnnklfcbgfaaGreat
namespace Go.cv
def ea(m:(K->O)->O)(k:K->O):cb (.bool J) J m k=m k:=rfl
def dX(m:(K->O)->O)(k:K->O):cb (.bool I) I m k=m k:=rfl
def d_(m:(K->O)->O)(k:K->O):cb (.bool J) I m k=k .skip:=rfl
def dY(m:(K->O)->O)(k:K->O):cb (.bool I) J m k=k .skip:=rfl
def dZ(w:Bool)(m:(K->O)->O)(k:K->O):cb (.tuple []) w m k=k .skip:=rfl
def lT{c:Bool}{a b:O}{Q:af->ae->Prop}(aA:c=J)(h:W a Q):W (bif c then a else b) Q:=al
def ia:List fD->ae->List ae
 |[],H=>[H]
 |t::ts,H=>H::ia ts (t.k.heap H)
theorem Ud{ms:List Nat}{rd:ae->Bool}{i:Nat}:∀(T:List fD) (H:ae),(∀H'∈ia T H,rd H'=J)->iJ ms rd i T H=J
 |[],H,h=>h H (by simp[ia])
 |t::ts,H,h=>by
  have c:=h H (by simp[ia]);have d:=Ud (ms:=ms) (rd:=rd) (i:=i) ts (t.k.heap H) (by grind[ia]);rw[iJ];cases b:t.k.fS with
  |true=>grind
  |false=>
   have:t.k.heap H=H:=by cases a:t.k<;>simp[a,K.fS,K.heap]at b ⊢
   grind
theorem ahA{ms:List Nat}{rd:ae->Bool}{i:Nat}{T:List fD}{H:ae}(h:∀H'∈ia T H,rd H'=J):r_ ms rd i T H=true:=by
 grind[r_,Ud]
def uI(cT:List Nat)(T:List fD)(H:ae):List fD->Prop
 |[]=>True
 |t::ts=>(∀v,t.k= .read v->cT.contains t.i=J\/∀H'∈ia T H,bG (t.rd H') v=J)/\uI cT T H ts
theorem Uf{ms cT:List Nat}{T:List fD}{H:ae}:∀S:List fD,uI cT T H S->jm ms cT T H S=J
 |[],_=>rfl
 |t::ts,h=>by
  rw[uI]at h;rw[jm,Uf ts h.2,Bool.and_true];split
  ·grind[ahA]
  ·rfl
def l5{ms cT:List Nat}{T:List fD}{H:ae}(ah:hJ ms T []=J)(ai:uI cT T H T):jv ms cT T H=true:=by
 grind[jv,Uf]
section
variable {E:Env}{P:Program}{aD:ao}
def Wj{G:ao}(h:∀g args H v H',G g args H=A (v,H')->hE E P g args H v H'):e_ E P G:=λg args H v H' e=>h g args H v H' e
theorem Mt(b:kD P){G:ao}(h:e_ E P G){N f:Nat}{args:List af}{H H1:ae}{fn:Func}{c:Code}{ex:g_}{R:bg}{ak:List af}
  (a:P.funcs[f]? =A fn) (aA:fn.body=A c) (l:dg (hP P G) N c (bg.enter fn.ntmps args) H=A (ex,R,H1)) (s:∀id,ex≠ .exit id) (o:jt P R H1 fn.results.toList=A ak):hE E P f args H (lX ak) H1:=by
 intro ρ w xs i aB j aL next m
 have k:=Mu (N:=N) QQ (QS b.mixed h) c (b.Qo _ _ _ a aA);have r:(fn.name== "runtime.NumGoroutine")=false:=b.names fn (Array.mem_of_getElem? a);have n:(callFunc f xs.toArray).run P w= .ok (.enter f xs.toArray) w:=by
  unfold callFunc;simp[a,aA];grind
 unfold pt;rw[n];simp only
 refine calls_of_wp a aA (k _ _ _ _ _ l ρ w _ _ i aB (Mp j fn.ntmps) λq bY p ah ai=> ?_);obtain⟨x,d,g⟩:=QW ai.rel ah o;have e:=m x p q g ai;cases ex with
 |normal=>exact⟨ah.none,x,d,e⟩
 |ret=>exact⟨ah.none,x,d,e⟩
 |exit id=>grind
theorem q1(d:kD P){G:ao}(b:e_ E P G){f:Nat}{args:List af}{H:ae}{fn:Func}{c:Code}{M:Nat}{r:af×ae}(aB:P.funcs[f]? =A fn)(g:fn.body=A c)(i:ha fn.ntmps c=J)(aL:Nat.ble args.length fn.ntmps=J)
  (h:bX P G M c (lF P fn.results.toList) [] (lF P fn.results.toList) (c4 args) H=A r):hE E P f args H r.1 r.2:=by
 have j:(bg.enter fn.ntmps args).size=fn.ntmps:=by have:=Nat.le_of_ble_eq_true aL;grind[bg.enter]
 rw[<-KG fn.ntmps,LH c _ _ _ _ _ al]at h;unfold s0 at h;have fin:∀(R:bg) (H':ae),lF P fn.results.toList R.get H'=A r->∃ak,jt P R H' fn.results.toList=A ak/\r=(lX ak,H'):=by
  intro R H' a;unfold lF at a;rw[AZ]at a;cases e:jt P R H' fn.results.toList with
  |none=>grind
  |some ak=>grind
 split at h
 ·grind[Mt]
 ·cases h
 ·grind[Mt]
 grind
theorem Rel.FH{ρ:Env}{H:ae}{w a:World}(h:Rel ρ H w)(i:w.heap.size<=a.heap.size)(d:∀b,b<w.heap.size->a.heap[b]? =w.heap[b]?):Rel ρ H a:=by
 have key:∀b x,w.heap[b]? =A x->a.heap[b]? =A x:=λb x e=>by
  rw[d b ?_];exact e;grind
 refine⟨λl ro esz els e=> ?_,λl es e=> ?_,λl t esz els e=> ?_,h.apart,λl s esz els e=>(h.old l s esz els e).step ρ.le_refl i (λb g _=>d b g) λ_ h=> .inl h⟩
 ·obtain⟨loc,ah,ai,c,t,f,ay,aM⟩:=h.row l ro esz els e;exact⟨loc,ah,ai,c,t,f,key _ _ ay,aM⟩
 ·obtain⟨loc,ah,ents,clock,ay,aM⟩:=h.map l es e;exact⟨loc,ah,ents,clock,key _ _ ay,aM⟩
 ·obtain⟨loc,ah,ai⟩:=h.ee l t esz els e;exact⟨loc,ah,ai.frame ρ.le_refl (d _ ai.1.lt)⟩
theorem ae.vf(l:Nat):ae.empty.get l=none:=by
 cases h:ae.empty.get l with
 |none=>rfl
 |some b=>exact absurd (ae.bm h) (Nat.not_lt_zero l)
theorem QT(w:World):Rel (λ_=>Z) ae.empty w:=by
 refine⟨λl ro esz els e=> ?_,λl es e=> ?_,λl t esz els e=> ?_,λl a loc b _ _ _ h=> ?_,λl s esz els e=> ?_⟩
 ·grind[ae.vf]
 ·grind[ae.vf]
 ·grind[ae.vf]
 ·cases h
 ·rw[ae.vf]at e;cases e
def adj(b:Nat):¬e5 (λ_=>Z) ae.empty b:=by
 rintro⟨l,loc,_,h,_⟩;cases h
def Wi{g:Nat}{b:Bool}{H0:ae}(h:hE (λ_=>Z) P g [] ae.empty (.bool b) H0)(H:ae):hE E P g [] H (.bool b) H:=by
 intro ρ w xs f aB i aL next j
 cases i;refine h (λ_=>Z) w [] (QT w) ⟨λ_ _ _=>rfl,Env.le_refl _⟩ .nil (Nat.zero_le _) next λx e k aF a=> ?_
 cases aF;have d:∀b,b<w.heap.size->e.heap[b]? =w.heap[b]? :=λb c=>a.frame b c (adj b)
 exact j _ e ρ (.bool b) ⟨ρ.le_refl,aa,λ_ _=>rfl,f.FH a.size d,a.os,a.tape,a.output,a.size,λb c _=>d b c,λ_ h=> .inl h,λ_ _ _ h=>h,.same λ_ _ _ _ h=>h⟩
noncomputable def pI(P:Program)(aD:ao)(g:Nat)(b:Bool):ao:=λf args H=>if f=g/\args=[]then A (.bool b,H)else aK P aD f args H
theorem XG(c:kD P)(a:e_ E P aD){g:Nat}{b:Bool}(h:∀H,hE E P g [] H (.bool b) H):e_ E P (pI P aD g b):=by
 refine Wj λf args H v H' e=> ?_
 unfold pI at e;split at e
 ·grind
 ·exactλρ w xs=>XJ c a f args H v H' e ρ w xs
theorem XH{g:Nat}{b:Bool}(H:ae):pI P aD g b g [] H=A (.bool b,H):=by simp[pI]
def nG{f g:Nat}{b:Bool}{args:List af}{H:ae}(h:f≠g):pI P aD g b f args H=aK P aD f args H:=by simp[pI,h]
end
end Go.cv
namespace Go.Proofs.YtmhhnnklfcbgfaaGreat
open Go.cv
section
def acZ(fs:List Func):Bool:=fs.all λfn=> !(fn.name== "runtime.NumGoroutine")
def V8(fs:List Func):Bool:=fs.all λfn=>match fn.body with
 |some c=>m4 c
 |none=>J
def adX{P:Program}(ah:P.follows .mixedOrders=J)(ai:acZ P.funcs.toList=J)(ay:V8 P.funcs.toList=J):kD P:=by
 refine⟨ah,λfn a=> ?_,λf fn c aB aA=> ?_⟩
 ·have:=List.all_eq_true.1 ai fn (Array.mem_toList_iff.2 a);simpa using this
 ·have:=List.all_eq_true.1 ay fn (Array.mem_toList_iff.2 (Array.mem_of_getElem? aB));simpa [aA]using this
set_option maxRecDepth 1000000
def lC:kD P:=adX aG aG aG
end
end Go.Proofs.YtmhhnnklfcbgfaaGreat
namespace Go.cv
open Go.ChangeShapes Go.WideShapes Go.ChangeAt Go.RowKit
def Ep(E:Env)(P:Program)(f:Nat)(args:List Value)(W:World):Prop:=∃(ρ:Env) (H:ae) (a:List af) (H':ae),Rel ρ H W/\(∀l,¬H.rw l)/\(∀l,H.next<=l->ρ l=Z)/\E.le ρ/\H.next<=H'.next/\bZ ρ a args/\hE E P f a H (.bool J) H'
def abJ{E:Env}{P:Program}{f:Nat}{fn:Func}{c:Code}{args:List Value}{W:World}(n:kD P)(g:P.funcs[f]? =A fn)(aA:fn.body=A c)(h:Ep E P f args W):
  Calls P f args.toArray W λe d=>e= .returned (.bool J)/\Below W.heap.size W d:=by
 obtain⟨ρ,H,q,H',ah,ai,ay,m,aM,i,j⟩:=h;have p:∀b,¬e5 ρ H b:=by rintro b ⟨l,loc,ar,_⟩;grind
 have t:=j ρ W args ah ⟨λl ar _=>ay l ar,m⟩ i aM (λx d=>x= .bool J/\Below W.heap.size W d) (λx d u aF a=>by
  cases aF;exact⟨rfl,a.os,a.tape,a.output,a.size,λk o=>a.frame k o (p k)⟩)
 have r:(fn.name== "runtime.NumGoroutine")=false:=n.names fn (Array.mem_of_getElem? g);have s:(callFunc f args.toArray).run P W= .ok (.enter f args.toArray) W:=by
  unfold callFunc;simp[g,aA];grind
 grind[pt]
def TK{H:Type}{enc:TypeId×Value->H}{P:Program}{W c:World}(ar:laidOutB P=J)(e:Below W.heap.size W c):∀{ts:List TypeId} {ak:List Value} {a:List (DataW H)} {dt:List MemPlace},(∀t∈ts,P.readableRec t=J/\t<P.types.size)->
  DataW.TrodAll enc P W 0 (λ_=>J) J ts ak a dt->∃f,DataW.TrodAll enc P c 0 (λb=>decide (b<W.heap.size)) J ts ak a f
 |[],ak,a,dt,_,h=>by
  obtain⟨rfl,rfl,rfl⟩:=trodAll_nil h;exact⟨[],trodAll_mk0⟩
 |t::ts,ak,a,dt,a_,h=>by
  obtain⟨v,j,d,i,p,q,rfl,rfl,rfl,ah,ai⟩:=trodAll_cons h;obtain⟨f,ay⟩:=TK ar e al ai;have g:∀x∈p,x.block<W.heap.size:=by obtain⟨m,hm⟩:=ah;exact DataW.trod_lt m _ _ _ hm
  exact⟨_,trodAll_cons_mk (Below.trod ar (a_ t (List.mem_cons_self ..)).1 (a_ t (List.mem_cons_self ..)).2 ah e g) ay⟩
theorem zm{a:Addr}(h:a.spot=Z)(j:Nat):a.add j=⟨a.block,a.off+j,Z⟩:=by
 obtain⟨b,o,s⟩:=a;grind[nB]
structure Seen(ρ:Env)(H:ae)(W:World):Prop where
 rel:Rel ρ H W
 ro:∀l,¬H.rw l
 top:∀l,H.next<=l->ρ l=none
def Seen.empty(W:World):Seen (λ_=>Z) ae.empty W:=
 have a:∀l,¬ae.empty.rw l:=λl ar=>by
  rcases ar with⟨e,s,h⟩|⟨es,h⟩|⟨t,e,s,h⟩<;>rw[ae.vf]at h<;>cases h
 ⟨QT W,a,λ_ _=>rfl⟩
def Seen.oO{ρ:Env}{H:ae}{W:World}(h:Seen ρ H W)(loc:Go.cv.Loc):ρ.le (ρ.dF H.next loc):=λl a e=>by
 have:l≠H.next:=by rintro rfl;rw[h.top _ aa]at e;cases e
 grind[Env.dF]
def gW.mono{ρ a:Env}(hle:ρ.le a){w:World}{loc:Go.cv.Loc}{ro:Bool}{esz:Nat}{els:List (List af)}(h:gW ρ w loc ro esz els):gW a w loc ro esz els:=by
 obtain⟨ah,c,t,b,ai,ay,aM⟩:=h;refine⟨ah,c,t,b,ai,ay,λi e he=>⟨(aM i e he).1,λj v d=> ?_⟩⟩;obtain⟨f,x,g,k⟩:=(aM i e he).2 j v d;exact⟨f,x,g,k.mono hle⟩
theorem Seen.push{ρ:Env}{H:ae}{W:World}(h:Seen ρ H W){loc:Go.cv.Loc}{esz:Nat}{els:List (List af)}(au:gW ρ W loc J esz els):Seen (ρ.dF H.next loc) (H.push (.row J esz els)) W:=by
 have hle:=h.oO loc;have a:∀l,¬(H.push (.row J esz els)).rw l:=by
  rintro l (⟨e,s,aR⟩|⟨es,aR⟩|⟨t,e,s,aR⟩)
  ·rw[ae.j2]at aR;split at aR
   ·grind
   ·exact h.ro l (.inl ⟨e,s,aR⟩)
  ·rw[ae.j2]at aR;split at aR
   ·grind
   ·exact h.ro l (.inr (.inl ⟨es,aR⟩))
  ·rw[ae.j2]at aR;split at aR
   ·grind
   ·exact h.ro l (.inr (.inr ⟨t,e,s,aR⟩))
 refine⟨⟨λl ro e s aR=> ?_,λl es aR=> ?_,λl t e s aR=>absurd (.inr (.inr ⟨t,e,s,aR⟩)) (a l),al,λl s esz els aR=>(h.rel.old _ _ _ _ (ae.rB rfl l s esz els aR)).step hle aa (λ_ _ _=>rfl) λb ⟨l,_,ar,_⟩=>absurd ar (a l)⟩,a,λl ar=> ?_⟩
 ·rw[ae.j2]at aR;split at aR
  ·rename_i ar;cases aR;exact⟨loc,by simp[Env.dF,ar],au.mono hle⟩
  ·obtain⟨c,ah,ai⟩:=h.rel.row l ro e s aR;exact⟨c,hle _ _ ah,ai.mono hle⟩
 ·exact absurd (.inr (.inl ⟨es,aR⟩)) (a l)
 ·simp only[ae.fW]at ar;have:l≠H.next:=aa
  simp only[Env.dF,if_neg this];exact h.top l aa
def Seen.blank{ρ:Env}{H:ae}{W:World}(h:Seen ρ H W)(loc:Go.cv.Loc):Seen (ρ.dF H.next loc) (H.push .dead) W:=by
 have hle:=h.oO loc;have a:∀l,¬(H.push .dead).rw l:=by
  rintro l (⟨e,s,aR⟩|⟨es,aR⟩|⟨t,e,s,aR⟩)
  ·rw[ae.j2]at aR;split at aR
   ·grind
   ·exact h.ro l (.inl ⟨e,s,aR⟩)
  ·rw[ae.j2]at aR;split at aR
   ·grind
   ·exact h.ro l (.inr (.inl ⟨es,aR⟩))
  ·rw[ae.j2]at aR;split at aR
   ·grind
   ·exact h.ro l (.inr (.inr ⟨t,e,s,aR⟩))
 refine⟨⟨λl ro e s aR=> ?_,λl es aR=> ?_,λl t e s aR=>absurd (.inr (.inr ⟨t,e,s,aR⟩)) (a l),al,λl s esz els aR=>(h.rel.old _ _ _ _ (ae.rB rfl l s esz els aR)).step hle aa (λ_ _ _=>rfl) λb ⟨l,_,ar,_⟩=>absurd ar (a l)⟩,a,λl ar=> ?_⟩
 ·rw[ae.j2]at aR;split at aR
  ·grind
  ·obtain⟨c,ah,ai⟩:=h.rel.row l ro e s aR;exact⟨c,hle _ _ ah,ai.mono hle⟩
 ·exact absurd (.inr (.inl ⟨es,aR⟩)) (a l)
 ·simp only[ae.fW]at ar;have:l≠H.next:=aa
  simp only[Env.dF,if_neg this];exact h.top l aa
def gA(P:Program)(t i:Nat):Option (Nat×Nat):=match P.underlying t with
 |some (.struct fs)=>(fs[i]?).map λf=>(f.type,f.offset)
 |_=>Z
theorem hU{H:Type}{enc:TypeId×Value->H}{P:Program}{w:World}{base:Nat}{sp:Nat->Bool}{held:Bool}{n t:Nat}{cs:List Value}{x:DataW H×List MemPlace}{i ty off:Nat}
  (aB:gA P t i=A (ty,off)) (h:DataW.trod enc P w base sp held n t cs=A x):∃m y,DataW.trod enc P w base sp held m ty ((cs.drop off).take (P.cellsOf ty))=A y:=by
 unfold gA at aB;split at aB
 ·rename_i fs a_;obtain⟨f,ah,ai⟩:=Option.map_eq_some_iff.1 aB;simp only[dV]at ai;obtain⟨rfl,rfl⟩:=ai;obtain⟨xs,m,_,_,_,ar,aF⟩:=DataW.trod_struct a_ h;grind
 grind
def sh{H:Type}{enc:TypeId×Value->H}{P:Program}{w:World}{base:Nat}{sp:Nat->Bool}{held:Bool}{n t:Nat}{cs:List Value}{x:DataW H×List MemPlace}{i ty off:Nat}
  (aB:gA P t i=A (ty,off)) (h:DataW.trod enc P w base sp held n t cs=A x):cs.length=P.cellsOf t:=by
 unfold gA at aB;split at aB
 ·rename_i fs a_;obtain⟨xs,m,_,_,ar,_⟩:=DataW.trod_struct a_ h;omega
 grind
theorem pd{H:Type}{enc:TypeId×Value->H}{P:Program}{w:World}{base:Nat}{sp:Nat->Bool}{held:Bool}{n t:Nat}{v:Value}{x:DataW H×List MemPlace}{k:IntKind}
  (a_:P.underlying t=A (.int k)) (h:DataW.trod enc P w base sp held n t [v]=A x):∃z,v= .int k z:=by
 grind[DataW.trod_int]
def TL{H:Type}{enc:TypeId×Value->H}{P:Program}{w:World}{base:Nat}{sp:Nat->Bool}{held:Bool}{n t:Nat}{v:Value}{x:DataW H×List MemPlace}
  (a_:P.underlying t=A .string) (h:DataW.trod enc P w base sp held n t [v]=A x):∃s:List UInt8,v= .string ⟨s.toArray⟩:=by
 obtain⟨s,ah,_⟩:=DataW.trod_string a_ h;simp only[List.cons.injEq,and_true]at ah;exact⟨s.data.toList,by rw[ah]⟩
def adA{H:Type}{enc:TypeId×Value->H}{P:Program}{w:World}{fuel t e:Nat}{cs:List Value}{x:DataW H×List MemPlace}(a_:P.underlying t=A (.slice e))(h:DataW.trod enc P w 0 (λ_=>J) J fuel t cs=A x):
  cs=[.slice Z 0 0]\/∃a len cap q,fuel=q+1/\cs=[.slice (A a) len cap]/\len<=cap/\∀i,i<cap->∃b,w.cells? 0 (a.add (i*P.cellsOf e)) (P.cellsOf e)=A b/\∃z,DataW.trod enc P w 0 (λ_=>J) J q e b=A z:=by
 rcases DataW.trod_slice a_ h with⟨d,_⟩|⟨a,len,cap,elems,rest,n,aB,rfl,_,_,ar,_,hlen,f,c,_⟩
 ·grind
 ·refine .inr ⟨a,len,cap,n,aB,rfl,ar,λi aP=> ?_⟩;obtain⟨au,k⟩:=c rfl;have key:∃z,(w.cells? 0 (a.add (i*P.cellsOf e)) (P.cellsOf e)).bind (DataW.trod enc P w 0 (λ_=>J) J n e)=A z:=by
   by_cases g:i<len
   ·grind
   ·have j:i-len<cap-len:=aa;grind
  grind[e4]
end Go.cv
namespace Go.Proofs.YtmhhnnklfcbgfaaGreat
open Go.cv
def uZ(place:Nat->Option (Nat×Nat))(cells:List af):List (Nat×List af)->Option (List af)
 |[]=>A cells
 |(i,v)::rest=>match place i with
  |none=>Z
  |some (off,size)=>if v.length=size/\off+v.length<=cells.length then uZ place (gl cells off v) rest else Z
def Ev(P:Program)(t:TypeId)(parts:List (Nat×List af)):Option af:=
 match gb P t,P.underlying t with
 |some z,A (.struct fs)=>(match sH P fs.toList with|some pl=>(uZ (pl[·]?) z.cells parts).map .agg|none=>Z)
 |some z,A (.array _ e)=>(match cM P e with|some n=>(uZ (λi=>A (i*n,n)) z.cells parts).map .agg|none=>Z)
 |_,_=>Z
def Ko(place:Nat->Option (Nat×Nat)):∀(parts:List (Nat×af)) (cells:List af),px place cells parts=uZ place cells (parts.map λp=>(p.1,p.2.cells))
 |[],_=>rfl
 |(i,v)::rest,cells=>by
  show(match place i with
   |none=>Z
   |some (off,size)=>if v.cells.length=size/\off+v.cells.length<=cells.length then px place (gl cells off v.cells) rest else Z)=(match place i with
   |none=>Z
   |some (off,size)=>if v.cells.length=size/\off+v.cells.length<=cells.length then uZ place (gl cells off v.cells) (rest.map λp=>(p.1,p.2.cells))else Z)
  cases place i with
  |none=>rfl
  |some p=>simp only[Ko place rest]
def UE(Q:Program)(t:TypeId)(parts:List (Nat×af)):ey Q t parts=Ev Q t (parts.map λp=>(p.1,p.2.cells)):=by
 unfold ey Ev;simp only[Ko];generalize gb Q t=z;generalize Q.underlying t=u;cases z with
 |none=>rfl
 |some z=>cases u with
  |none=>rfl
  |some d=>cases d<;>rfl
def ik(t:TypeId)(parts:List (Nat×af)):ey P t parts=Ev P t (parts.map λp=>(p.1,p.2.cells)):=UE P t parts
def qG:ev P 3=A false:=aG
def D_:cM P 3=A 1:=aG
def D7:ev P 4=A false:=aG
def TM:cM P 4=A 1:=aG
def XA{c:Bool}(a b:Bool):bx P .eql 4 c (.bool a) (.bool b)=A (.bool (a==b)):=aG
def ac0{c:Bool}(a b:Bool):bx P .neq 4 c (.bool a) (.bool b)=A (.bool (!(a==b))):=aG
def ajR:ev P 9=A false:=aG
def akw:cM P 9=A 1:=aG
def acq{H:ae}{s:List UInt8}:bD P H .len [9] [.str s]=A (.int .i64 s.length):=aG
def ajD:ev P 22=A false:=aG
def akb:cM P 22=A 1:=aG
def aay(l i n:Nat)(cap:Option Nat)(k:Int):ct P 22 (.az l i n 2 cap) (.int .i64 k)=if 2=2/\0<=k/\k<n then A (.ptr l (i+k.toNat) 0)else none:=aG
def aax{l i n:Nat}{cap:Option Nat}{k:Int}(a:0<=k)(ah:k<n):ct P 22 (.az l i n 2 cap) (.int .i64 k)=A (.ptr l (i+k.toNat) 0):=by rw[aay,if_pos ⟨rfl,a,ah⟩]
def ab5{H:ae}{l i n e:Nat}{cap:Option Nat}:bD P H .len [22] [.az l i n e cap]=A (.int .i64 n):=aG
def ab6{H:ae}:bD P H .len [22] [.aq]=A (.int .i64 0):=aG
def ajE:ev P 23=A false:=aG
def akc:cM P 23=A 1:=aG
def aaA(l i n:Nat)(cap:Option Nat)(k:Int):ct P 23 (.az l i n 3 cap) (.int .i64 k)=if 3=3/\0<=k/\k<n then A (.ptr l (i+k.toNat) 0)else none:=aG
def aaz{l i n:Nat}{cap:Option Nat}{k:Int}(a:0<=k)(ah:k<n):ct P 23 (.az l i n 3 cap) (.int .i64 k)=A (.ptr l (i+k.toNat) 0):=by rw[aaA,if_pos ⟨rfl,a,ah⟩]
def ab7{H:ae}{l i n e:Nat}{cap:Option Nat}:bD P H .len [23] [.az l i n e cap]=A (.int .i64 n):=aG
def ab8{H:ae}:bD P H .len [23] [.aq]=A (.int .i64 0):=aG
def ajF:ev P 24=A false:=aG
def akd:cM P 24=A 1:=aG
def aaC(l i n:Nat)(cap:Option Nat)(k:Int):ct P 24 (.az l i n 7 cap) (.int .i64 k)=if 7=7/\0<=k/\k<n then A (.ptr l (i+k.toNat) 0)else none:=aG
def aaB{l i n:Nat}{cap:Option Nat}{k:Int}(a:0<=k)(ah:k<n):ct P 24 (.az l i n 7 cap) (.int .i64 k)=A (.ptr l (i+k.toNat) 0):=by rw[aaC,if_pos ⟨rfl,a,ah⟩]
def ab9{H:ae}{l i n e:Nat}{cap:Option Nat}:bD P H .len [24] [.az l i n e cap]=A (.int .i64 n):=aG
def acb{H:ae}:bD P H .len [24] [.aq]=A (.int .i64 0):=aG
def ajJ:ev P 25=A false:=aG
def akh:cM P 25=A 1:=aG
def aaK(l i n:Nat)(cap:Option Nat)(k:Int):ct P 25 (.az l i n 4 cap) (.int .i64 k)=if 4=4/\0<=k/\k<n then A (.ptr l (i+k.toNat) 0)else none:=aG
def aaJ{l i n:Nat}{cap:Option Nat}{k:Int}(a:0<=k)(ah:k<n):ct P 25 (.az l i n 4 cap) (.int .i64 k)=A (.ptr l (i+k.toNat) 0):=by rw[aaK,if_pos ⟨rfl,a,ah⟩]
def acd{H:ae}{l i n e:Nat}{cap:Option Nat}:bD P H .len [25] [.az l i n e cap]=A (.int .i64 n):=aG
def ace{H:ae}:bD P H .len [25] [.aq]=A (.int .i64 0):=aG
def ajL:ev P 27=A true:=aG
def akj:cM P 27=A 5:=aG
def Yt(l i c:Nat):bP P 27 (.ptr l i c) 0=A (.ptr l i (c+0)):=aG
def Yu(l i c:Nat):bP P 27 (.ptr l i c) 1=A (.ptr l i (c+1)):=aG
def Yv(l i c:Nat):bP P 27 (.ptr l i c) 2=A (.ptr l i (c+2)):=aG
def Yw(l i c:Nat):bP P 27 (.ptr l i c) 3=A (.ptr l i (c+3)):=aG
def Yx(l i c:Nat):bP P 27 (.ptr l i c) 4=A (.ptr l i (c+4)):=aG
def sg:ev P 30=A false:=aG
def akn:cM P 30=A 1:=aG
def aaO(l i n:Nat)(cap:Option Nat)(k:Int):ct P 30 (.az l i n 1 cap) (.int .i64 k)=if 1=1/\0<=k/\k<n then A (.ptr l (i+k.toNat) 0)else none:=aG
def aaN{l i n:Nat}{cap:Option Nat}{k:Int}(a:0<=k)(ah:k<n):ct P 30 (.az l i n 1 cap) (.int .i64 k)=A (.ptr l (i+k.toNat) 0):=by rw[aaO,if_pos ⟨rfl,a,ah⟩]
def ach{H:ae}{l i n e:Nat}{cap:Option Nat}:bD P H .len [30] [.az l i n e cap]=A (.int .i64 n):=aG
def aci{H:ae}:bD P H .len [30] [.aq]=A (.int .i64 0):=aG
def Ts:ev P 31=A false:=aG
def ako:cM P 31=A 1:=aG
def aaQ(l i n:Nat)(cap:Option Nat)(k:Int):ct P 31 (.az l i n 1 cap) (.int .i64 k)=if 1=1/\0<=k/\k<n then A (.ptr l (i+k.toNat) 0)else none:=aG
def aaP{l i n:Nat}{cap:Option Nat}{k:Int}(a:0<=k)(ah:k<n):ct P 31 (.az l i n 1 cap) (.int .i64 k)=A (.ptr l (i+k.toNat) 0):=by rw[aaQ,if_pos ⟨rfl,a,ah⟩]
def acj{H:ae}{l i n e:Nat}{cap:Option Nat}:bD P H .len [31] [.az l i n e cap]=A (.int .i64 n):=aG
def ack{H:ae}:bD P H .len [31] [.aq]=A (.int .i64 0):=aG
def ajO:ev P 33=A true:=aG
def akp:cM P 33=A 4:=aG
def YG(l i c:Nat):bP P 33 (.ptr l i c) 0=A (.ptr l i (c+0)):=aG
def YH(l i c:Nat):bP P 33 (.ptr l i c) 1=A (.ptr l i (c+1)):=aG
def YI(l i c:Nat):bP P 33 (.ptr l i c) 2=A (.ptr l i (c+2)):=aG
def YJ(l i c:Nat):bP P 33 (.ptr l i c) 3=A (.ptr l i (c+3)):=aG
def uG:ev P 46=A true:=aG
def akq:cM P 46=A 3:=aG
def YK(l i c:Nat):bP P 46 (.ptr l i c) 0=A (.ptr l i (c+0)):=aG
def YL(l i c:Nat):bP P 46 (.ptr l i c) 1=A (.ptr l i (c+1)):=aG
def YM(l i c:Nat):bP P 46 (.ptr l i c) 2=A (.ptr l i (c+2)):=aG
def Zz(a0 b a:af):pw P 46 (.agg [a0,b,a]) 2=A a:=aG
def ajP:ev P 47=A false:=aG
def akr:cM P 47=A 1:=aG
def aaS(l i n:Nat)(cap:Option Nat)(k:Int):ct P 47 (.az l i n 6 cap) (.int .i64 k)=if 6=6/\0<=k/\k<n then A (.ptr l (i+k.toNat) 0)else none:=aG
def aaR{l i n:Nat}{cap:Option Nat}{k:Int}(a:0<=k)(ah:k<n):ct P 47 (.az l i n 6 cap) (.int .i64 k)=A (.ptr l (i+k.toNat) 0):=by rw[aaS,if_pos ⟨rfl,a,ah⟩]
def acm{H:ae}{l i n e:Nat}{cap:Option Nat}:bD P H .len [47] [.az l i n e cap]=A (.int .i64 n):=aG
def acn{H:ae}:bD P H .len [47] [.aq]=A (.int .i64 0):=aG
def Tt:ev P 49=A true:=aG
def aks:cM P 49=A 7:=aG
def YN(l i c:Nat):bP P 49 (.ptr l i c) 0=A (.ptr l i (c+0)):=aG
def YO(l i c:Nat):bP P 49 (.ptr l i c) 1=A (.ptr l i (c+1)):=aG
def YP(l i c:Nat):bP P 49 (.ptr l i c) 2=A (.ptr l i (c+2)):=aG
def YQ(l i c:Nat):bP P 49 (.ptr l i c) 3=A (.ptr l i (c+3)):=aG
def YR(l i c:Nat):bP P 49 (.ptr l i c) 4=A (.ptr l i (c+6)):=aG
def ajQ:ev P 53=A false:=aG
def akt:cM P 53=A 1:=aG
def aaU(l i n:Nat)(cap:Option Nat)(k:Int):ct P 53 (.az l i n 4 cap) (.int .i64 k)=if 4=4/\0<=k/\k<n then A (.ptr l (i+k.toNat) 0)else none:=aG
def aaT{l i n:Nat}{cap:Option Nat}{k:Int}(a:0<=k)(ah:k<n):ct P 53 (.az l i n 4 cap) (.int .i64 k)=A (.ptr l (i+k.toNat) 0):=by rw[aaU,if_pos ⟨rfl,a,ah⟩]
def aco{H:ae}{l i n e:Nat}{cap:Option Nat}:bD P H .len [53] [.az l i n e cap]=A (.int .i64 n):=aG
def acp{H:ae}:bD P H .len [53] [.aq]=A (.int .i64 0):=aG
def Tu:ev P 56=A true:=aG
def aku:cM P 56=A 4:=aG
def YS(l i c:Nat):bP P 56 (.ptr l i c) 0=A (.ptr l i (c+0)):=aG
def YT(l i c:Nat):bP P 56 (.ptr l i c) 1=A (.ptr l i (c+1)):=aG
def YU(l i c:Nat):bP P 56 (.ptr l i c) 2=A (.ptr l i (c+2)):=aG
def YV(l i c:Nat):bP P 56 (.ptr l i c) 3=A (.ptr l i (c+3)):=aG
def YW(l i c:Nat):bP P 76 (.ptr l i c) 0=A (.ptr l i (c+0)):=aG
def YX(l i c:Nat):bP P 76 (.ptr l i c) 1=A (.ptr l i (c+5)):=aG
def YY(l i c:Nat):bP P 76 (.ptr l i c) 2=A (.ptr l i (c+9)):=aG
def Y0(l i c:Nat):bP P 76 (.ptr l i c) 3=A (.ptr l i (c+10)):=aG
def Y1(l i c:Nat):bP P 78 (.ptr l i c) 0=A (.ptr l i (c+0)):=aG
def Y2(l i c:Nat):bP P 78 (.ptr l i c) 1=A (.ptr l i (c+5)):=aG
def Y3(l i c:Nat):bP P 78 (.ptr l i c) 2=A (.ptr l i (c+9)):=aG
def Y4(l i c:Nat):bP P 78 (.ptr l i c) 3=A (.ptr l i (c+10)):=aG
def Y5(l i c:Nat):bP P 78 (.ptr l i c) 4=A (.ptr l i (c+11)):=aG
def Y6(l i c:Nat):bP P 78 (.ptr l i c) 5=A (.ptr l i (c+12)):=aG
def Tv:ev P 89=A true:=aG
def akv:cM P 89=A 6:=aG
def Y7(l i c:Nat):bP P 89 (.ptr l i c) 0=A (.ptr l i (c+0)):=aG
def Y8(l i c:Nat):bP P 89 (.ptr l i c) 1=A (.ptr l i (c+1)):=aG
def Y9(l i c:Nat):bP P 89 (.ptr l i c) 2=A (.ptr l i (c+2)):=aG
def Y_(l i c:Nat):bP P 89 (.ptr l i c) 3=A (.ptr l i (c+3)):=aG
def Za(l i c:Nat):bP P 89 (.ptr l i c) 4=A (.ptr l i (c+4)):=aG
def Zb(l i c:Nat):bP P 89 (.ptr l i c) 5=A (.ptr l i (c+5)):=aG
def ajS:ev P 93=A false:=aG
def akx:cM P 93=A 1:=aG
def aaW(l i n:Nat)(cap:Option Nat)(k:Int):ct P 93 (.az l i n 4 cap) (.int .i64 k)=if 4=4/\0<=k/\k<n then A (.ptr l (i+k.toNat) 0)else none:=aG
def aaV{l i n:Nat}{cap:Option Nat}{k:Int}(a:0<=k)(ah:k<n):ct P 93 (.az l i n 4 cap) (.int .i64 k)=A (.ptr l (i+k.toNat) 0):=by rw[aaW,if_pos ⟨rfl,a,ah⟩]
def acr{H:ae}{l i n e:Nat}{cap:Option Nat}:bD P H .len [93] [.az l i n e cap]=A (.int .i64 n):=aG
def acs{H:ae}:bD P H .len [93] [.aq]=A (.int .i64 0):=aG
def ajT:ev P 95=A true:=aG
def aky:cM P 95=A 2:=aG
def Zc(l i c:Nat):bP P 95 (.ptr l i c) 1=A (.ptr l i (c+1)):=aG
def ajU:ev P 98=A true:=aG
def akz:cM P 98=A 4:=aG
def Zd(l i c:Nat):bP P 98 (.ptr l i c) 1=A (.ptr l i (c+1)):=aG
def ajz:ev P 100=A true:=aG
def aj6:cM P 100=A 4:=aG
def X7(l i c:Nat):bP P 100 (.ptr l i c) 0=A (.ptr l i (c+0)):=aG
def X8(l i c:Nat):bP P 100 (.ptr l i c) 1=A (.ptr l i (c+1)):=aG
def JD:ev P 104=A false:=aG
def aj7:cM P 104=A 1:=aG
def aao(l i n:Nat)(cap:Option Nat)(k:Int):ct P 104 (.az l i n 1 cap) (.int .i64 k)=if 1=1/\0<=k/\k<n then A (.ptr l (i+k.toNat) 0)else none:=aG
def aan{l i n:Nat}{cap:Option Nat}{k:Int}(a:0<=k)(ah:k<n):ct P 104 (.az l i n 1 cap) (.int .i64 k)=A (.ptr l (i+k.toNat) 0):=by rw[aao,if_pos ⟨rfl,a,ah⟩]
def abV{H:ae}{l i n e:Nat}{cap:Option Nat}:bD P H .len [104] [.az l i n e cap]=A (.int .i64 n):=aG
def abW{H:ae}:bD P H .len [104] [.aq]=A (.int .i64 0):=aG
def ajA:ev P 152=A false:=aG
def aj8:cM P 152=A 1:=aG
def aaq(l i n:Nat)(cap:Option Nat)(k:Int):ct P 152 (.az l i n 1 cap) (.int .i64 k)=if 1=1/\0<=k/\k<n then A (.ptr l (i+k.toNat) 0)else none:=aG
def aap{l i n:Nat}{cap:Option Nat}{k:Int}(a:0<=k)(ah:k<n):ct P 152 (.az l i n 1 cap) (.int .i64 k)=A (.ptr l (i+k.toNat) 0):=by rw[aaq,if_pos ⟨rfl,a,ah⟩]
def abX{H:ae}{l i n e:Nat}{cap:Option Nat}:bD P H .len [152] [.az l i n e cap]=A (.int .i64 n):=aG
def abY{H:ae}:bD P H .len [152] [.aq]=A (.int .i64 0):=aG
def ajB:ev P 154=A true:=aG
def aj9:cM P 154=A 2:=aG
def X9(l i c:Nat):bP P 154 (.ptr l i c) 0=A (.ptr l i (c+0)):=aG
def X_(l i c:Nat):bP P 154 (.ptr l i c) 1=A (.ptr l i (c+1)):=aG
def Ya(l i c:Nat):bP P 196 (.ptr l i c) 0=A (.ptr l i (c+0)):=aG
def Yb(l i c:Nat):bP P 196 (.ptr l i c) 1=A (.ptr l i (c+7)):=aG
def Yc(l i c:Nat):bP P 196 (.ptr l i c) 2=A (.ptr l i (c+8)):=aG
def Yd(l i c:Nat):bP P 196 (.ptr l i c) 3=A (.ptr l i (c+9)):=aG
def Ye(l i c:Nat):bP P 196 (.ptr l i c) 4=A (.ptr l i (c+10)):=aG
def Yf(l i c:Nat):bP P 196 (.ptr l i c) 5=A (.ptr l i (c+11)):=aG
def aas(l i n:Nat)(cap:Option Nat)(k:Int):ct P 198 (.az l i n 1 cap) (.int .i64 k)=if 1=1/\0<=k/\k<n then A (.ptr l (i+k.toNat) 0)else none:=aG
def aar{l i n:Nat}{cap:Option Nat}{k:Int}(a:0<=k)(ah:k<n):ct P 198 (.az l i n 1 cap) (.int .i64 k)=A (.ptr l (i+k.toNat) 0):=by rw[aas,if_pos ⟨rfl,a,ah⟩]
def abZ{H:ae}{l i n e:Nat}{cap:Option Nat}:bD P H .len [198] [.az l i n e cap]=A (.int .i64 n):=aG
def ab0{H:ae}:bD P H .len [198] [.aq]=A (.int .i64 0):=aG
def Tq:ev P 203=A false:=aG
def aj_:cM P 203=A 1:=aG
def aau(l i n:Nat)(cap:Option Nat)(k:Int):ct P 203 (.az l i n 1 cap) (.int .i64 k)=if 1=1/\0<=k/\k<n then A (.ptr l (i+k.toNat) 0)else none:=aG
def aat{l i n:Nat}{cap:Option Nat}{k:Int}(a:0<=k)(ah:k<n):ct P 203 (.az l i n 1 cap) (.int .i64 k)=A (.ptr l (i+k.toNat) 0):=by rw[aau,if_pos ⟨rfl,a,ah⟩]
def ab1{H:ae}{l i n e:Nat}{cap:Option Nat}:bD P H .len [203] [.az l i n e cap]=A (.int .i64 n):=aG
def ab2{H:ae}:bD P H .len [203] [.aq]=A (.int .i64 0):=aG
def ajC:ev P 204=A false:=aG
def aka:cM P 204=A 1:=aG
def aaw(l i n:Nat)(cap:Option Nat)(k:Int):ct P 204 (.az l i n 1 cap) (.int .i64 k)=if 1=1/\0<=k/\k<n then A (.ptr l (i+k.toNat) 0)else none:=aG
def aav{l i n:Nat}{cap:Option Nat}{k:Int}(a:0<=k)(ah:k<n):ct P 204 (.az l i n 1 cap) (.int .i64 k)=A (.ptr l (i+k.toNat) 0):=by rw[aaw,if_pos ⟨rfl,a,ah⟩]
def ab3{H:ae}{l i n e:Nat}{cap:Option Nat}:bD P H .len [204] [.az l i n e cap]=A (.int .i64 n):=aG
def ab4{H:ae}:bD P H .len [204] [.aq]=A (.int .i64 0):=aG
def Yg(l i c:Nat):bP P 206 (.ptr l i c) 0=A (.ptr l i (c+0)):=aG
def Yh(l i c:Nat):bP P 206 (.ptr l i c) 1=A (.ptr l i (c+1)):=aG
def Yi(l i c:Nat):bP P 206 (.ptr l i c) 2=A (.ptr l i (c+2)):=aG
def ajG:ev P 243=A false:=aG
def ake:cM P 243=A 1:=aG
def aaE(l i n:Nat)(cap:Option Nat)(k:Int):ct P 243 (.az l i n 1 cap) (.int .i64 k)=if 1=1/\0<=k/\k<n then A (.ptr l (i+k.toNat) 0)else none:=aG
def aaD{l i n:Nat}{cap:Option Nat}{k:Int}(a:0<=k)(ah:k<n):ct P 243 (.az l i n 1 cap) (.int .i64 k)=A (.ptr l (i+k.toNat) 0):=by rw[aaE,if_pos ⟨rfl,a,ah⟩]
def ajH:ev P 244=A false:=aG
def akf:cM P 244=A 1:=aG
def aaG(l i n:Nat)(cap:Option Nat)(k:Int):ct P 244 (.az l i n 1 cap) (.int .i64 k)=if 1=1/\0<=k/\k<n then A (.ptr l (i+k.toNat) 0)else none:=aG
def aaF{l i n:Nat}{cap:Option Nat}{k:Int}(a:0<=k)(ah:k<n):ct P 244 (.az l i n 1 cap) (.int .i64 k)=A (.ptr l (i+k.toNat) 0):=by rw[aaG,if_pos ⟨rfl,a,ah⟩]
def ajI:ev P 246=A false:=aG
def akg:cM P 246=A 1:=aG
def aaI(l i n:Nat)(cap:Option Nat)(k:Int):ct P 246 (.az l i n 1 cap) (.int .i64 k)=if 1=1/\0<=k/\k<n then A (.ptr l (i+k.toNat) 0)else none:=aG
def aaH{l i n:Nat}{cap:Option Nat}{k:Int}(a:0<=k)(ah:k<n):ct P 246 (.az l i n 1 cap) (.int .i64 k)=A (.ptr l (i+k.toNat) 0):=by rw[aaI,if_pos ⟨rfl,a,ah⟩]
def ab_{H:ae}{l i n e:Nat}{cap:Option Nat}:bD P H .len [246] [.az l i n e cap]=A (.int .i64 n):=aG
def aca{H:ae}:bD P H .len [246] [.aq]=A (.int .i64 0):=aG
def Yj(l i c:Nat):bP P 248 (.ptr l i c) 0=A (.ptr l i (c+0)):=aG
def Yk(l i c:Nat):bP P 248 (.ptr l i c) 1=A (.ptr l i (c+1)):=aG
def Yl(l i c:Nat):bP P 248 (.ptr l i c) 2=A (.ptr l i (c+2)):=aG
def Ym(l i c:Nat):bP P 248 (.ptr l i c) 3=A (.ptr l i (c+3)):=aG
def Yn(l i c:Nat):bP P 248 (.ptr l i c) 4=A (.ptr l i (c+4)):=aG
def Yo(l i c:Nat):bP P 248 (.ptr l i c) 5=A (.ptr l i (c+5)):=aG
def Yp(l i c:Nat):bP P 248 (.ptr l i c) 6=A (.ptr l i (c+6)):=aG
def Yq(l i c:Nat):bP P 248 (.ptr l i c) 7=A (.ptr l i (c+7)):=aG
def Yr(l i c:Nat):bP P 248 (.ptr l i c) 8=A (.ptr l i (c+8)):=aG
def ajK:ev P 251=A false:=aG
def aki:cM P 251=A 1:=aG
def Ys(l i c:Nat):bP P 262 (.ptr l i c) 0=A (.ptr l i (c+0)):=aG
def ajM:ev P 280=A true:=aG
def akk:cM P 280=A 19:=aG
def Yy(l i c:Nat):bP P 280 (.ptr l i c) 0=A (.ptr l i (c+0)):=aG
def Yz(l i c:Nat):bP P 280 (.ptr l i c) 1=A (.ptr l i (c+5)):=aG
def YA(l i c:Nat):bP P 280 (.ptr l i c) 2=A (.ptr l i (c+6)):=aG
def YB(l i c:Nat):bP P 280 (.ptr l i c) 3=A (.ptr l i (c+13)):=aG
def ajN:ev P 284=A false:=aG
def akl:cM P 284=A 1:=aG
def aaM(l i n:Nat)(cap:Option Nat)(k:Int):ct P 284 (.az l i n 3 cap) (.int .i64 k)=if 3=3/\0<=k/\k<n then A (.ptr l (i+k.toNat) 0)else none:=aG
def aaL{l i n:Nat}{cap:Option Nat}{k:Int}(a:0<=k)(ah:k<n):ct P 284 (.az l i n 3 cap) (.int .i64 k)=A (.ptr l (i+k.toNat) 0):=by rw[aaM,if_pos ⟨rfl,a,ah⟩]
def acf{H:ae}{l i n e:Nat}{cap:Option Nat}:bD P H .len [284] [.az l i n e cap]=A (.int .i64 n):=aG
def acg{H:ae}:bD P H .len [284] [.aq]=A (.int .i64 0):=aG
def Tr:ev P 286=A true:=aG
def akm:cM P 286=A 3:=aG
def YC(l i c:Nat):bP P 286 (.ptr l i c) 0=A (.ptr l i (c+0)):=aG
def YD(l i c:Nat):bP P 286 (.ptr l i c) 1=A (.ptr l i (c+1)):=aG
def YE(l i c:Nat):bP P 286 (.ptr l i c) 2=A (.ptr l i (c+2)):=aG
def YF(l i c:Nat):bP P 292 (.ptr l i c) 0=A (.ptr l i (c+0)):=aG
def KX{a0:af}{a:af}{b:af}(c:a0.one=J)(ah:a.one=J)(ai:b.one=J):ey P 56 [(0,a0),(1,a),(2,b)]=A (.agg [a0,a,b,.int .i64 0]):=by
 rw[ik];simp only[List.map_cons,List.map_nil,dn c,dn ah,dn ai];kernel_rfl
def KZ{a:af}{b:af}{c:af}{d:af}{e:af}{f:af}{g:af}{h:af}{i:af}:ey P 76 [(0,.agg [a,b,c,d,e]),(1,.agg [f,g,h,i])]=A (.agg [a,b,c,d,e,f,g,h,i,af.aq,af.aq]):=by
 rw[ik];simp only[List.map_cons,List.map_nil];kernel_rfl
def K0{a:af}{b:af}{c:af}{d:af}{e:af}{f:af}{g:af}{h:af}{i:af}:ey P 78 [(0,.agg [a,b,c,d,e]),(1,.agg [f,g,h,i])]=A (.agg [a,b,c,d,e,f,g,h,i,af.aq,af.aq,af.aq,af.aq]):=by
 rw[ik];simp only[List.map_cons,List.map_nil];kernel_rfl
def KR{a:af}{a3:af}{a4:af}(ah:a.one=J)(ay:a3.one=J)(aM:a4.one=J):ey P 196 [(1,a),(3,a3),(4,a4)]=A (.agg [.int .i64 0,af.aq,.bool I,.int .i64 0,.int .i64 0,.int .i64 0,af.aq,a,.int .i64 0,a3,a4,af.aq]):=by
 rw[ik];simp only[List.map_cons,List.map_nil,dn ah,dn ay,dn aM];kernel_rfl
def VO{a:af}(ai:a.one=J):ey P 206 [(2,a)]=A (.agg [af.aq,af.aq,a]):=by
 rw[ik];simp only[List.map_cons,List.map_nil,dn ai];kernel_rfl
def KW{a:af}(ah:a.one=J):ey P 33 [(1,a)]=A (.agg [.int .i64 0,a,af.aq,af.aq]):=by
 rw[ik];simp only[List.map_cons,List.map_nil,dn ah];kernel_rfl
def VT{a0:af}(a:a0.one=J):ey P 46 [(0,a0)]=A (.agg [a0,.int .i64 0,.int .i64 0]):=by
 rw[ik];simp only[List.map_cons,List.map_nil,dn a];kernel_rfl
def VU{a0:af}{a:af}{b:af}(c:a0.one=J)(ah:a.one=J)(ai:b.one=J):ey P 46 [(0,a0),(1,a),(2,b)]=A (.agg [a0,a,b]):=by
 rw[ik];simp only[List.map_cons,List.map_nil,dn c,dn ah,dn ai];kernel_rfl
def KY{a0:af}{a:af}{b:af}{a3:af}(c:a0.one=J)(ah:a.one=J)(ai:b.one=J)(ay:a3.one=J):ey P 56 [(0,a0),(1,a),(2,b),(3,a3)]=A (.agg [a0,a,b,a3]):=by
 rw[ik];simp only[List.map_cons,List.map_nil,dn c,dn ah,dn ai,dn ay];kernel_rfl
def KS{a0:af}{a:af}{b:af}{a3:af}{a4:af}{a5:af}{c:af}{d:af}(e:a0.one=J)(ah:a.one=J)(ai:b.one=J)(ay:a3.one=J)(aM:a4.one=J)(f:a5.one=J)(g:c.one=J)(h:d.one=J):ey P 248 [(0,a0),(1,a),(2,b),(3,a3),(4,a4),(5,a5),(6,c),(8,d)]=A (.agg [a0,a,b,a3,a4,a5,c,af.aq,d]):=by
 rw[ik];simp only[List.map_cons,List.map_nil,dn e,dn ah,dn ai,dn ay,dn aM,dn f,dn g,dn h];kernel_rfl
def KQ{a0:af}{a:af}(b:a0.one=J)(ah:a.one=J):ey P 154 [(0,a0),(1,a)]=A (.agg [a0,a]):=by
 rw[ik];simp only[List.map_cons,List.map_nil,dn b,dn ah];kernel_rfl
def KV{a0:af}{a:af}(b:a0.one=J)(ah:a.one=J):ey P 33 [(0,a0),(1,a)]=A (.agg [a0,a,af.aq,af.aq]):=by
 rw[ik];simp only[List.map_cons,List.map_nil,dn b,dn ah];kernel_rfl
def KT{b:af}{c:af}{d:af}{e:af}{f:af}{a:af}{g:af}{h:af}{i:af}{j:af}{k:af}{l:af}{m:af}{n:af}{o:af}{p:af}{q:af}{r:af}{s:af}(ah:a.one=J):ey P 280 [(0,.agg [b,c,d,e,f]),(1,a),(2,.agg [g,h,i,j,k,l,m]),(3,.agg [n,o,p,q,r,s])]=A (.agg [b,c,d,e,f,a,g,h,i,j,k,l,m,n,o,p,q,r,s]):=by
 rw[ik];simp only[List.map_cons,List.map_nil,dn ah];kernel_rfl
def EV{a0:af}{a:af}{b:af}(c:a0.one=J)(ah:a.one=J)(ai:b.one=J):ey P 286 [(0,a0),(1,a),(2,b)]=A (.agg [a0,a,b]):=by
 rw[ik];simp only[List.map_cons,List.map_nil,dn c,dn ah,dn ai];kernel_rfl
def VQ{a0:af}(a:a0.one=J):ey P 292 [(0,a0)]=A (.agg [a0]):=by
 rw[ik];simp only[List.map_cons,List.map_nil,dn a];kernel_rfl
def KU{a0:af}{a:af}(b:a0.one=J)(ah:a.one=J):ey P 312 [(0,a0),(1,a)]=A (.agg [a0,a]):=by
 rw[ik];simp only[List.map_cons,List.map_nil,dn b,dn ah];kernel_rfl
def VS:ey P 33 []=A (.agg [.int .i64 0,af.aq,af.aq,af.aq]):=by
 rw[ik];simp only[List.map_cons,List.map_nil];kernel_rfl
def EW:ey P 46 []=A (.agg [.int .i64 0,.int .i64 0,.int .i64 0]):=by
 rw[ik];simp only[List.map_cons,List.map_nil];kernel_rfl
def VN:ey P 154 []=A (.agg [af.aq,af.aq]):=by
 rw[ik];simp only[List.map_cons,List.map_nil];kernel_rfl
def VP:ey P 262 []=A (.agg [af.aq]):=by
 rw[ik];simp only[List.map_cons,List.map_nil];kernel_rfl
def VR:ey P 310 []=A (.agg []):=by
 rw[ik];simp only[List.map_cons,List.map_nil];kernel_rfl
section
set_option linter.defProp false
def kT:=ag @ae.fW @ae.vC
def ez:=ag (ag (ag (ag (ag @Ut @kh) (ag @Ei (ag @adZ @ad2))) (ag (ag @ad3 @kf) (ag @nr (ag @alv @uK)))) (ag (ag (ag @mr @Vg) (ag @Uo (ag @nq @alr))) (ag (ag @aln (ag @alq @alo)) (ag @alp (ag @alk @adP))))) (ag (ag (ag (ag @adO @VE) (ag @Kb (ag @Kc @Uw))) (ag (ag @J8 @J9) (ag @Uv (ag @J_ @J6)))) (ag (ag (ag @Ka @J7) (ag @Option.bind_some.{0,0} (ag @hk @pC))) (ag (ag @zn (ag @fz @aea)) (ag @vP (ag @ad_ @ad9)))))
def OQ:=ag (ag (ag (ag (ag @List.getElem?_cons_zero.{0} @List.getElem?_cons_succ.{0}) (ag @List.drop_zero.{0} @List.drop_succ_cons.{0})) (ag (ag @List.take_succ_cons.{0} @List.take_zero.{0}) (ag @List.set_cons_zero.{0} @List.set_cons_succ.{0}))) (ag (ag (ag @List.cons_append.{0} @List.nil_append.{0}) (ag @List.length_cons.{0} @List.length_nil.{0})) (ag (ag @List.all_cons.{0} @List.all_nil.{0}) (ag @Bool.and_true @Bool.and_self)))) (ag (ag (ag (ag @Nat.zero_add @Nat.add_zero) (ag @ds @and_self)) (ag (ag @and_true @true_and) (ag @if_true.{1} @bE))) (ag (ag (ag @PZ @P5) (ag @PX @P4)) (ag (ag @P2 @P3) (ag @PY (ag @P0 @P1)))))
def akB:=ag (ag (ag (ag (ag (ag @qG @D7) (ag @ajR @ajD)) (ag (ag @ajE @ajF) (ag @ajJ @ajL))) (ag (ag (ag @sg @Ts) (ag @ajO @uG)) (ag (ag @ajP @Tt) (ag @ajQ @Tu)))) (ag (ag (ag (ag @Tv @ajS) (ag @ajT @ajU)) (ag (ag @ajz @JD) (ag @ajA @ajB))) (ag (ag (ag @Tq @ajC) (ag @ajG @ajH)) (ag (ag @ajI @ajK) (ag @ajM (ag @ajN @Tr)))))) (ag (ag (ag (ag (ag @D_ @TM) (ag @akw @akb)) (ag (ag @akc @akd) (ag @akh @akj))) (ag (ag (ag @akn @ako) (ag @akp @akq)) (ag (ag @akr @aks) (ag @akt @aku)))) (ag (ag (ag (ag @akv @akx) (ag @aky @akz)) (ag (ag @aj6 @aj7) (ag @aj8 @aj9))) (ag (ag (ag @aj_ @aka) (ag @ake @akf)) (ag (ag @akg @aki) (ag @akk (ag @akl @akm))))))
def c0:=ag (ag (ag @Ze (ag @Zn @ME)) (ag @Zk (ag @Zj @Zi))) (ag (ag @Zh (ag @Zg @Zl)) (ag @Zm (ag @XA @ac0)))
def rb:=ag (ag (ag @ae.aad @ae.eI) (ag @ae.cO @ae.b_)) (ag (ag @ae.fW @ae.vC) (ag @ae.gD @ae.set_set))
def K1:=ag (ag (ag (ag @KX @KZ) (ag @K0 (ag @KR @VO))) (ag (ag @KW @VT) (ag @VU (ag @KY @KS)))) (ag (ag (ag @KQ @KV) (ag @KT (ag @EV @VQ))) (ag (ag @KU (ag @VS @EW)) (ag @VN (ag @VP @VR))))
def dG:=ag (ag (ag (ag (ag (ag @Yt @Yu) (ag @Yv @Yw)) (ag (ag @Yx @YG) (ag @YH @YI))) (ag (ag (ag @YJ @YK) (ag @YL @YM)) (ag (ag @YN @YO) (ag @YP (ag @YQ @YR))))) (ag (ag (ag (ag @YS @YT) (ag @YU @YV)) (ag (ag @YW @YX) (ag @YY (ag @Y0 @Y1)))) (ag (ag (ag @Y2 @Y3) (ag @Y4 @Y5)) (ag (ag @Y6 @Y7) (ag @Y8 (ag @Y9 @Y_)))))) (ag (ag (ag (ag (ag @Za @Zb) (ag @Zc @Zd)) (ag (ag @X7 @X8) (ag @X9 @X_))) (ag (ag (ag @Ya @Yb) (ag @Yc @Yd)) (ag (ag @Ye @Yf) (ag @Yg (ag @Yh @Yi))))) (ag (ag (ag (ag @Yj @Yk) (ag @Yl @Ym)) (ag (ag @Yn @Yo) (ag @Yp (ag @Yq @Yr)))) (ag (ag (ag @Ys @Yy) (ag @Yz @YA)) (ag (ag @YB @YC) (ag @YD (ag @YE @YF))))))
def MQ:= @Zz
def OI:=ag (ag (ag (ag (ag @acq @ab5) (ag @ab6 @ab7)) (ag (ag @ab8 @ab9) (ag @acb @acd))) (ag (ag (ag @ace @ach) (ag @aci @acj)) (ag (ag @ack @acm) (ag @acn @aco)))) (ag (ag (ag (ag @acp @acr) (ag @acs @abV)) (ag (ag @abW @abX) (ag @abY @abZ))) (ag (ag (ag @ab0 @ab1) (ag @ab2 @ab3)) (ag (ag @ab4 @ab_) (ag @aca (ag @acf @acg)))))
def Nr:=ag (ag (ag (ag @aax @aaz) (ag @aaB @aaJ)) (ag (ag @aaN @aaP) (ag @aaR (ag @aaT @aaV)))) (ag (ag (ag @aan @aap) (ag @aar @aat)) (ag (ag @aav @aaD) (ag @aaF (ag @aaH @aaL))))
def U3:=ag ez (ag OQ (ag akB (ag c0 (ag rb (ag K1 (ag dG (ag MQ (ag OI Nr))))))))
def PW:=ag (ag (ag @PZ @P5) (ag @PX @P4)) (ag (ag @P2 @P3) (ag @PY (ag @P0 @P1)))
def aY{p:Prop}(h:p:=by first|assumption|omega|(simp only[kT];omega)|(simp only[PW];done)|fail):p:=h
def alD{p:Prop}(h:p:=by first|assumption|omega|(simp only[kT];omega)|(simp only[PW];done)|(simp only[List.length_append,List.length_cons,List.length_nil];omega)|fail):p:=h
def W8:(∀cs,(af.agg cs).cells=cs)/\(∀b,(af.bool b).cells=[.bool b])/\(∀k n,(af.int k n).cells=[.int k n])/\(∀s,(af.str s).cells=[.str s])/\(∀l i c,(af.ptr l i c).cells=[.ptr l i c])/\af.gC.cells=[.gC]/\(∀l i n e c,(af.az l i n e c).cells=[.az l i n e c])/\af.aq.cells=[.aq]/\(∀f a b,(af.func f a b).cells=[.func f a b])/\af.nilFunc.cells=[.nilFunc]/\af.nilIface.cells=[.nilIface]:=
 ⟨λ_=>rfl,λ_=>rfl,λ_ _=>rfl,λ_=>rfl,λ_ _ _=>rfl,rfl,λ_ _ _ _ _=>rfl,rfl,λ_ _ _=>rfl,rfl,rfl⟩
def e3:=ag @eU.eq_1 (ag @gl.eq_1 (ag @aJ.eq_1 (ag @cz.eq_1 (ag W8 U3))))
def bB:=ag @eU.eq_1 (ag ez (ag OQ (ag c0 (ag K1 (ag dG (ag MQ (ag OI (ag Nr (ag @ae.fW (ag @ae.vC @ae.set_set))))))))))
end
def Un{k:Nat}(h:k<=1000000000):IntKind.i64.wrap ((k:Int)+1)=((k+1:Nat):Int):=by rw[wrap_i64 aa aa];omega
def Mf{a b:Int}(h:a<b):decide (a<b)=true:=decide_eq_true h
def Md{a b:Int}(h:¬a<b):decide (a<b)=false:=decide_eq_false h
def Mc{a b:Int}(h:a<=b):decide (a<=b)=true:=decide_eq_true h
def Me{a b:Int}(h:¬a<=b):decide (a<=b)=false:=decide_eq_false h
def bz{r:O}{H:ae}{v:af}{k:af->ae->O}{Q:af->ae->Prop}(h:W r λw H'=>w=v/\aw H H')(f:∀H',aw H H'->W (k v H') Q):W (eg H r k) Q:=cB h λ_ H' e=>⟨e.2.1,by rw[e.1];exact f H' e.2⟩
def e2{r:O}{H:ae}{k:af->ae->O}{Q R:af->ae->Prop}(h:W r λw H'=>R w H'/\aw H H')(f:∀w H',R w H'->aw H H'->W (k w H') Q):W (eg H r k) Q:=cB h λw H' e=>⟨e.2.1,f w H' e.1 e.2⟩
def cY{r:O}{H:ae}{v:af}{k:K->O}{Q:af->ae->Prop}(h:W r λw H'=>w=v/\aw H H')(f:∀H',aw H H'->W (k (.cV v H')) Q):W (eh H r k) Q:=zi h λ_ H' e=>⟨e.2.1,by rw[e.1];exact f H' e.2⟩
def zj{r:O}{H:ae}{k:K->O}{Q R:af->ae->Prop}(h:W r λw H'=>R w H'/\aw H H')(f:∀w H',R w H'->aw H H'->W (k (.cV w H')) Q):W (eh H r k) Q:=zi h λw H' e=>⟨e.2.1,f w H' e.1 e.2⟩
def Uk{cT:List Nat}{T:List fD}{H:ae}:∀{S:List fD},(∀H'∈ia T H,aw H H')->(∀t∈S,∀v,t.k= .read v->cT.contains t.i=J\/∀H',aw H H'->bG (t.rd H') v=J)->uI cT T H S
 |[],_,_=>trivial
 |t::ts,ah,ai=>⟨λv a=>(ai t aW v a).imp id λh H' hm=>h H' (ah H' hm),Uk ah λb a_=>ai b (by simp[a_])⟩
def dy{zF:ae->Prop}{ms cT:List Nat}{T:List fD}{H:ae}{zA B:O}{Q:af->ae->Prop}(f:∀H',aw H H'->zF H')(h:W zA Q)(c:hJ ms T []=true:=by first|kernel_rfl)(b:∀H'∈ia T H,aw H H':=by simp only[ia,cv.K.heap,List.forall_mem_cons];repeat' first|exact aw.refl _|assumption|exact aw.push _ _|(intro _ h;cases h;done)|refine ag ?_ ?_)(d:(∀H',aw H H'->zF H')->∀t∈T,∀v,t.k= .read v->cT.contains t.i=J\/∀H',aw H H'->bG (t.rd H') v=true:=by intro f;simp only[List.forall_mem_cons];repeat' first|(intro v a;cases a;done)|(intro v a;exact .inl rfl)|(intro v a;cases a;refine .inr λH' p=> ?_;simp only[Nat.zero_add,Nat.reduceAdd,f H' p];done)|(intro _ h;cases h;done)|refine ag ?_ ?_):W (bif jv ms cT T H then zA else B) Q:=lT (l5 c (Uk b (d f))) h
def sf{zF p q:Prop}(e:zF->p=q:=by intro f;simp-implicitDefEqProofs(disch:=try exact aY)only[Nat.reduceAdd,Nat.reduceLeDiff,reduceIte,bB,f];rfl):zF->p=q:=e
def ajv{p q:Prop}(h:q)(e:True->p=q:=by exact sf):p:=(e trivial).mpr h
def Tn{p q a:Prop}(f0:a)(h:q)(e:a->p=q:=by exact sf):p:=(e f0).mpr h
def JC{p q a b:Prop}(f0:a)(f1:b)(h:q)(e:a/\b->p=q:=by exact sf):p:=(e ⟨f0,f1⟩).mpr h
def D6{p q a b c:Prop}(f0:a)(f1:b)(f2:c)(h:q)(e:a/\b/\c->p=q:=by exact sf):p:=(e ⟨f0,f1,f2⟩).mpr h
def To{p q a b c d:Prop}(f0:a)(f1:b)(f2:c)(f3:d)(h:q)(e:a/\b/\c/\d->p=q:=by exact sf):p:=(e ⟨f0,f1,f2,f3⟩).mpr h
def ajw{p q a b c d f:Prop}(f0:a)(f1:b)(f2:c)(f3:d)(f4:f)(h:q)(e:a/\b/\c/\d/\f->p=q:=by exact sf):p:=(e ⟨f0,f1,f2,f3,f4⟩).mpr h
def ob{p q a b c d f g:Prop}(f0:a)(f1:b)(f2:c)(f3:d)(f4:f)(f5:g)(h:q)(e:a/\b/\c/\d/\f/\g->p=q:=by exact sf):p:=(e ⟨f0,f1,f2,f3,f4,f5⟩).mpr h
def Tp{zF p q:Prop}(e:zF->p=q:=by intro f;simp-implicitDefEqProofs(disch:=try exact aY)only[Nat.reduceAdd,Nat.reduceLeDiff,reduceIte,bB,ea,dX,d_,dY,dZ,f];rfl):zF->p=q:=e
def ajx{p q:Prop}(h:q)(e:True->p=q:=by exact Tp):p:=(e trivial).mpr h
def ajy{p q a b:Prop}(f0:a)(f1:b)(h:q)(e:a/\b->p=q:=by exact Tp):p:=(e ⟨f0,f1⟩).mpr h
def DW{zF p q:Prop}(e:zF->p=q:=by intro f;simp-implicitDefEqProofs(disch:=try exact aY)only[Nat.reduceAdd,Nat.reduceLeDiff,reduceIte,e3,f];rfl):zF->p=q:=e
def FF{zF p:Prop}(e:zF->p:=by intro f;simp-implicitDefEqProofs(disch:=try exact aY)only[Nat.reduceAdd,Nat.reduceLeDiff,reduceIte,e3,f]):zF->p:=e
def ahr{p q:Prop}(h:q)(e:True->p=q:=by exact DW):p:=(e trivial).mpr h
def abn{p:Prop}(e:True->p:=by exact FF):p:=e trivial
def kP{p a:Prop}(f0:a)(e:a->p:=by exact FF):p:=e f0
def Jl{p q a b:Prop}(f0:a)(f1:b)(h:q)(e:a/\b->p=q:=by exact DW):p:=(e ⟨f0,f1⟩).mpr h
def te{p a b:Prop}(f0:a)(f1:b)(e:a/\b->p:=by exact FF):p:=e ⟨f0,f1⟩
def ahs{p q a b c:Prop}(f0:a)(f1:b)(f2:c)(h:q)(e:a/\b/\c->p=q:=by exact DW):p:=(e ⟨f0,f1,f2⟩).mpr h
def DV{p q a b c d f g:Prop}(f0:a)(f1:b)(f2:c)(f3:d)(f4:f)(f5:g)(h:q)(e:a/\b/\c/\d/\f/\g->p=q:=by exact DW):p:=(e ⟨f0,f1,f2,f3,f4,f5⟩).mpr h
def SI{zF p q:Prop}(e:zF->p=q:=by intro f;simp-implicitDefEqProofs(disch:=try exact aY)only[ez,f];rfl):zF->p=q:=e
def ahw{p q a b c d f:Prop}(f0:a)(f1:b)(f2:c)(f3:d)(f4:f)(h:q)(e:a/\b/\c/\d/\f->p=q:=by exact SI):p:=(e ⟨f0,f1,f2,f3,f4⟩).mpr h
def ahx{p q a b c d f g:Prop}(f0:a)(f1:b)(f2:c)(f3:d)(f4:f)(f5:g)(h:q)(e:a/\b/\c/\d/\f/\g->p=q:=by exact SI):p:=(e ⟨f0,f1,f2,f3,f4,f5⟩).mpr h
def r9{zF p q:Prop}(e:zF->p=q:=by intro f;simp-implicitDefEqProofs(disch:=try exact aY)only[ez,ea,dX,d_,dY,dZ,f];rfl):zF->p=q:=e
def SH{p q:Prop}(h:q)(e:True->p=q:=by exact r9):p:=(e trivial).mpr h
def k0{p q a:Prop}(f0:a)(h:q)(e:a->p=q:=by exact r9):p:=(e f0).mpr h
def uC{p q a b:Prop}(f0:a)(f1:b)(h:q)(e:a/\b->p=q:=by exact r9):p:=(e ⟨f0,f1⟩).mpr h
def r8{p q a b c:Prop}(f0:a)(f1:b)(f2:c)(h:q)(e:a/\b/\c->p=q:=by exact r9):p:=(e ⟨f0,f1,f2⟩).mpr h
def qy{p q a b c d:Prop}(f0:a)(f1:b)(f2:c)(f3:d)(h:q)(e:a/\b/\c/\d->p=q:=by exact r9):p:=(e ⟨f0,f1,f2,f3⟩).mpr h
def o5{p q a b c d f:Prop}(f0:a)(f1:b)(f2:c)(f3:d)(f4:f)(h:q)(e:a/\b/\c/\d/\f->p=q:=by exact r9):p:=(e ⟨f0,f1,f2,f3,f4⟩).mpr h
def g7{p q a b c d f g:Prop}(f0:a)(f1:b)(f2:c)(f3:d)(f4:f)(f5:g)(h:q)(e:a/\b/\c/\d/\f/\g->p=q:=by exact r9):p:=(e ⟨f0,f1,f2,f3,f4,f5⟩).mpr h
def sd{zF:Prop}{zX Y:O}(e:zF->zX=Y:=by intro f;simp-implicitDefEqProofs(disch:=try exact aY)only[Nat.reduceAdd,Nat.reduceLeDiff,reduceIte,bB,ea,dX,d_,dY,dZ,Int.reduceBEq,decide_true,decide_false,Bool.not_true,Bool.not_false,Un,Mf,Md,Mc,Me,f];rfl):zF->zX=Y:=e
def bM{zX Y:O}{Q:af->ae->Prop}(h:W Y Q)(e:True->zX=Y:=by exact sd):W zX Q:=(e trivial).symm▸h
def bK{zX Y:O}{Q:af->ae->Prop}{a:Prop}(f0:a)(h:W Y Q)(e:a->zX=Y:=by exact sd):W zX Q:=(e f0).symm▸h
def bF{zX Y:O}{Q:af->ae->Prop}{a b:Prop}(f0:a)(f1:b)(h:W Y Q)(e:a/\b->zX=Y:=by exact sd):W zX Q:=(e ⟨f0,f1⟩).symm▸h
def bT{zX Y:O}{Q:af->ae->Prop}{a b c:Prop}(f0:a)(f1:b)(f2:c)(h:W Y Q)(e:a/\b/\c->zX=Y:=by exact sd):W zX Q:=(e ⟨f0,f1,f2⟩).symm▸h
def cu{zX Y:O}{Q:af->ae->Prop}{a b c d:Prop}(f0:a)(f1:b)(f2:c)(f3:d)(h:W Y Q)(e:a/\b/\c/\d->zX=Y:=by exact sd):W zX Q:=(e ⟨f0,f1,f2,f3⟩).symm▸h
def dd{zX Y:O}{Q:af->ae->Prop}{a b c d f:Prop}(f0:a)(f1:b)(f2:c)(f3:d)(f4:f)(h:W Y Q)(e:a/\b/\c/\d/\f->zX=Y:=by exact sd):W zX Q:=(e ⟨f0,f1,f2,f3,f4⟩).symm▸h
def bb{zX Y:O}{Q:af->ae->Prop}{a b c d f g:Prop}(f0:a)(f1:b)(f2:c)(f3:d)(f4:f)(f5:g)(h:W Y Q)(e:a/\b/\c/\d/\f/\g->zX=Y:=by exact sd):W zX Q:=(e ⟨f0,f1,f2,f3,f4,f5⟩).symm▸h
def sc{zF:Prop}{zX Y:O}(e:zF->zX=Y:=by intro f;simp-implicitDefEqProofs(disch:=try exact aY)only[Nat.reduceAdd,Nat.reduceLeDiff,reduceIte,e3,ea,dX,d_,dY,dZ,Int.reduceBEq,decide_true,decide_false,Bool.not_true,Bool.not_false,Un,Mf,Md,Mc,Me,f];rfl):zF->zX=Y:=e
def nh{zX Y:O}{Q:af->ae->Prop}(h:W Y Q)(e:True->zX=Y:=by exact sc):W zX Q:=(e trivial).symm▸h
def qC{zX Y:O}{Q:af->ae->Prop}{a:Prop}(f0:a)(h:W Y Q)(e:a->zX=Y:=by exact sc):W zX Q:=(e f0).symm▸h
def Jr{zX Y:O}{Q:af->ae->Prop}{a b:Prop}(f0:a)(f1:b)(h:W Y Q)(e:a/\b->zX=Y:=by exact sc):W zX Q:=(e ⟨f0,f1⟩).symm▸h
def o7{zX Y:O}{Q:af->ae->Prop}{a b c:Prop}(f0:a)(f1:b)(f2:c)(h:W Y Q)(e:a/\b/\c->zX=Y:=by exact sc):W zX Q:=(e ⟨f0,f1,f2⟩).symm▸h
def yW{zX Y:O}{Q:af->ae->Prop}{a b c d:Prop}(f0:a)(f1:b)(f2:c)(f3:d)(h:W Y Q)(e:a/\b/\c/\d->zX=Y:=by exact sc):W zX Q:=(e ⟨f0,f1,f2,f3⟩).symm▸h
def yX{zX Y:O}{Q:af->ae->Prop}{a b c d f:Prop}(f0:a)(f1:b)(f2:c)(f3:d)(f4:f)(h:W Y Q)(e:a/\b/\c/\d/\f->zX=Y:=by exact sc):W zX Q:=(e ⟨f0,f1,f2,f3,f4⟩).symm▸h
def gE{zX Y:O}{Q:af->ae->Prop}{a b c d f g:Prop}(f0:a)(f1:b)(f2:c)(f3:d)(f4:f)(f5:g)(h:W Y Q)(e:a/\b/\c/\d/\f/\g->zX=Y:=by exact sc):W zX Q:=(e ⟨f0,f1,f2,f3,f4,f5⟩).symm▸h
section
set_option maxRecDepth 2000
def du(H:ae)(ok:Nat->Prop)(H':ae)(ok':Nat->Prop):Prop:=∀l b,ok l->H.get l=A b->ok' l/\H'.get l=A b
def du.le{H:ae}{ok ok':Nat->Prop}(h:∀l,ok l->ok' l):du H ok H ok':=λl _ a b=>⟨h l a,b⟩
def du.mut{H H':ae}{ok:Nat->Prop}{S:Nat->Prop}(m:fZ S H H')(h:∀l,ok l->¬S l):du H ok H' ok:=λl _ a b=>⟨a,m.get b (h l a)⟩
theorem du.aC{H H':ae}{ok:Nat->Prop}(m:aw H H'):du H ok H' ok:=λ_ _ a b=>⟨a,m.get b⟩
theorem du.trans{H1 d e:ae}{a b c:Nat->Prop}(h:du H1 a d b)(k:du d b e c):du H1 a e c:=λl x y z=>k l x (h l x y z).1 (h l x y z).2
structure e0(α:Type) where
 esz:Nat
 V:ae->(Nat->Prop)->α->List af->Prop
 len:∀{H ok a cs},V H ok a cs->cs.length=esz/\cs.all af.one=true
 keep:∀{H ok H' ok'} {a:α} {cs},du H ok H' ok'->V H ok a cs->V H' ok' a cs
def ba:Nat->Prop:=λ_=>True
section
variable {α:Type}{K:e0 α}{H H':ae}{ok ok':Nat->Prop}
def i_(K:e0 α)(ok:Nat->Prop)(H:ae)(l:List α)(v:af):Prop:=(v= .aq/\l=[])\/∃L els cap,v= .az L 0 l.length K.esz cap/\ok L/\H.get L=A (.row I K.esz els)/\l.length<=els.length/\(cap=Z\/cap=A l.length)/\∀(i:Nat) (a:α),l[i]? =A a->∃cs,els[i]? =A cs/\K.V H (λk=>ok k/\k≠L) a cs
def aI(K:e0 α)(H:ae)(ok:Nat->Prop)(l:List α)(v:af):Prop:=(v= .aq/\l=[])\/(∃L i cap ro els,v= .az L i l.length K.esz cap/\ok L/\H.get L=A (.row ro K.esz els)/\i+l.length<=els.length/\∀(j:Nat) (a:α),l[j]? =A a->∃cs,els[i+j]? =A cs/\K.V H ok a cs)\/∃L i cap,v= .az L i 0 K.esz cap/\l=[]
theorem aI.one{l:List α}{v:af}(h:aI K H ok l v):v.one=true:=by
 rcases h with⟨rfl,_⟩|⟨L,i,cap,ro,els,rfl,_⟩|⟨L,i,cap,rfl,_⟩<;>rfl
theorem i_.nil:i_ K ok H [] .aq:= .inl ⟨rfl,rfl⟩
theorem aI.nil:aI K H ok [] .aq:= .inl ⟨rfl,rfl⟩
def i_.keep{l:List α}{v:af}(p:du H ok H' ok')(h:i_ K ok H l v):i_ K ok' H' l v:=by
 rcases h with h|⟨L,els,cap,f,d,e,j,n,m⟩
 ·exact .inl h
 ·refine .inr ⟨L,els,cap,f,(p _ _ d e).1,(p _ _ d e).2,j,n,λi a aP=> ?_⟩;obtain⟨cs,o,q⟩:=m i a aP;exact⟨cs,o,K.keep (λk b c g=>⟨⟨(p _ _ c.1 g).1,c.2⟩,(p _ _ c.1 g).2⟩) q⟩
def aI.keep{l:List α}{v:af}(p:du H ok H' ok')(h:aI K H ok l v):aI K H' ok' l v:=by
 rcases h with h|⟨L,i,cap,ro,els,d,b,c,e,f⟩|h
 ·exact .inl h
 ·refine .inr (.inl ⟨L,i,cap,ro,els,d,(p _ _ b c).1,(p _ _ b c).2,e,λj a g=> ?_⟩);obtain⟨cs,k,m⟩:=f j a g;exact⟨cs,k,K.keep p m⟩
 ·exact .inr (.inr h)
theorem aI.aC{l:List α}{v:af}(h:aI K H ok l v)(p:aw H H'):aI K H' ok l v:=h.keep (.aC p)
theorem i_.aC{l:List α}{v:af}(h:i_ K ok H l v)(p:aw H H'):i_ K ok H' l v:=h.keep (.aC p)
def aI.any{l:List α}{v:af}(h:aI K H ok l v):aI K H ba l v:=h.keep (.le λ_ _=>trivial)
def aI.below{l:List α}{v:af}(h:aI K H ok l v):aI K H (· <H.next) l v:=h.keep λ_ _ _ g=>⟨ae.bm g,g⟩
theorem i_.az{l:List α}{v:af}(h:i_ K ok H l v):aI K H ok l v:=by
 rcases h with h|⟨L,els,cap,b,c,d,i,_,e⟩
 ·exact .inl h
 ·refine .inr (.inl ⟨L,0,cap,I,els,b,c,d,aa,λj a f=> ?_⟩);obtain⟨cs,k,g⟩:=e j a f;exact⟨cs,al,K.keep (du.le λ_ h=>h.1) g⟩
structure fj(t e esz:Nat):Prop where
 un:P.underlying t=some (.slice e)
 ts:cM P e=some esz
 iz:∃b,ml P e=some b/\b<=200
 ft:∃z,gb P e=some z/\z.cells.length=esz/\z.cells.all af.one=true
 pos:0<esz/\esz<=100
def hN{t e:Nat}(hu:P.underlying t=A (.slice e))(l i n z:Nat)(c:Option Nat):bD P H .len [t] [.az l i n z c]=A (.int .i64 n):=by simp[bD,u1,hu]
def len_nil{t e:Nat}(hu:P.underlying t=A (.slice e)):bD P H .len [t] [.aq]=A (.int .i64 0):=by simp[bD,u1,hu]
def aI.len{t e esz:Nat}(y:fj t e esz){l:List α}{v:af}(h:aI K H ok l v){H0:ae}:bD P H0 .len [t] [v]=A (.int .i64 l.length):=by
 rcases h with⟨rfl,rfl⟩|⟨L,i,cap,ro,els,rfl,_⟩|⟨L,i,cap,rfl,rfl⟩
 ·exact len_nil y.un
 ·exact hN y.un _ _ _ _ _
 ·exact hN y.un _ _ _ _ _
def aI.bf{t e esz:Nat}{l:List α}{v:af}(h:aI K H ok l v)(y:fj t e esz):∀H0,bD P H0 .len [t] [v]=A (.int .i64 l.length):=λ_=>h.len y
theorem nJ{t e esz:Nat}(y:fj t e esz){l i n:Nat}{c:Option Nat}{j:Int}(a:0<=j)(ah:j<n):ct P t (.az l i n esz c) (.int .i64 j)=A (.ptr l (i+j.toNat) 0):=by
 simp[ct,y.un,y.ts,a,ah]
theorem aI.at_{t e:Nat}(y:fj t e K.esz){l:List α}{v:af}(h:aI K H ok l v){j:Int}{a:α}(k:0<=j)(b:l[j.toNat]? =A a):∃L i ro els cs,ct P t v (.int .i64 j)=A (.ptr L i 0)/\ok L/\H.get L=A (.row ro K.esz els)/\els[i]? =A cs/\K.V H ok a cs:=by
 have ar:=(List.getElem?_eq_some_iff.1 b).1;rcases h with⟨rfl,rfl⟩|⟨L,i,cap,ro,els,rfl,c,d,f,g⟩|⟨L,i,cap,rfl,rfl⟩
 ·grind
 ·grind[nJ]
 grind
def aI.agg{t e:Nat}(y:fj t e K.esz)(c:ev P e=A J){l:List α}{v:af}(h:aI K H ok l v){j:Int}{a:α}(b:0<=j)(d:l[j.toNat]? =A a):∃p cs,ct P t v (.int .i64 j)=A p/\aJ P H e p=A (.agg cs)/\K.V H ok a cs:=by
 obtain⟨L,i,ro,els,cs,ah,_,ai,ay,aM⟩:=h.at_ y b d;refine⟨_,cs,ah,?_,aM⟩;rw[hA c y.ts ai ay aa,List.drop_zero,List.take_of_length_le (by have:=(K.len aM).1;omega)]
def aI.val{t e:Nat}(y:fj t e K.esz)(c:ev P e=A I){l:List α}{v:af}(h:aI K H ok l v){j:Int}{a:α}(b:0<=j)(d:l[j.toNat]? =A a):∃p cs,ct P t v (.int .i64 j)=A p/\aJ P H e p=cs[0]? /\K.V H ok a cs:=by
 obtain⟨L,i,ro,els,cs,ah,_,ai,ay,aM⟩:=h.at_ y b d;exact⟨_,cs,ah,eW c ai ay,aM⟩
theorem aI.els{l:List α}{v:af}(h:aI K H ok l v){t e:Nat}(y:fj t e K.esz):∃b,ld P H t K.esz v=A b/\b.length=l.length/\∀(i:Nat) (a:α),l[i]? =A a->∃cs,b[i]? =A cs/\K.V H ok a cs:=by
 rcases h with⟨rfl,rfl⟩|⟨L,i,cap,ro,els,rfl,k,d,f,m⟩|⟨L,i,cap,rfl,rfl⟩
 ·exact⟨[],by simp[ld,y.un],rfl,λi a h=>al⟩
 ·by_cases c:l.length=0
  ·refine⟨[],by simp[ld,y.un,c],al,λj a g=> ?_⟩;grind
  ·refine⟨(els.drop i).take l.length,by simp[ld,y.un,hH,d,f,c],al,λj a g=> ?_⟩;grind
 ·exact⟨[],by simp[ld,y.un],rfl,λi a h=>al⟩
def lN(K:e0 α)(H:ae)(okE:Nat->Prop)(t:Nat)(m:List α)(w:af):Prop:=(∃b,ld P H t K.esz w=A b/\b.length=m.length/\∀(i:Nat) (a:α),m[i]? =A a->∃cs,b[i]? =A cs/\K.V H okE a cs)/\∀e,u2 w e=Z
def aI.zS{l:List α}{v:af}(h:aI K H ok l v){t e:Nat}(y:fj t e K.esz):lN K H ok t l v:=⟨h.els y,λe=>by
 rcases h with⟨rfl,_⟩|⟨L,i,cap,ro,els,rfl,_⟩|⟨L,i,cap,rfl,_⟩<;>rfl⟩
theorem lN.plain{okE okE':Nat->Prop}{t:Nat}{l:List α}{v:af}(h:lN K H okE t l v)(c:∀a cs,K.V H okE a cs->K.V H okE' a cs):lN K H okE' t l v:=by
 obtain⟨⟨b,ah,ai,ay⟩,aM⟩:=h;exact⟨al,aM⟩
theorem Vo{okE:Nat->Prop}{t e:Nat}(y:fj t e K.esz){l m:List α}{v w:af}(h:i_ K ok H l v)(hm:lN K H okE t m w)(ad:∀k b,okE k->H.get k=A b->ok' k/\∀L n c,v= .az L 0 n K.esz c->k≠L)(r:∀k b,ok k->H.get k=A b->ok' k)(aL:ok' H.next)(ar:l.length+m.length<=1000000000):
  ∃s H',ej P H [t,t] v w=A (s,H')/\i_ K ok' H' (l++m) s/\H.next<=H'.next/\(∀k,k<H.next->(∀L n c,v= .az L 0 n K.esz c->k≠L)->H'.get k=H.get k)/\(s=v\/∃n,s= .az H.next 0 n K.esz Z):=by
 obtain⟨⟨d,d1,d2,d3⟩,U⟩:=hm;obtain⟨b,f,N⟩:=y.iz;obtain⟨z,o,p,_⟩:=y.ft;have j:oJ P t=false:=by simp[oJ,y.un]
 have T:=U e;by_cases M:m.length=0
 ·
  obtain rfl:=List.length_eq_zero_iff.1 M;obtain rfl:=List.length_eq_zero_iff.1 (d2.trans M);refine⟨v,H,?_,?_,aa,λ_ _ _=>rfl,.inl rfl⟩
  ·rcases h with⟨rfl,rfl⟩|⟨L,els,cap,rfl,_⟩
   ·simp[ej,y.un,y.ts,f,o,p,y.pos.1,j,d1]
   ·simp[ej,y.un,y.ts,f,o,p,y.pos.1,j,d1]
  ·rw[List.append_nil];exact h.keep λk b R g=>⟨r k b R g,g⟩
 have u:d.length≠0:=aa;rcases h with⟨rfl,rfl⟩|⟨L,els,cap,rfl,Y,E,ab,S,G⟩
 ·have ah:d.length*b<=140737488355328:=Nat.le_trans (Nat.mul_le_mul_left _ N) aa;have ai:d.length<=9223372036854775807:=aa;refine⟨.az H.next 0 d.length K.esz Z,H.push (.row I K.esz d),by simp[ej,y.un,y.ts,f,o,p,y.pos.1,j,d1,u,ah,ai,T,eT],?_,aW,(by grind[ae.eI]),.inr ⟨_,rfl⟩⟩;refine .inr ⟨H.next,d,Z,al,aL,ae.a1 _ _,al,.inl rfl,λi a aP=> ?_⟩;obtain⟨cs,B,q⟩:=d3 i a al;refine⟨cs,B,K.keep (λk b r g=> ?_) q⟩;have:=ae.bm g;exact⟨al,(aw.push _ _).get g⟩
 ·have au:=ae.bm E;have ah:(l.length+d.length)*b<=140737488355328:=Nat.le_trans (Nat.mul_le_mul_left _ N) aa;have ai:l.length+d.length<=9223372036854775807:=aa;have O:hH H L 0 l.length K.esz=A (els.take l.length):=by
   grind[hH]
  have ao:(els.take l.length).length=l.length:=al;replace G:∀(i:Nat) (a:α),l[i]? =A a->∃cs,(els.take l.length)[i]? =A cs/\K.V H (λk=>ok k/\k≠L) a cs:=al;have Q:∀H1:ae,H1.next=H.next->(∀k b,H.get k=A b->k≠L->H1.get k=A b)->i_ K ok' (H1.push (.row I K.esz (els.take l.length++d))) (l++m) (.az H.next 0 (l.length+d.length) K.esz Z):=by
   intro H1 am aj;have ap:∀k b,H.get k=A b->k≠L->(H1.push (.row I K.esz (els.take l.length++d))).get k=A b:=λk b g ak=>by
    have:=ae.bm g;grind[ae.eI]
   refine .inr ⟨H.next,els.take l.length++d,Z,al,aL,by grind[ae.a1],al,.inl rfl,λi a aP=> ?_⟩;by_cases W:i<l.length
   ·rw[List.getElem?_append_left W]at aP;obtain⟨c,B,q⟩:=G i a aP;refine⟨c,al,K.keep (λk x R g=> ?_) q⟩;have:=ae.bm g;grind
   ·rw[List.getElem?_append_right aa]at aP;obtain⟨c,B,q⟩:=d3 _ a aP;refine⟨c,al,K.keep (λk x r g=> ?_) q⟩;have:=ae.bm g;grind
  rcases S with rfl|rfl
  ·refine⟨_,_,by simp[ej,y.un,y.ts,f,o,p,y.pos.1,j,d1,u,ah,ai,O,E],Q (H.set L (gone 0 H.next K.esz els)) rfl (by grind[ae.b_]),aW,λk r an=> ?_,.inr ⟨_,rfl⟩⟩;rw[ae.eI (by simp;omega),ae.b_ al]
  ·have aA:0<d.length:=aa;refine⟨_,_,by simp[ej,y.un,y.ts,f,o,p,y.pos.1,j,d1,u,ah,ai,O,aA],Q H rfl (λk b g _=>g),aW,(by grind[ae.eI]),.inr ⟨_,rfl⟩⟩
def i_.lt{l:List α}{v:af}(h:i_ K ok H l v){L n:Nat}{c:Option Nat}(e:v= .az L 0 n K.esz c):L<H.next:=by
 rcases h with⟨rfl,_⟩|⟨L',els,cap,rfl,_,a,_⟩
 ·cases e
 ·cases e;exact ae.bm a
structure aZ(K:e0 α)(B:Nat)(ok:Nat->Prop)(H:ae)(l:List α)(v:af):Prop where
 eS:i_ K ok H l v
 low:∀L n c,v= .az L 0 n K.esz c->B<=L
theorem aZ.nil(K:e0 α)(B:Nat)(ok:Nat->Prop)(H:ae):aZ K B ok H [] .aq:=⟨.nil,λ_ _ _ h=>by cases h⟩
def aZ.az{B:Nat}{l:List α}{v:af}(h:aZ K B ok H l v):aI K H ok l v:=h.eS.az
def aZ.keep{B:Nat}{l:List α}{v:af}(p:du H ok H' ok')(h:aZ K B ok H l v):aZ K B ok' H' l v:=⟨h.eS.keep p,h.low⟩
theorem aZ.aC{B:Nat}{l:List α}{v:af}(h:aZ K B ok H l v)(p:aw H H'):aZ K B ok H' l v:=⟨h.eS.aC p,h.low⟩
def cg(B:Nat)(H H':ae):Prop:=H.next<=H'.next/\∀l,l<B->H'.get l=H.get l
theorem cg.refl(B:Nat)(H:ae):cg B H H:=⟨aa,λ_ _=>rfl⟩
theorem cg.trans{B:Nat}{H1 a b:ae}(h:cg B H1 a)(k:cg B a b):cg B H1 b:=⟨Nat.le_trans h.1 k.1,λl ar=>(k.2 l ar).trans (h.2 l ar)⟩
theorem ek{B:Nat}{H1 a:ae}(h:aw H1 a)(b:B<=H1.next):cg B H1 a:=⟨h.1,λl ar=>h.2 l aa⟩
theorem cg.aC{H1 a:ae}(h:cg H1.next H1 a):aw H1 a:=h
def cg.le{B zC:Nat}{H1 a:ae}(h:cg B H1 a)(aA:zC<=B):cg zC H1 a:=⟨h.1,λl ar=>h.2 l aa⟩
def aI.eu{B:Nat}{l:List α}{v:af}(h:aI K H (· <B) l v)(p:cg B H H'):aI K H' (· <B) l v:=h.keep λk b a g=>⟨a,by rw[p.2 k a];exact g⟩
theorem aZ.app{B:Nat}{okE:Nat->Prop}{t e:Nat}(y:fj t e K.esz){l m:List α}{v w:af}(h:aZ K B ok H l v)(r:B<=H.next)(hm:lN K H okE t m w)(q:∀k b,okE k->H.get k=A b->ok' k/\∀L n c,v= .az L 0 n K.esz c->k≠L)(i:∀k b,ok k->H.get k=A b->ok' k)(aL:ok' H.next)(ar:l.length+m.length<=1000000000):
  ∃a H',ej P H [t,t] v w=A (a,H')/\aZ K B ok' H' (l++m) a/\cg B H H'/\(∀k,k<H.next->(∀L n c,v= .az L 0 n K.esz c->k≠L)->H'.get k=H.get k)/\(a=v\/∃n,a= .az H.next 0 n K.esz Z):=by
 obtain⟨a,H',j,o,p,f,g⟩:=Vo y h.eS hm q i aL ar;refine⟨a,H',j,⟨o,λL n c d=> ?_⟩,⟨p,λk i=>f k aa λL n c d=>by have:=h.low L n c d;omega⟩,f,g⟩;rcases g with rfl|⟨s,rfl⟩
 ·exact h.low L n c d
 grind
theorem lN.one{okE:Nat->Prop}{t e:Nat}(y:fj t e K.esz){a:α}{cs:List af}{ro:Bool}{cap:Option Nat}{L:Nat}(aR:H.get L=A (.row ro K.esz [cs]))(c:K.V H okE a cs):lN K H okE t [a] (.az L 0 1 K.esz cap):=by
 refine⟨⟨[cs],by simp[ld,y.un,hH,aR],rfl,λi b aP=> ?_⟩,λ_=>rfl⟩;grind
theorem ng{t e esz:Nat}(y:fj t e esz)(l:Nat){v:af}{cs:List af}(aA:v.cells=cs)(h:cs.length=esz)(aX:cs.all af.one=J):gu P l t 1 [(0,v)]=A (.az l 0 1 esz (A 1),.row I esz [cs]):=by
 obtain⟨z,a,b,c⟩:=y.ft;have ah:1*esz<=16777216:=by have:=y.pos.2;omega
 have ai:esz<=16777216:=aa;have d:∀x∈z.cells,x.one=true:=al;simp[gu,y.un,y.ts,a,b,lZ,h,aX,ai,aA];grind
theorem aZ.sI{B:Nat}{H1:ae}{t e:Nat}(y:fj t e K.esz){l:List α}{v:af}{a:α}{cs:List af}(h:aZ K B ok H l v)(j:B<=H.next)(p:aw H H1)(m:K.V H1 (λk=>H.next<=k) a cs)(q:∀k,ok k\/H.next<=k->ok' k)(ar:l.length<=999999999):
  ∃b H',ej P (H1.push (.row I K.esz [cs])) [t,t] v (.az H1.next 0 1 K.esz (A 1))=A (b,H')/\aZ K B ok' H' (l++[a]) b/\cg B H H'/\H1.next<H'.next/\(∀k,k<H1.next->(∀L n c,v= .az L 0 n K.esz c->k≠L)->H'.get k=H1.get k):=by
 have pp:=aw.push H1 (.row I K.esz [cs]);have w:=p.1;have u:∀L n c,v= .az L 0 n K.esz c->L<H.next:=λL n c r=>h.eS.lt r
 obtain⟨b,H',f,g,d,i,_⟩:=aZ.app (ok:=ok) (ok':=ok') y ((h.aC p).aC pp) (by simp;omega) (lN.one y (ae.a1 _ _) (K.keep (.aC pp) m)) al al (q _ (.inr (by simp;omega))) al;refine⟨b,H',f,g,((ek p j).trans (ek pp aa)).trans d,by have:=d.1;simp at this;omega,λk s o=> ?_⟩;rw[i k (by simp;omega) o,ae.eI aa]
def kC(K:e0 α)(v:af):Prop:=∀L n c,v= .az L 0 n K.esz c->c=Z\/n=0
theorem kC.app{v a:af}{B:Nat}(h:kC K v)(e:a=v\/∃n,a= .az B 0 n K.esz Z):kC K a:=by
 rcases e with rfl|⟨n,rfl⟩
 ·exact h
 ·intro L n c e;grind
theorem aZ.pop{B:Nat}{t e:Nat}(y:fj t e K.esz){l:List α}{a:α}{v:af}(h:aZ K B ok H (l++[a]) v)(aA:kC K v):∃w,gI P t v Z (A (.int .i64 l.length)) Z=A w/\aZ K B ok H l w/\kC K w:=by
 obtain⟨ah,ai⟩:=h;rcases ah with⟨_,ar⟩|⟨L,els,cap,rfl,d,f,g,m,j⟩
 ·simp at ar
 ·simp only[List.length_append,List.length_cons,List.length_nil,Nat.zero_add]at g aA ai ⊢;rcases aA L _ _ rfl with rfl|o
  ·refine⟨.az L 0 l.length K.esz Z,?_,⟨.inr ⟨L,els,Z,rfl,d,f,aa,.inl rfl,λi b aP=> ?_⟩,λL' n c k=> ?_⟩,λL' n c k=> ?_⟩
   ·have ah:(l.length:Int)<=(l.length:Int)+1:=aa;simp[gI,y.un,y.ts,dR,ah]
   ·refine j i b ?_;grind
   ·grind
   grind
  omega
theorem rz{t e esz:Nat}{z:af}{b:Nat}(hu:P.underlying t=A (.slice e))(d:cM P e=A esz)(a:ml P e=A b)(f:gb P e=A z)(h:z.cells.length=esz)(i:z.cells.all af.one=J)(g:0<esz)(c:b<=100000)(l n:Nat)(aL:n<=1000000000):g5 (h0 P ⟨.leaf,l⟩ t (.int .i64 n) (.int .i64 n)) l=A (.az l 0 n esz (A n),.row I esz (List.replicate n z.cells)):=by
 have ah:(b:Int)*(n:Int)<=281474976710656:=by
  have:b*n<=100000*1000000000:=Nat.mul_le_mul c aL;omega
 have ai:(n:Int)<=9223372036854775807:=aa;have ay:(0:Int)<=(n:Int):=aa;have aR:=ae.a1 (⟨.leaf,l⟩:ae) (.row I esz (List.replicate n z.cells));simp only[h0,hu,d,a,f];rw[if_pos al];simp only[g5,Int.toNat_natCast,aR];rw[if_pos aW,if_pos (show(bA.row I esz (List.replicate n z.cells)).iR=J from rfl)]
