/-
  Texts of one proof, laid together: Cp Cd CpD ShA Mb SgA SgB.
-/
import Derived.Test.YtmhhnnklfcbgfaaGreatMF
set_option linter.unusedVariables false
set_option linter.unusedSimpArgs false
set_option linter.defProp false
open Option renaming some→D,none→I
open Bool renaming true→C,false→Z
namespace Go.Proofs.YtmhhnnklfcbgfaaGreat
open Go.bz
section
set_option maxRecDepth 100000
def SA(R:bf)(t:Nat):bd R (.tmp t)=D (R t):=rfl
def St(R:bf)(f:Nat):bd R (.func f)=D (.func (.func f) [] []):=rfl
def Su(R:bf)(k:IntKind)(n:Int):bd R (.const (.int k n))=D (.int k n):=rfl
def Sz(R:bf)(l:List UInt8):bd R (.const (.string ⟨l.toArray⟩))=D (.str l):=rfl
def Ss(R:bf)(b:Bool):bd R (.const (.bool b))=D (.bool b):=rfl
def Sy(R:bf):bd R (.const (.slice I 0 0))=D .aB:=rfl
def Sx(R:bf):bd R (.const (.pointer I))=D .gI:=rfl
def Sw(R:bf):bd R (.const (.map I))=D .ib:=rfl
def Sv(R:bf):bd R (.const .nilFunc)=D .nilFunc:=rfl
def SC(R:bf):eE R []=D []:=rfl
def SB(R:bf)(x:Operand)(xs:List Operand):eE R (x::xs)=(bd R x).bind λv=>(eE R xs).bind λak=>D (v::ak):=rfl
def Sd(R:bf):hS R []=D []:=rfl
def Sc(R:bf)(i:Nat)(x:Operand)(xs:List (Nat×Operand)):hS R ((i,x)::xs)=(bd R x).bind λv=>(hS R xs).bind λak=>D ((i,v)::ak):=rfl
def Sq(R:bf):iL R I=D none:=rfl
def Sr(R:bf)(x:Operand):iL R (D x)=(bd R x).bind λv=>D (D v):=rfl
def acv(R:bf)(v:ae):dn R I v=R:=rfl
def acw(R:bf)(d:Nat)(v:ae)(e:Nat):dn R (D d) v e=if e=d then v else R e:=by
 show(bif Nat.beq e d then v else R e)=_;by_cases h:e=d
 ·rw[if_pos h,h,Nat.beq_refl];rfl
 ·rw[if_neg h];cases a:Nat.beq e d with
  |true=>exact absurd (Nat.eq_of_beq_eq_true a) h
  |false=>rfl
def ac9(v:ae)(k:ae->O):aU (D v) k=k v:=rfl
def Oh(v:ae)(ak:List ae):cG (v::ak) 0=v:=rfl
def Oi(v:ae)(ak:List ae)(n:Nat):cG (v::ak) (n+1)=cG ak n:=rfl
def ac7(G:aw)(H:ad)(f:Nat)(ak:List ae)(k:ae->ad->O):oe G H (.func (.func f) [] []) ak k=dW H (G f ak H) k:=by simp[oe,nu]
def W5{rs:List ResultVar}(R:bf)(H:ad):kd P rs R H=kI P H R rs λak=>D (kr ak,H):=rfl
def WY(H:ad)(R:bf)(k:List ae->O):kI P H R [] k=k []:=rfl
def W2(H:ad)(R:bf)(t:Nat)(rs:List ResultVar)(k:List ae->O):kI P H R (.tmp t::rs) k=kI P H R rs λak=>k (R t::ak):=rfl
def WZ(H:ad)(R:bf)(a t:Nat)(rs:List ResultVar)(k:List ae->O):kI P H R (.cell a t::rs) k=aU (aI P H t (R a)) λv=>kI P H R rs λak=>k (v::ak):=zI
def N0:kr []= .tuple []:=rfl
def N1(v:ae):kr [v]=v:=rfl
def N2(v u:ae)(ak:List ae):kr (v::u::ak)= .tuple (v::u::ak):=rfl
def ZI{G:aw}{ops:Array Oper}(R:bf)(H:ad)(k:bf->ad->O):jr P G ops [] R H k=k R H:=rfl
def WU{G:aw}{ops:Array Oper}(R:bf)(H:ad)(k:bf->ad->O):lG P G ops Z R H k=jr P G ops ops.toList R H k:=rfl
def OV{l:Nat}{v:ae}{t:Nat}(h:(j9 P t).isNone=C):k5 (j9 P t) l v=fe l v:=by
 rw[Option.isNone_iff_eq_none.1 h];rfl
def adh(H:ad)(t:Nat)(cs:List ae)(k:ae->ad->O):y_ P H t (D cs) k=fu H cs k:=rfl
def Px(c:Operand)(a6:bI)(e:List (Nat×bI))(d:bI)(G:aw)(N:Nat)(a b:Code)(R:bf)(H:ad):bM P G N (.cond c a b) a6 e d R H=dF (bd R c) (bM P G N a a6 e d R H) (bM P G N b a6 e d R H):=rfl
def P2(g:Nat)(ops:Array Oper)(d:Bool)(a6:bI)(b:List (Nat×bI))(a:bI)(G:aw)(N:Nat)(R:bf)(H:ad):bM P G N (.region g ops d) a6 b a R H=lG P G ops d R H a6:=rfl
def P4(a b:Code)(a6:bI)(d:List (Nat×bI))(c:bI)(G:aw)(N:Nat)(R:bf)(H:ad):bM P G N (.seq a b) a6 d c R H=bM P G N a (λR H=>bM P G N b a6 d c R H) d c R H:=rfl
def Pe(i:Nat)(b:Code)(a6:bI)(c:List (Nat×bI))(a:bI)(G:aw)(N:Nat)(R:bf)(H:ad):bM P G N (.block i b) a6 c a R H=bM P G N b a6 ((i,a6)::c) a R H:=rfl
def Pu(i:Nat)(a6:bI)(a:List (Nat×bI))(b:bI)(G:aw)(N:Nat)(R:bf)(H:ad):bM P G N (.exit i) a6 a b R H=Go.bz.look i a R H:=rfl
def P3(a6:bI)(b:List (Nat×bI))(a:bI)(G:aw)(N:Nat)(R:bf)(H:ad):bM P G N .ret a6 b a R H=a R H:=rfl
def P5(a6:bI)(b:List (Nat×bI))(a:bI)(G:aw)(N:Nat)(R:bf)(H:ad):bM P G N .skip a6 b a R H=a6 R H:=rfl
def PG(l:Nat)(a6:bI)(b:List (Nat×bI))(a:bI)(G:aw)(N:Nat)(R:bf)(H:ad):bM P G N (.label l) a6 b a R H=a6 R H:=rfl
def U1(i j:Nat)(k:bI)(a:List (Nat×bI))(R:bf)(H:ad):Go.bz.look i ((j,k)::a) R H=if i=j then k R H else Go.bz.look i a R H:=by
 show(bif Nat.beq i j then _ else _)=_;by_cases h:i=j
 ·rw[if_pos h,h,Nat.beq_refl];rfl
 ·rw[if_neg h];cases b:Nat.beq i j with
  |true=>exact absurd (Nat.eq_of_beq_eq_true b) h
  |false=>rfl
def Sn(a b:Code):Code.ax (.seq a b)=a:=rfl
def Sl(c:Operand)(a b:Code):Code.ax (.cond c a b)=a:=rfl
def Sk(i:Nat)(b:Code):Code.ax (.block i b)=b:=rfl
def Sm(b:Code):Code.ax (.loop b)=b:=rfl
def aal(a b:Code):Code.ag (.seq a b)=b:=rfl
def aak(c:Operand)(a b:Code):Code.ag (.cond c a b)=b:=rfl
def abP(c:Operand)(a b:Code):Code.test (.cond c a b)=c:=rfl
def Tw(v:Value):isConst (.const v)=true:=rfl
def Tx(t:Nat):isConst (.tmp t)=false:=rfl
def WG(f:Func):bg f=kd P f.results.toList:=rfl
def Pv(f:Func)(G:aw)(N:Nat):dB f G N=bM P G N (bw f) (bg f) [] (bg f):=rfl
def Gl{p:Prop}(h:p:=by decide+kernel):p:=h
def VR(i:Nat)(b:Code):Code.num (.block i b)=i:=rfl
def Ah(o:Option Oper)(R:bf):ae:=match o with
 |some q=>(match q.dst with
  |some d=>R d
  |none=> .tuple [])
 |none=> .tuple []
section
variable {G:aw}{R:bf}{H:ad}{k:ae->ad->O}{t s m:Nat}{x y z c:Operand}{i:Nat}
def aaW:dP P G (.move x) R H k=aU (bd R x) λv=>k v H:=rfl
def aaB:dP P G (.assign x) R H k=aU (bd R x) λv=>k v H:=rfl
def aaZ:dP P G (.pick c x y) R H k=aU ((bd R c).bind λu=>da u (bd R x) (bd R y)) λv=>k v H:=rfl
def aaF{db:Array (Nat×Operand)}:dP P G (.build t db) R H k=aU ((hS R db.toList).bind (dU P t)) λv=>k v H:=rfl
def aaY:dP P G (.nilCheck x) R H k=aU ((bd R x).bind λv=>hC v) λv=>k v H:=rfl
def aaC{op:BinOp}:dP P G (.binOp op t x y m) R H k=aU ((bd R x).bind λu=>(bd R y).bind λv=>bm P op t (isConst x||isConst y) u v) λv=>k v H:=rfl
def aa3{op:UnOp}:dP P G (.unOp op t x) R H k=aU ((bd R x).bind (iG op)) λv=>k v H:=rfl
def aaU:dP P G (.makeInterface t x) R H k=aU ((bd R x).bind (mE P t)) λv=>k v H:=rfl
def aaT{f:Fn}{a b:Array Operand}:dP P G (.makeFunc f a b) R H k=aU ((eE R a.toList).bind λfs=>(eE R b.toList).bind λcs=>D (.func f fs cs)) λv=>k v H:=rfl
def aa0{a b d:Option Operand}:dP P G (.slice t x a b d) R H k=aU ((bd R x).bind λv=>(iL R a).bind λl=>(iL R b).bind λh=>(iL R d).bind λm=>hD P t v l h m) λv=>k v H:=rfl
def aaM:dP P G (.fieldAddr t x i) R H k=aU ((bd R x).bind λv=>bN P t v i) λv=>k v H:=rfl
def aaL:dP P G (.field t x i) R H k=aU ((bd R x).bind λv=>nm P t v i) λv=>k v H:=rfl
def aaN:dP P G (.indexAddr t x y) R H k=aU ((bd R x).bind λu=>(bd R y).bind λv=>cm P t u v) λv=>k v H:=rfl
def aaO:dP P G (.index t x y) R H k=aU ((bd R x).bind λu=>(bd R y).bind λv=>ou P t u v) λv=>k v H:=rfl
def aaK:dP P G (.extract x i) R H k=aU ((bd R x).bind λv=>jD v i) λv=>k v H:=rfl
def aay:dP P G (.alloc t) R H k=y_ P H t (eU P t) k:=rfl
def aaD:dP P G (.box t x) R H k=(bd R x).bind λv=>eK H (k5 (j9 P t) H.next v) k:=rfl
def aaE{db:Array (Nat×Operand)}:dP P G (.buildSlice t i db) R H k=(hS R db.toList).bind λl=>eK H (gd P H.next t i l) k:=rfl
def aaX:dP P G (.makeSlice t x c) R H k=(bd R x).bind λu=>(bd R c).bind λv=>eK H (f_ (g9 P ⟨.leaf,H.next⟩ t u v) H.next) k:=rfl
def aaR:dP P G (.load t x) R H k=(bd R x).bind λu=>aU (aI P H t u) λv=>k v H:=rfl
def aa1:dP P G (.store t x y) R H k=(bd R x).bind λu=>(bd R y).bind λv=>fw H (cD P H t u v) λH'=>k (.tuple []) H':=rfl
def aaz{ts:Array Nat}:dP P G (.call ⟨.builtin .append,#[x,y],ts⟩) R H k=dW H ((bd R x).bind λu=>(bd R y).bind λv=>ee P H ts.toList u v) k:=rfl
def aaP{a:Array Operand}{ts:Array Nat}:dP P G (.call ⟨.builtin .len,a,ts⟩) R H k=(eE R a.toList).bind λak=>br P .len ts.toList ak H λw=>k w H:=rfl
def aaH{a:Array Operand}{ts:Array Nat}:dP P G (.call ⟨.builtin .cap,a,ts⟩) R H k=(eE R a.toList).bind λak=>br P .cap ts.toList ak H λw=>k w H:=rfl
def aaV{a:Array Operand}{ts:Array Nat}:dP P G (.call ⟨.builtin .min,a,ts⟩) R H k=(eE R a.toList).bind λak=>br P .min ts.toList ak H λw=>k w H:=rfl
def aaS{a:Array Operand}{ts:Array Nat}:dP P G (.call ⟨.builtin .max,a,ts⟩) R H k=(eE R a.toList).bind λak=>br P .max ts.toList ak H λw=>k w H:=rfl
def aaG{a:Array Operand}{ts:Array Nat}:dP P G (.call ⟨.value x,a,ts⟩) R H k=(bd R x).bind λu=>(eE R a.toList).bind λak=>oe G H u ak k:=rfl
def Z9:fj P G (.move x) R H=sw (bd R x):=rfl
def ZX:fj P G (.assign x) R H=sw (bd R x):=rfl
def Z8:fj P G (.load t x) R H=dt (bd R x) λu=>qr (aI P H t u):=rfl
def ZZ{db:Array (Nat×Operand)}:fj P G (.buildSlice t i db) R H=dt (hS R db.toList) λl q=>im (gd P H.next t i l) q:=rfl
def Z7{a:Array Operand}{ts:Array Nat}:fj P G (.call ⟨.builtin .len,a,ts⟩) R H=dt (eE R a.toList) λak q=>hM (bL P .empty .len ts.toList ak) (bL P H .len ts.toList ak) q:=rfl
def Z1{f:Nat}{a:Array Operand}{ts:Array Nat}:fj P G (.call ⟨.value (.func f),a,ts⟩) R H=dt (eE R a.toList) λak q=>dD H (G f ([]++ak++[]) H) q:=rfl
def ZY{op:BinOp}:fj P G (.binOp op t x y m) R H=dt (bd R x) λu=>dt (bd R y) λv=>b2 (bm P op t (isConst x||isConst y) u v):=rfl
def aac{op:UnOp}:fj P G (.unOp op t x) R H=dt (bd R x) λu=>b2 (iG op u):=rfl
def Z3:fj P G (.fieldAddr t x i) R H=dt (bd R x) λu=>b2 (bN P t u i):=rfl
def Z5:fj P G (.indexAddr t x y) R H=dt (bd R x) λu=>dt (bd R y) λv=>b2 (cm P t u v):=rfl
def Z_:fj P G (.nilCheck x) R H=dt (bd R x) λu=>b2 (hC u):=rfl
def Z2:fj P G (.extract x i) R H=dt (bd R x) λu=>b2 (jD u i):=rfl
def aaa:fj P G (.pick c x y) R H=dt (bd R c) λu=>b2 (da u (bd R x) (bd R y)):=rfl
def Z0{db:Array (Nat×Operand)}:fj P G (.build t db) R H=dt (hS R db.toList) λl=>b2 (dU P t l):=by
 funext q
 show dg P G (.build t db) R H q=_;simp only[dg,cls,gQ,dt];cases hS R db.toList<;>rfl
def Z6:fj P G (.index t x y) R H=dt (bd R x) λu=>dt (bd R y) λv=>b2 (ou P t u v):=by
 funext q
 show dg P G (.index t x y) R H q=_;simp only[dg,cls,gQ,dt];cases bd R x with
 |none=>rfl
 |some u=>cases bd R y<;>rfl
def Z4:fj P G (.field t x i) R H=dt (bd R x) λu=>b2 (nm P t u i):=by
 funext q
 show dg P G (.field t x i) R H q=_;simp only[dg,cls,gQ,dt];cases bd R x<;>rfl
def aab{a b d:Option Operand}:fj P G (.slice t x a b d) R H=dt (bd R x) λv=>dt (iL R a) λl=>dt (iL R b) λh=>dt (iL R d) λm=>b2 (hD P t v l h m):=by
 funext q
 show dg P G (.slice t x a b d) R H q=_;simp only[dg,cls,gQ,dt];cases bd R x with
 |none=>rfl
 |some u=>cases iL R a with
  |none=>rfl
  |some u=>cases iL R b with
   |none=>rfl
   |some u=>cases iL R d<;>rfl
def SG{os:List Oper}{j:Nat}:qc os.toArray j R=Ah os[j]? R:=by
 unfold qc Ah;rw[List.getElem?_toArray];cases os[j]? with
 |none=>rfl
 |some q=>rfl
def SF{d:Nat}{o:Op}{ty:TypeId}{p:String}{a:Array Edge}{g:Option (Nat×Bool)}:Ah (D ⟨D d,o,ty,p,a,g⟩) R=R d:=rfl
end
def adm:eU P 49=D [.int .i64 0,ae.aB,.bool Z,.int .i64 0,.int .i64 0,.int .i64 0,ae.aB]/\eU P 95=D [.str [],ae.aB]/\eU P 98=D [.str [],.int .i64 0,.int .i64 0,.int .i64 0]/\eU P 46=D [.int .i64 0,.int .i64 0,.int .i64 0]/\eU P 100=D [.int .i64 0,.int .i64 0,.int .i64 0,.int .i64 0]/\eU P 89=D [.int .i64 0,.int .i64 0,.int .i64 0,.int .i64 0,.int .i64 0,ae.aB]/\eU P 154=D [ae.aB,ae.aB]/\eU P 56=D [.int .i64 0,.int .i64 0,.int .i64 0,.int .i64 0]/\eU P 310=D []/\eU P 286=D [.int .i64 0,.int .i64 0,.int .i64 0]/\eU P 33=D [.int .i64 0,ae.aB,ae.aB,ae.aB]/\eU P 3=D [.int .i64 0]/\eU P 62=D [ae.aB,ae.aB,ae.aB]/\eU P 65=D [.int .i64 0,.int .i64 0]/\eU P 27=D [ae.aB,ae.aB,ae.aB,ae.aB,.int .i64 0]/\eU P 113=D [.int .i64 0,.str [],.int .i64 0,.int .i64 0]/\eU P 118=D [.str [],ae.aB,.int .i64 0]/\eU P 123=D [.str [],.str [],.int .i64 0,.int .i64 0]/\eU P 128=D [.str [],ae.aB,.bool Z,.str [],.int .i64 0,ae.aB,.int .i64 0]/\eU P 121=D [.str [],.int .i64 0]/\eU P 192=D [.int .i64 0,.str [],.str [],.int .i64 0,ae.aB,ae.aB,ae.aB,.int .i64 0,.int .i64 0]/\eU P 235=D [.int .i64 0,.int .i64 0,.str [],.str [],.int .i64 0,ae.aB,.int .i64 0,.int .i64 0,.int .i64 0,.int .i64 0,.int .i64 0]/\eU P 135=D [ae.aB,ae.aB,ae.aB,.int .i64 0,ae.aB]/\eU P 132=D [ae.aB,ae.aB,ae.aB,.int .i64 0]/\eU P 143=D [.str [],ae.aB,.bool Z,.int .i64 0,.int .i64 0,.int .i64 0]/\eU P 141=D [ae.aB,ae.aB,.int .i64 0]/\eU P 294=D [.int .u64 0]:=by
 repeat (refine ar aF ?_)
 kernel_rfl
instance {α β:Type}{p:(α->β)->Prop}:CoeFun {g:α->β // p g} λ_=>α->β:=⟨Subtype.val⟩
def Gj:=ar (ar (ar (ar (ar (ar @SA (ar @St @Su)) (ar (ar @Sz @Ss) (ar @Sy @Sx))) (ar (ar @Sw (ar @Sv @SC)) (ar (ar @SB @Sd) (ar @Sc @Sq)))) (ar (ar (ar @Sr (ar @acv @acw)) (ar (ar @ac9 @Oh) (ar @Oi @ac7))) (ar (ar @W5 (ar @WY @W2)) (ar (ar @WZ @N0) (ar @N1 @N2))))) (ar (ar (ar (ar @ZI (ar @WU @OV)) (ar (ar @adh @Px) (ar @P2 @P4))) (ar (ar @Pe (ar @Pu @P3)) (ar (ar @P5 @PG) (ar @U1 @Sn)))) (ar (ar (ar @Sl (ar @Sk @Sm)) (ar (ar @aal @aak) (ar @abP @Tw))) (ar (ar (ar @Tx @WG) (ar @Pv @VR)) (ar (ar @aaW @aaB) (ar @aaZ @aaF)))))) (ar (ar (ar (ar (ar @aaY (ar @aaC @aa3)) (ar (ar @aaU @aaT) (ar @aa0 @aaM))) (ar (ar @aaL (ar @aaN @aaO)) (ar (ar @aaK @aay) (ar @aaD @aaE)))) (ar (ar (ar @aaX (ar @aaR @aa1)) (ar (ar @aaz @aaP) (ar @aaH @aaV))) (ar (ar (ar @aaS @aaG) (ar @Z9 @ZX)) (ar (ar @Z8 @ZZ) (ar @Z7 @Z1))))) (ar (ar (ar (ar @ZY (ar @aac @Z3)) (ar (ar @Z5 @Z_) (ar @Z2 @aaa))) (ar (ar @Z0 (ar @Z6 @Z4)) (ar (ar @aab @SF) (ar @SG (@WR P))))) (ar (ar (ar (@ZK P) (ar (@ZJ P) @Ox)) (ar (ar @Wx adm) (ar @Option.bind_some.{0,0} @List.toList_toArray.{0}))) (ar (ar (ar @List.getElem?_cons_succ.{0} @List.getElem?_cons_zero.{0}) (ar @Bool.or_false @Bool.or_true)) (ar (ar @Bool.false_or @Bool.true_or) (ar @List.nil_append.{0} @List.append_nil.{0}))))))
abbrev T0:=ad->O
abbrev T1:=ae->T0
abbrev T2:=ae->T1
abbrev c6:=ae->T2
abbrev b_:=ae->c6
abbrev dj:=ae->b_
abbrev dr:=ae->dj
abbrev fI:=ae->dr
abbrev iy:=ae->fI
abbrev jC:=ae->iy
abbrev hf:=ae->jC
abbrev nh:=ae->hf
abbrev EH:=ae->nh
abbrev adn:T0:=λ_=>I
abbrev M3:T1:=λ_=>adn
abbrev mu:T2:=λ_=>M3
abbrev iq:c6:=λ_=>mu
abbrev fk:b_:=λ_=>iq
abbrev jc:dj:=λ_=>fk
abbrev lO:dr:=λ_=>jc
abbrev pB:fI:=λ_=>lO
abbrev M4:iy:=λ_=>pB
abbrev za:jC:=λ_=>M4
abbrev uD:hf:=λ_=>za
abbrev ado:nh:=λ_=>uD
def bh(g:T0):bI:=λR H=>g H
def Pg{g:T0}{R:bf}{H:ad}:bh g R H=g H:=rfl
def a8(g:T1)(i0:Nat):bI:=λR H=>g (R i0) H
def Ph{g:T1}{i0:Nat}{R:bf}{H:ad}:a8 g i0 R H=g (R i0) H:=rfl
def bo(g:T2)(i0 i1:Nat):bI:=λR H=>g (R i0) (R i1) H
def Pm{g:T2}{i0 i1:Nat}{R:bf}{H:ad}:bo g i0 i1 R H=g (R i0) (R i1) H:=rfl
def bJ(g:c6)(i0 i1 i2:Nat):bI:=λR H=>g (R i0) (R i1) (R i2) H
def Pn{g:c6}{i0 i1 i2:Nat}{R:bf}{H:ad}:bJ g i0 i1 i2 R H=g (R i0) (R i1) (R i2) H:=rfl
def bT(g:b_)(i0 i1 i2 i3:Nat):bI:=λR H=>g (R i0) (R i1) (R i2) (R i3) H
def Po{g:b_}{i0 i1 i2 i3:Nat}{R:bf}{H:ad}:bT g i0 i1 i2 i3 R H=g (R i0) (R i1) (R i2) (R i3) H:=rfl
def cn(g:dj)(i0 i1 i2 i3 i4:Nat):bI:=λR H=>g (R i0) (R i1) (R i2) (R i3) (R i4) H
def Pp{g:dj}{i0 i1 i2 i3 i4:Nat}{R:bf}{H:ad}:cn g i0 i1 i2 i3 i4 R H=g (R i0) (R i1) (R i2) (R i3) (R i4) H:=rfl
def cy(g:dr)(i0 i1 i2 i3 i4 i5:Nat):bI:=λR H=>g (R i0) (R i1) (R i2) (R i3) (R i4) (R i5) H
def Pq{g:dr}{i0 i1 i2 i3 i4 i5:Nat}{R:bf}{H:ad}:cy g i0 i1 i2 i3 i4 i5 R H=g (R i0) (R i1) (R i2) (R i3) (R i4) (R i5) H:=rfl
def ea(g:fI)(i0 i1 i2 i3 i4 i5 i6:Nat):bI:=λR H=>g (R i0) (R i1) (R i2) (R i3) (R i4) (R i5) (R i6) H
def Pr{g:fI}{i0 i1 i2 i3 i4 i5 i6:Nat}{R:bf}{H:ad}:ea g i0 i1 i2 i3 i4 i5 i6 R H=g (R i0) (R i1) (R i2) (R i3) (R i4) (R i5) (R i6) H:=rfl
def e3(g:iy)(i0 i1 i2 i3 i4 i5 i6 i7:Nat):bI:=λR H=>g (R i0) (R i1) (R i2) (R i3) (R i4) (R i5) (R i6) (R i7) H
def Ps{g:iy}{i0 i1 i2 i3 i4 i5 i6 i7:Nat}{R:bf}{H:ad}:e3 g i0 i1 i2 i3 i4 i5 i6 i7 R H=g (R i0) (R i1) (R i2) (R i3) (R i4) (R i5) (R i6) (R i7) H:=rfl
def rH(g:jC)(i0 i1 i2 i3 i4 i5 i6 i7 i8:Nat):bI:=λR H=>g (R i0) (R i1) (R i2) (R i3) (R i4) (R i5) (R i6) (R i7) (R i8) H
def Pt{g:jC}{i0 i1 i2 i3 i4 i5 i6 i7 i8:Nat}{R:bf}{H:ad}:rH g i0 i1 i2 i3 i4 i5 i6 i7 i8 R H=g (R i0) (R i1) (R i2) (R i3) (R i4) (R i5) (R i6) (R i7) (R i8) H:=rfl
def jX(g:hf)(i0 i1 i2 i3 i4 i5 i6 i7 i8 i9:Nat):bI:=λR H=>g (R i0) (R i1) (R i2) (R i3) (R i4) (R i5) (R i6) (R i7) (R i8) (R i9) H
def Pj{g:hf}{i0 i1 i2 i3 i4 i5 i6 i7 i8 i9:Nat}{R:bf}{H:ad}:jX g i0 i1 i2 i3 i4 i5 i6 i7 i8 i9 R H=g (R i0) (R i1) (R i2) (R i3) (R i4) (R i5) (R i6) (R i7) (R i8) (R i9) H:=rfl
def FH(g:nh)(i0 i1 i2 i3 i4 i5 i6 i7 i8 i9 i10:Nat):bI:=λR H=>g (R i0) (R i1) (R i2) (R i3) (R i4) (R i5) (R i6) (R i7) (R i8) (R i9) (R i10) H
def Pk{g:nh}{i0 i1 i2 i3 i4 i5 i6 i7 i8 i9 i10:Nat}{R:bf}{H:ad}:FH g i0 i1 i2 i3 i4 i5 i6 i7 i8 i9 i10 R H=g (R i0) (R i1) (R i2) (R i3) (R i4) (R i5) (R i6) (R i7) (R i8) (R i9) (R i10) H:=rfl
def O0(g:EH)(i0 i1 i2 i3 i4 i5 i6 i7 i8 i9 i10 i11:Nat):bI:=λR H=>g (R i0) (R i1) (R i2) (R i3) (R i4) (R i5) (R i6) (R i7) (R i8) (R i9) (R i10) (R i11) H
def Pl{g:EH}{i0 i1 i2 i3 i4 i5 i6 i7 i8 i9 i10 i11:Nat}{R:bf}{H:ad}:O0 g i0 i1 i2 i3 i4 i5 i6 i7 i8 i9 i10 i11 R H=g (R i0) (R i1) (R i2) (R i3) (R i4) (R i5) (R i6) (R i7) (R i8) (R i9) (R i10) (R i11) H:=rfl
def FM:=ar (ar (ar @Pg (ar @Ph @Pm)) (ar @Pn (ar @Po @Pp))) (ar (ar @Pq (ar @Pr @Ps)) (ar (ar @Pt @Pj) (ar @Pk @Pl)))
def hL{p:Prop}(h:p:=by intros;simp(maxSteps:=4000000) (disch:=try exact Gl)only[Gj,FM,Nat.reduceEqDiff,reduceIte, *];rfl):p:=h
def cr{A B zC:bI}(h:∀R H,A R H=B R H)(e:∀R H,B R H=zC R H:=by intro R H;kernel_rfl):∀R H,A R H=zC R H:=λR H=>(h R H).trans (e R H)
section
variable {f:Func}{G:aw}{N:Nat}{c d:Code}{bW B:bI}{bS:List (Nat×bI)}{rs:List ResultVar}
abbrev g5(f:Func)(G:aw)(N:Nat)(p:Code->Code)(bW:bI)(bS:List (Nat×bI)):={g:T0 // ∀R H,bM P G N (p (bw f)) bW bS (bg f) R H=g H}
abbrev W0(f:Func)(G:aw)(p:Code->Code)(bW:bI)(bS:List (Nat×bI)):={g:T0 // ∀N R H,bM P G N (p (bw f)) bW bS (bg f) R H=g H}
def v0{g:T0}(h:∀R H,bM P G N c bW bS (bg f) R H=B R H)(a:bw f=d:=by(conv=>lhs;whnf);try rfl)(au:f.results.toList=rs:=by(conv=>lhs;whnf);try rfl)(e:bw f=d->f.results.toList=rs->∀(R:bf) H,B R H=g H:=by exact hL):∀R H,bM P G N c bW bS (bg f) R H=g H:=λR H=>(h R H).trans (e a au R H)
abbrev et(i0:Nat)(f:Func)(G:aw)(N:Nat)(p:Code->Code)(bW:bI)(bS:List (Nat×bI)):={g:T1 // ∀R H,bM P G N (p (bw f)) bW bS (bg f) R H=g (R i0) H}
abbrev hh(i0:Nat)(f:Func)(G:aw)(p:Code->Code)(bW:bI)(bS:List (Nat×bI)):={g:T1 // ∀N R H,bM P G N (p (bw f)) bW bS (bg f) R H=g (R i0) H}
def v1{g:T1}{i0:Nat}(h:∀R H,bM P G N c bW bS (bg f) R H=B R H)(b:bw f=d:=by(conv=>lhs;whnf);try rfl)(au:f.results.toList=rs:=by(conv=>lhs;whnf);try rfl)(e:bw f=d->f.results.toList=rs->∀a (R:bf) H,R i0=a->B R H=g a H:=by exact hL):∀R H,bM P G N c bW bS (bg f) R H=g (R i0) H:=λR H=>(h R H).trans (e b au _ R H rfl)
abbrev g6(i0 i1:Nat)(f:Func)(G:aw)(N:Nat)(p:Code->Code)(bW:bI)(bS:List (Nat×bI)):={g:T2 // ∀R H,bM P G N (p (bw f)) bW bS (bg f) R H=g (R i0) (R i1) H}
abbrev pK(i0 i1:Nat)(f:Func)(G:aw)(p:Code->Code)(bW:bI)(bS:List (Nat×bI)):={g:T2 // ∀N R H,bM P G N (p (bw f)) bW bS (bg f) R H=g (R i0) (R i1) H}
def v2{g:T2}{i0 i1:Nat}(h:∀R H,bM P G N c bW bS (bg f) R H=B R H)(b:bw f=d:=by(conv=>lhs;whnf);try rfl)(au:f.results.toList=rs:=by(conv=>lhs;whnf);try rfl)(e:bw f=d->f.results.toList=rs->∀a x1 (R:bf) H,R i0=a->R i1=x1->B R H=g a x1 H:=by exact hL):∀R H,bM P G N c bW bS (bg f) R H=g (R i0) (R i1) H:=λR H=>(h R H).trans (e b au _ _ R H rfl rfl)
abbrev gj(i0 i1 i2:Nat)(f:Func)(G:aw)(N:Nat)(p:Code->Code)(bW:bI)(bS:List (Nat×bI)):={g:c6 // ∀R H,bM P G N (p (bw f)) bW bS (bg f) R H=g (R i0) (R i1) (R i2) H}
abbrev iA(i0 i1 i2:Nat)(f:Func)(G:aw)(p:Code->Code)(bW:bI)(bS:List (Nat×bI)):={g:c6 // ∀N R H,bM P G N (p (bw f)) bW bS (bg f) R H=g (R i0) (R i1) (R i2) H}
def v3{g:c6}{i0 i1 i2:Nat}(h:∀R H,bM P G N c bW bS (bg f) R H=B R H)(b:bw f=d:=by(conv=>lhs;whnf);try rfl)(au:f.results.toList=rs:=by(conv=>lhs;whnf);try rfl)(e:bw f=d->f.results.toList=rs->∀a x1 x2 (R:bf) H,R i0=a->R i1=x1->R i2=x2->B R H=g a x1 x2 H:=by exact hL):∀R H,bM P G N c bW bS (bg f) R H=g (R i0) (R i1) (R i2) H:=λR H=>(h R H).trans (e b au _ _ _ R H rfl rfl rfl)
abbrev en(i0 i1 i2 i3:Nat)(f:Func)(G:aw)(N:Nat)(p:Code->Code)(bW:bI)(bS:List (Nat×bI)):={g:b_ // ∀R H,bM P G N (p (bw f)) bW bS (bg f) R H=g (R i0) (R i1) (R i2) (R i3) H}
abbrev nk(i0 i1 i2 i3:Nat)(f:Func)(G:aw)(p:Code->Code)(bW:bI)(bS:List (Nat×bI)):={g:b_ // ∀N R H,bM P G N (p (bw f)) bW bS (bg f) R H=g (R i0) (R i1) (R i2) (R i3) H}
def v4{g:b_}{i0 i1 i2 i3:Nat}(h:∀R H,bM P G N c bW bS (bg f) R H=B R H)(i:bw f=d:=by(conv=>lhs;whnf);try rfl)(au:f.results.toList=rs:=by(conv=>lhs;whnf);try rfl)(e:bw f=d->f.results.toList=rs->∀a x1 x2 b (R:bf) H,R i0=a->R i1=x1->R i2=x2->R i3=b->B R H=g a x1 x2 b H:=by exact hL):∀R H,bM P G N c bW bS (bg f) R H=g (R i0) (R i1) (R i2) (R i3) H:=λR H=>(h R H).trans (e i au _ _ _ _ R H rfl rfl rfl rfl)
abbrev gk(i0 i1 i2 i3 i4:Nat)(f:Func)(G:aw)(N:Nat)(p:Code->Code)(bW:bI)(bS:List (Nat×bI)):={g:dj // ∀R H,bM P G N (p (bw f)) bW bS (bg f) R H=g (R i0) (R i1) (R i2) (R i3) (R i4) H}
abbrev pL(i0 i1 i2 i3 i4:Nat)(f:Func)(G:aw)(p:Code->Code)(bW:bI)(bS:List (Nat×bI)):={g:dj // ∀N R H,bM P G N (p (bw f)) bW bS (bg f) R H=g (R i0) (R i1) (R i2) (R i3) (R i4) H}
def v5{g:dj}{i0 i1 i2 i3 i4:Nat}(h:∀R H,bM P G N c bW bS (bg f) R H=B R H)(i:bw f=d:=by(conv=>lhs;whnf);try rfl)(au:f.results.toList=rs:=by(conv=>lhs;whnf);try rfl)(e:bw f=d->f.results.toList=rs->∀a x1 x2 b x4 (R:bf) H,R i0=a->R i1=x1->R i2=x2->R i3=b->R i4=x4->B R H=g a x1 x2 b x4 H:=by exact hL):∀R H,bM P G N c bW bS (bg f) R H=g (R i0) (R i1) (R i2) (R i3) (R i4) H:=λR H=>(h R H).trans (e i au _ _ _ _ _ R H rfl rfl rfl rfl rfl)
abbrev iz(i0 i1 i2 i3 i4 i5:Nat)(f:Func)(G:aw)(N:Nat)(p:Code->Code)(bW:bI)(bS:List (Nat×bI)):={g:dr // ∀R H,bM P G N (p (bw f)) bW bS (bg f) R H=g (R i0) (R i1) (R i2) (R i3) (R i4) (R i5) H}
abbrev W6(i0 i1 i2 i3 i4 i5:Nat)(f:Func)(G:aw)(p:Code->Code)(bW:bI)(bS:List (Nat×bI)):={g:dr // ∀N R H,bM P G N (p (bw f)) bW bS (bg f) R H=g (R i0) (R i1) (R i2) (R i3) (R i4) (R i5) H}
def v6{g:dr}{i0 i1 i2 i3 i4 i5:Nat}(h:∀R H,bM P G N c bW bS (bg f) R H=B R H)(i:bw f=d:=by(conv=>lhs;whnf);try rfl)(au:f.results.toList=rs:=by(conv=>lhs;whnf);try rfl)(e:bw f=d->f.results.toList=rs->∀a x1 x2 b x4 x5 (R:bf) H,R i0=a->R i1=x1->R i2=x2->R i3=b->R i4=x4->R i5=x5->B R H=g a x1 x2 b x4 x5 H:=by exact hL):∀R H,bM P G N c bW bS (bg f) R H=g (R i0) (R i1) (R i2) (R i3) (R i4) (R i5) H:=λR H=>(h R H).trans (e i au _ _ _ _ _ _ R H rfl rfl rfl rfl rfl rfl)
abbrev kX(i0 i1 i2 i3 i4 i5 i6:Nat)(f:Func)(G:aw)(N:Nat)(p:Code->Code)(bW:bI)(bS:List (Nat×bI)):={g:fI // ∀R H,bM P G N (p (bw f)) bW bS (bg f) R H=g (R i0) (R i1) (R i2) (R i3) (R i4) (R i5) (R i6) H}
abbrev rn(i0 i1 i2 i3 i4 i5 i6:Nat)(f:Func)(G:aw)(p:Code->Code)(bW:bI)(bS:List (Nat×bI)):={g:fI // ∀N R H,bM P G N (p (bw f)) bW bS (bg f) R H=g (R i0) (R i1) (R i2) (R i3) (R i4) (R i5) (R i6) H}
def kQ{g:fI}{i0 i1 i2 i3 i4 i5 i6:Nat}(h:∀R H,bM P G N c bW bS (bg f) R H=B R H)(i:bw f=d:=by(conv=>lhs;whnf);try rfl)(au:f.results.toList=rs:=by(conv=>lhs;whnf);try rfl)(e:bw f=d->f.results.toList=rs->∀a x1 x2 b x4 x5 x6 (R:bf) H,R i0=a->R i1=x1->R i2=x2->R i3=b->R i4=x4->R i5=x5->R i6=x6->B R H=g a x1 x2 b x4 x5 x6 H:=by exact hL):∀R H,bM P G N c bW bS (bg f) R H=g (R i0) (R i1) (R i2) (R i3) (R i4) (R i5) (R i6) H:=λR H=>(h R H).trans (e i au _ _ _ _ _ _ _ R H rfl rfl rfl rfl rfl rfl rfl)
abbrev EI(i0 i1 i2 i3 i4 i5 i6 i7:Nat)(f:Func)(G:aw)(N:Nat)(p:Code->Code)(bW:bI)(bS:List (Nat×bI)):={g:iy // ∀R H,bM P G N (p (bw f)) bW bS (bg f) R H=g (R i0) (R i1) (R i2) (R i3) (R i4) (R i5) (R i6) (R i7) H}
def yX{g:iy}{i0 i1 i2 i3 i4 i5 i6 i7:Nat}(h:∀R H,bM P G N c bW bS (bg f) R H=B R H)(i:bw f=d:=by(conv=>lhs;whnf);try rfl)(au:f.results.toList=rs:=by(conv=>lhs;whnf);try rfl)(e:bw f=d->f.results.toList=rs->∀a x1 x2 b x4 x5 x6 x7 (R:bf) H,R i0=a->R i1=x1->R i2=x2->R i3=b->R i4=x4->R i5=x5->R i6=x6->R i7=x7->B R H=g a x1 x2 b x4 x5 x6 x7 H:=by exact hL):∀R H,bM P G N c bW bS (bg f) R H=g (R i0) (R i1) (R i2) (R i3) (R i4) (R i5) (R i6) (R i7) H:=λR H=>(h R H).trans (e i au _ _ _ _ _ _ _ _ R H rfl rfl rfl rfl rfl rfl rfl rfl)
abbrev uM(i0 i1 i2 i3 i4 i5 i6 i7 i8:Nat)(f:Func)(G:aw)(N:Nat)(p:Code->Code)(bW:bI)(bS:List (Nat×bI)):={g:jC // ∀R H,bM P G N (p (bw f)) bW bS (bg f) R H=g (R i0) (R i1) (R i2) (R i3) (R i4) (R i5) (R i6) (R i7) (R i8) H}
def v9{g:jC}{i0 i1 i2 i3 i4 i5 i6 i7 i8:Nat}(h:∀R H,bM P G N c bW bS (bg f) R H=B R H)(i:bw f=d:=by(conv=>lhs;whnf);try rfl)(au:f.results.toList=rs:=by(conv=>lhs;whnf);try rfl)(e:bw f=d->f.results.toList=rs->∀a x1 x2 b x4 x5 x6 x7 x8 (R:bf) H,R i0=a->R i1=x1->R i2=x2->R i3=b->R i4=x4->R i5=x5->R i6=x6->R i7=x7->R i8=x8->B R H=g a x1 x2 b x4 x5 x6 x7 x8 H:=by exact hL):∀R H,bM P G N c bW bS (bg f) R H=g (R i0) (R i1) (R i2) (R i3) (R i4) (R i5) (R i6) (R i7) (R i8) H:=λR H=>(h R H).trans (e i au _ _ _ _ _ _ _ _ _ R H rfl rfl rfl rfl rfl rfl rfl rfl rfl)
abbrev pJ(i0 i1 i2 i3 i4 i5 i6 i7 i8 i9:Nat)(f:Func)(G:aw)(N:Nat)(p:Code->Code)(bW:bI)(bS:List (Nat×bI)):={g:hf // ∀R H,bM P G N (p (bw f)) bW bS (bg f) R H=g (R i0) (R i1) (R i2) (R i3) (R i4) (R i5) (R i6) (R i7) (R i8) (R i9) H}
def v10{g:hf}{i0 i1 i2 i3 i4 i5 i6 i7 i8 i9:Nat}(h:∀R H,bM P G N c bW bS (bg f) R H=B R H)(j:bw f=d:=by(conv=>lhs;whnf);try rfl)(au:f.results.toList=rs:=by(conv=>lhs;whnf);try rfl)(e:bw f=d->f.results.toList=rs->∀a x1 x2 b x4 x5 x6 x7 x8 i (R:bf) H,R i0=a->R i1=x1->R i2=x2->R i3=b->R i4=x4->R i5=x5->R i6=x6->R i7=x7->R i8=x8->R i9=i->B R H=g a x1 x2 b x4 x5 x6 x7 x8 i H:=by exact hL):∀R H,bM P G N c bW bS (bg f) R H=g (R i0) (R i1) (R i2) (R i3) (R i4) (R i5) (R i6) (R i7) (R i8) (R i9) H:=λR H=>(h R H).trans (e j au _ _ _ _ _ _ _ _ _ _ R H rfl rfl rfl rfl rfl rfl rfl rfl rfl rfl)
abbrev uL(i0 i1 i2 i3 i4 i5 i6 i7 i8 i9 i10:Nat)(f:Func)(G:aw)(N:Nat)(p:Code->Code)(bW:bI)(bS:List (Nat×bI)):={g:nh // ∀R H,bM P G N (p (bw f)) bW bS (bg f) R H=g (R i0) (R i1) (R i2) (R i3) (R i4) (R i5) (R i6) (R i7) (R i8) (R i9) (R i10) H}
def v11{g:nh}{i0 i1 i2 i3 i4 i5 i6 i7 i8 i9 i10:Nat}(h:∀R H,bM P G N c bW bS (bg f) R H=B R H)(j:bw f=d:=by(conv=>lhs;whnf);try rfl)(au:f.results.toList=rs:=by(conv=>lhs;whnf);try rfl)(e:bw f=d->f.results.toList=rs->∀a x1 x2 b x4 x5 x6 x7 x8 i x10 (R:bf) H,R i0=a->R i1=x1->R i2=x2->R i3=b->R i4=x4->R i5=x5->R i6=x6->R i7=x7->R i8=x8->R i9=i->R i10=x10->B R H=g a x1 x2 b x4 x5 x6 x7 x8 i x10 H:=by exact hL):∀R H,bM P G N c bW bS (bg f) R H=g (R i0) (R i1) (R i2) (R i3) (R i4) (R i5) (R i6) (R i7) (R i8) (R i9) (R i10) H:=λR H=>(h R H).trans (e j au _ _ _ _ _ _ _ _ _ _ _ R H rfl rfl rfl rfl rfl rfl rfl rfl rfl rfl rfl)
abbrev rp(f:Func)(G:aw):={g:T0 // ∀N H,dB f G N (cG []) H=g H}
def t0{g:T0}(h:∀R H,dB f G N R H=B R H)(a:bw f=d:=by(conv=>lhs;whnf);try rfl)(au:f.results.toList=rs:=by(conv=>lhs;whnf);try rfl)(e:bw f=d->f.results.toList=rs->∀H,B (cG []) H=g H:=by exact hL):∀H,dB f G N (cG []) H=g H:=λH=>(h _ H).trans (e a au H)
def H6{g:T0}{A:bI}(h:∀R H,A R H=B R H)(e:∀H,B (cG []) H=g H:=by intros;kernel_rfl):∀H,A (cG []) H=g H:=λH=>(h _ H).trans (e H)
def Bz{i:Nat}{S:aw->T0}(az:P.funcs[i]? =D f)(he:∀G H,dB f G N (cG []) H=S G H)(b:∀a H,aK i a H=none:=by intros;kernel_rfl)(c:f.body=D (bw f):=by first|kernel_rfl)(d:fV f.ntmps (bw f)=true:=by first|kernel_rfl)(aH:Nat.ble 0 f.ntmps=true:=by first|kernel_rfl) ⦃H Q⦄(h:W (S (aQ P aK) H) Q):W (aQ P aK i [] H) Q:=pM (λ_ h=>o4 (b _ _) az c d aH ((he _ H).trans h)) h
abbrev fU(f:Func)(G:aw)(N:Nat):={g:T1 // ∀a H,dB f G N (cG [a]) H=g a H}
abbrev gM(f:Func)(G:aw):={g:T1 // ∀N a H,dB f G N (cG [a]) H=g a H}
def t1{g:T1}(h:∀R H,dB f G N R H=B R H)(b:bw f=d:=by(conv=>lhs;whnf);try rfl)(au:f.results.toList=rs:=by(conv=>lhs;whnf);try rfl)(e:bw f=d->f.results.toList=rs->∀a H,B (cG [a]) H=g a H:=by exact hL):∀a H,dB f G N (cG [a]) H=g a H:=λa H=>(h _ H).trans (e b au a H)
def vC{g:T1}{A:bI}(h:∀R H,A R H=B R H)(e:∀a H,B (cG [a]) H=g a H:=by intros;kernel_rfl):∀a H,A (cG [a]) H=g a H:=λa H=>(h _ H).trans (e a H)
def dZ{i:Nat}{S:aw->T1}(az:P.funcs[i]? =D f)(he:∀G b H,dB f G N (cG [b]) H=S G b H)(c:∀a H,aK i a H=none:=by intros;kernel_rfl)(d:f.body=D (bw f):=by first|kernel_rfl)(e:fV f.ntmps (bw f)=true:=by first|kernel_rfl)(aH:Nat.ble 1 f.ntmps=true:=by first|kernel_rfl) ⦃b H Q⦄(h:W (S (aQ P aK) b H) Q):W (aQ P aK i [b] H) Q:=pM (λ_ h=>o4 (c _ _) az d e aH ((he _ b H).trans h)) h
abbrev fJ(f:Func)(G:aw)(N:Nat):={g:T2 // ∀a x1 H,dB f G N (cG [a,x1]) H=g a x1 H}
abbrev ev(f:Func)(G:aw):={g:T2 // ∀N a x1 H,dB f G N (cG [a,x1]) H=g a x1 H}
def t2{g:T2}(h:∀R H,dB f G N R H=B R H)(b:bw f=d:=by(conv=>lhs;whnf);try rfl)(au:f.results.toList=rs:=by(conv=>lhs;whnf);try rfl)(e:bw f=d->f.results.toList=rs->∀a x1 H,B (cG [a,x1]) H=g a x1 H:=by exact hL):∀a x1 H,dB f G N (cG [a,x1]) H=g a x1 H:=λa x1 H=>(h _ H).trans (e b au a x1 H)
def H7{g:T2}{A:bI}(h:∀R H,A R H=B R H)(e:∀a x1 H,B (cG [a,x1]) H=g a x1 H:=by intros;kernel_rfl):∀a x1 H,A (cG [a,x1]) H=g a x1 H:=λa x1 H=>(h _ H).trans (e a x1 H)
def dc{i:Nat}{S:aw->T2}(az:P.funcs[i]? =D f)(he:∀G b x1 H,dB f G N (cG [b,x1]) H=S G b x1 H)(c:∀a H,aK i a H=none:=by intros;kernel_rfl)(d:f.body=D (bw f):=by first|kernel_rfl)(e:fV f.ntmps (bw f)=true:=by first|kernel_rfl)(aH:Nat.ble 2 f.ntmps=true:=by first|kernel_rfl) ⦃b x1 H Q⦄(h:W (S (aQ P aK) b x1 H) Q):W (aQ P aK i [b,x1] H) Q:=pM (λ_ h=>o4 (c _ _) az d e aH ((he _ b x1 H).trans h)) h
abbrev oq(f:Func)(G:aw)(N:Nat):={g:c6 // ∀a x1 x2 H,dB f G N (cG [a,x1,x2]) H=g a x1 x2 H}
abbrev iB(f:Func)(G:aw):={g:c6 // ∀N a x1 x2 H,dB f G N (cG [a,x1,x2]) H=g a x1 x2 H}
def t3{g:c6}(h:∀R H,dB f G N R H=B R H)(b:bw f=d:=by(conv=>lhs;whnf);try rfl)(au:f.results.toList=rs:=by(conv=>lhs;whnf);try rfl)(e:bw f=d->f.results.toList=rs->∀a x1 x2 H,B (cG [a,x1,x2]) H=g a x1 x2 H:=by exact hL):∀a x1 x2 H,dB f G N (cG [a,x1,x2]) H=g a x1 x2 H:=λa x1 x2 H=>(h _ H).trans (e b au a x1 x2 H)
def H8{g:c6}{A:bI}(h:∀R H,A R H=B R H)(e:∀a x1 x2 H,B (cG [a,x1,x2]) H=g a x1 x2 H:=by intros;kernel_rfl):∀a x1 x2 H,A (cG [a,x1,x2]) H=g a x1 x2 H:=λa x1 x2 H=>(h _ H).trans (e a x1 x2 H)
def g0{i:Nat}{S:aw->c6}(az:P.funcs[i]? =D f)(he:∀G b x1 x2 H,dB f G N (cG [b,x1,x2]) H=S G b x1 x2 H)(c:∀a H,aK i a H=none:=by intros;kernel_rfl)(d:f.body=D (bw f):=by first|kernel_rfl)(e:fV f.ntmps (bw f)=true:=by first|kernel_rfl)(aH:Nat.ble 3 f.ntmps=true:=by first|kernel_rfl) ⦃b x1 x2 H Q⦄(h:W (S (aQ P aK) b x1 x2 H) Q):W (aQ P aK i [b,x1,x2] H) Q:=pM (λ_ h=>o4 (c _ _) az d e aH ((he _ b x1 x2 H).trans h)) h
abbrev Nd(f:Func)(G:aw)(N:Nat):={g:b_ // ∀a x1 x2 b H,dB f G N (cG [a,x1,x2,b]) H=g a x1 x2 b H}
abbrev rq(f:Func)(G:aw):={g:b_ // ∀N a x1 x2 b H,dB f G N (cG [a,x1,x2,b]) H=g a x1 x2 b H}
def t4{g:b_}(h:∀R H,dB f G N R H=B R H)(c:bw f=d:=by(conv=>lhs;whnf);try rfl)(au:f.results.toList=rs:=by(conv=>lhs;whnf);try rfl)(e:bw f=d->f.results.toList=rs->∀a x1 x2 b H,B (cG [a,x1,x2,b]) H=g a x1 x2 b H:=by exact hL):∀a x1 x2 b H,dB f G N (cG [a,x1,x2,b]) H=g a x1 x2 b H:=λa x1 x2 b H=>(h _ H).trans (e c au a x1 x2 b H)
def TZ{g:b_}{A:bI}(h:∀R H,A R H=B R H)(e:∀a x1 x2 b H,B (cG [a,x1,x2,b]) H=g a x1 x2 b H:=by intros;kernel_rfl):∀a x1 x2 b H,A (cG [a,x1,x2,b]) H=g a x1 x2 b H:=λa x1 x2 b H=>(h _ H).trans (e a x1 x2 b H)
def qx{i:Nat}{S:aw->b_}(az:P.funcs[i]? =D f)(he:∀G b x1 x2 c H,dB f G N (cG [b,x1,x2,c]) H=S G b x1 x2 c H)(d:∀a H,aK i a H=none:=by intros;kernel_rfl)(e:f.body=D (bw f):=by first|kernel_rfl)(g:fV f.ntmps (bw f)=true:=by first|kernel_rfl)(aH:Nat.ble 4 f.ntmps=true:=by first|kernel_rfl) ⦃b x1 x2 c H Q⦄(h:W (S (aQ P aK) b x1 x2 c H) Q):W (aQ P aK i [b,x1,x2,c] H) Q:=pM (λ_ h=>o4 (d _ _) az e g aH ((he _ b x1 x2 c H).trans h)) h
abbrev EK(f:Func)(G:aw):={g:dj // ∀N a x1 x2 b x4 H,dB f G N (cG [a,x1,x2,b,x4]) H=g a x1 x2 b x4 H}
def t5{g:dj}(h:∀R H,dB f G N R H=B R H)(c:bw f=d:=by(conv=>lhs;whnf);try rfl)(au:f.results.toList=rs:=by(conv=>lhs;whnf);try rfl)(e:bw f=d->f.results.toList=rs->∀a x1 x2 b x4 H,B (cG [a,x1,x2,b,x4]) H=g a x1 x2 b x4 H:=by exact hL):∀a x1 x2 b x4 H,dB f G N (cG [a,x1,x2,b,x4]) H=g a x1 x2 b x4 H:=λa x1 x2 b x4 H=>(h _ H).trans (e c au a x1 x2 b x4 H)
def Kp{i:Nat}{S:aw->dj}(az:P.funcs[i]? =D f)(he:∀G b x1 x2 c x4 H,dB f G N (cG [b,x1,x2,c,x4]) H=S G b x1 x2 c x4 H)(d:∀a H,aK i a H=none:=by intros;kernel_rfl)(e:f.body=D (bw f):=by first|kernel_rfl)(g:fV f.ntmps (bw f)=true:=by first|kernel_rfl)(aH:Nat.ble 5 f.ntmps=true:=by first|kernel_rfl) ⦃b x1 x2 c x4 H Q⦄(h:W (S (aQ P aK) b x1 x2 c x4 H) Q):W (aQ P aK i [b,x1,x2,c,x4] H) Q:=pM (λ_ h=>o4 (d _ _) az e g aH ((he _ b x1 x2 c x4 H).trans h)) h
def t6{g:dr}(h:∀R H,dB f G N R H=B R H)(c:bw f=d:=by(conv=>lhs;whnf);try rfl)(au:f.results.toList=rs:=by(conv=>lhs;whnf);try rfl)(e:bw f=d->f.results.toList=rs->∀a x1 x2 b x4 x5 H,B (cG [a,x1,x2,b,x4,x5]) H=g a x1 x2 b x4 x5 H:=by exact hL):∀a x1 x2 b x4 x5 H,dB f G N (cG [a,x1,x2,b,x4,x5]) H=g a x1 x2 b x4 x5 H:=λa x1 x2 b x4 x5 H=>(h _ H).trans (e c au a x1 x2 b x4 x5 H)
end
section
variable {G:aw}{N:Nat}{bW e7:bI}{bS:List (Nat×bI)}{c:Code}
def ao:∀R H,bM P G N c bW bS e7 R H=bM P G N c bW bS e7 R H:=acM c
def ak{k T:bI}(a:∀R H,bM P G N c.ag bW bS e7 R H=k R H)(aA:∀R H,bM P G N c.ax k bS e7 R H=T R H)(aq:c.HM=true:=by first|kernel_rfl):∀R H,bM P G N c bW bS e7 R H=T R H:=acO aq a aA
def dp{A B:bI}(a:∀R H,bM P G N c.ax bW bS e7 R H=A R H)(b:∀R H,bM P G N c.ag bW bS e7 R H=B R H)(aq:c.HF=true:=by first|kernel_rfl):∀R H,bM P G N c bW bS e7 R H=dF (bd R c.test) (A R H) (B R H):=acL aq a b
def bD{T:bI}(a:∀R H,bM P G N c.ax bW ((c.num,bW)::bS) e7 R H=T R H)(aq:c.HE=true:=by first|kernel_rfl):∀R H,bM P G N c bW bS e7 R H=T R H:=acK aq a
def b3{k:Nat->bI}(b:∀n R H,bM P G N c.ax (k n) bS e7 R H=k (n+1) R H)(a:∀R H,k 0 R H=none:=by intro R H;kernel_rfl)(aq:c.HJ=true:=by first|kernel_rfl):∀R H,bM P G N c bW bS e7 R H=k N R H:=acN aq a b
end
end
section
set_option maxRecDepth 100000
section
variable {G:aw}{ops:Array Oper}{R:bf}{H:ad}
def Gq(ops:Array Oper):Bool:= !v8 ops&&((m4 ops (order ops)).isNone&& !quiet ops)
def Gp(ops:Array Oper):Bool:= !v8 ops&&((m4 ops (order ops)).isNone&&quiet ops)
def WT{k:bf->ad->O}(h:Gq ops=C):lG P G ops C R H k=iH P G ops (order ops) R H λT a7 H'=>bif iJ (b9 ops) (g3 ops) T H then k a7 H' else none:=by
 unfold Gq at h;simp only[Bool.and_eq_true,Bool.not_eq_true',Option.isNone_iff_eq_none]at h;unfold lG;rw[h.2.1,h.2.2];rfl
def WS{k:bf->ad->O}(h:Gp ops=C):lG P G ops C R H k=iH P G ops (order ops) R H λ_ a7 H'=>k a7 H':=by
 unfold Gp at h;simp only[Bool.and_eq_true,Bool.not_eq_true',Option.isNone_iff_eq_none]at h;unfold lG;rw[h.2.1,h.2.2];rfl
variable {i j:Nat}{is:List Nat}{lh:List eP->bf->ad->O}{q:K->ae->ad->O}{o:Op}
noncomputable def zP(G:aw)(ops:Array Oper)(o:Option Oper)(i:Nat)(is:List Nat)(R:bf)(H:ad)(k:List eP->bf->ad->O):O:=match o with
 |none=>I
 |some o=>k9 P G ops o R H λx=>iH P G ops is (dn R o.dst x.val) (x.heap H) λT a7 H'=>k (⟨i,x,gR P o.op R⟩::T) a7 H'
def Pc:iH P G ops [] R H lh=lh [] R H:=rfl
def Pa:iH P G ops (i::is) R H lh=zP G ops ops[i]? i is R H lh:=rfl
noncomputable def iX(G:aw)(o:Op)(R:bf)(H:ad)(q:K->ae->ad->O):O:=dg P G o R H λx=>q x x.val (x.heap H)
variable {d:Option Nat}{t:TypeId}{p:String}{a:Array Edge}{w:Bool}
def Pd:zP G ops (D ⟨d,o,t,p,a,I⟩) i is R H lh=iX G o R H λx v h=>iH P G ops is (dn R d v) h λT a7 H'=>lh (⟨i,x,gR P o R⟩::T) a7 H':=rfl
def Pb:zP G ops (D ⟨d,o,t,p,a,D (j,w)⟩) i is R H lh=bX (qc ops j R) w (fj P G o R H) λx=>iH P G ops is (dn R d x.val) (x.heap H) λT a7 H'=>lh (⟨i,x,gR P o R⟩::T) a7 H':=by
 rw[<-L7];show k9 P G ops ⟨d,o,t,p,a,D (j,w)⟩ R H _=_;simp only[k9,qc];cases ops[j]? with
 |none=>rfl
 |some q=>
  obtain⟨b,_,_,_,_,_⟩:=q;cases b<;>rfl
def HL(o:Op):Bool:=match cls o with| .pure=>C|_=>Z
def HG(o:Op):Bool:=match cls o with| .write=>(match o with| .store _ _ _=>Z|_=>C)| .call=>C|_=>Z
def HH(o:Op):Bool:=match cls o with| .read=>C|_=>Z
def aau(h:HL o=C):iX G o R H q=dP P G o R H λv _=>q (.pure v) v H:=by
 rw[<-step_eq];unfold HL at h;split at h
 ·rename_i aq;unfold iX dg;rw[aq];rfl
 ·cases h
def aas(h:HH o=C):iX G o R H q=dP P G o R H λv _=>q (.read v) v H:=by
 rw[<-step_eq];unfold HH at h;split at h
 ·rename_i aq;unfold iX dg;rw[aq];rfl
 ·cases h
def aar(h:HG o=C):iX G o R H q=dP P G o R H λv h=>q (.cN v h) v h:=by
 rw[<-step_eq];unfold HG at h;split at h
 ·rename_i aq;unfold iX dg;rw[aq];rfl
 ·rename_i aq;unfold iX dg;rw[aq];cases o<;>first|rfl|skip
 ·cases h
variable {x y z:Operand}{b:Builtin}{pU:Array Operand}{ts:Array Nat}{n m:Nat}{db:Array (Nat×Operand)}
def aav:iX G (.store t x y) R H q=(bd R x).bind λu=>(bd R y).bind λv=>pz H (cD P H t u v) λw h=>q (.cN w h) w h:=by
 show dg P G (.store t x y) R H (λx=>q x x.val (x.heap H))=_;unfold dg pz dD dW;show(match j2 P (.store t x y) R H with|some (v,H')=>bif decide (H.next<=H'.next)then q (.cN v H') v H' else I|none=>I)=_;simp only[j2];cases bd R x with
 |none=>rfl
 |some u=>cases bd R y with
  |none=>rfl
  |some v=>simp only[Option.bind_some];cases cD P H t u v<;>rfl
def r1(b:Builtin):Bool:=match b with| .append=>Z| .clear=>Z|_=>C
def aaq(h:r1 b=C):iX G (.call ⟨.builtin b,pU,ts⟩) R H q=(eE R pU.toList).bind λak=>hM (bL P .empty b ts.toList ak) (bL P H b ts.toList ak) λk=>q k k.val (k.heap H):=by
 have aq:cls (.call ⟨.builtin b,pU,ts⟩)= .both:=by cases b<;>first|rfl|cases h
 unfold iX dg;rw[aq];simp only[gQ,gR];cases eE R pU.toList<;>rfl
def HK(o:Op):Bool:=match cls o with| .new=>(match o with| .alloc _=>Z|_=>C)|_=>Z
def LX(h:cls o= .new):iX G o R H q=nc H (hF P o R H.next) λv b h=>q (.new v b) v h:=by
 unfold iX dg;rw[h];unfold im nc;cases hF P o R H.next<;>rfl
def aat(h:HK o=C):iX G o R H q=nc H (hF P o R H.next) λv b h=>q (.new v b) v h:=by
 unfold HK at h;split at h
 ·rename_i aq;exact LX aq
 ·cases h
noncomputable def A_(G:aw)(t:TypeId)(l:Option (List ae))(R:bf)(H:ad)(q:K->ae->ad->O):O:=match l with
 |some cs=>fu H cs λv h=>q (.new v (.row Z (List.length cs) [cs])) v h
 |none=>iX G (.alloc t) R H q
def aap:iX G (.alloc t) R H q=A_ G t (eU P t) R H q:=by
 cases h:eU P t with
 |none=>rfl
 |some cs=>
  rw[LX rfl];unfold eU at h;split at h
  ·rename_i z af ah;cases a:z.cells.all ae.one<;>rw[a]at h
   ·cases h
   ·cases h;simp only[hF,af,ah,Option.bind_some,k5,a,gP,nc,A_,fu,dT]
  ·cases h
def aaw{cs:List ae}:A_ G t (D cs) R H q=fu H cs λv h=>q (.new v (.row Z (List.length cs) [cs])) v h:=rfl
def R9:hF P (.box t x) R n=(bd R x).bind (k5 (j9 P t) n):=rfl
def R_:hF P (.buildSlice t m db) R n=(hS R db.toList).bind (gd P n t m):=rfl
def Sa:hF P (.makeSlice t x y) R n=(bd R x).bind λu=>(bd R y).bind λv=>f_ (g9 P ⟨.leaf,n⟩ t u v) n:=rfl
def Sg:gR P (.load t x) R=λH=>(bd R x).bind λu=>aI P H t u:=rfl
def Sf{ok:Bool}:gR P (.lookup t x y ok) R=λH=>(bd R x).bind λu=>(bd R y).bind λv=>k2 P H t u v ok:=rfl
def Se:gR P (.call ⟨.builtin b,pU,ts⟩) R=λH=>(eE R pU.toList).bind λak=>bL P H b ts.toList ak:=rfl
def TA(o:Op):Bool:=match o with| .load _ _=>Z| .lookup _ _ _ _=>Z| .convert _ _ _=>Z| .call ⟨.builtin _,_,_⟩=>Z|_=>C
def Sh(h:TA o=C):gR P o R=λ_=>none:=by
 funext H
 cases o<;>first|rfl|cases h|skip
 rename_i c;obtain⟨f,_,_⟩:=c;cases f<;>first|rfl|cases h
def aa2{cr:ae->ad->O}{ok:Bool}{u v:TypeId}:dP P G (.typeAssert x u v ok) R H cr=aU ((bd R x).bind λz=>pN P v ok z) λv=>cr v H:=rfl
def aaQ{cr:ae->ad->O}{ok:Bool}:dP P G (.lookup t x y ok) R H cr=aU ((bd R x).bind λu=>(bd R y).bind λv=>k2 P H t u v ok) λv=>cr v H:=rfl
variable {ms cE ids:List Nat}{T bx:List eP}{v:ae}{h:ad}{e:bn}{f:ad->Option ae}{rd:ad->Bool}{s:Bool}{k:K}
def P6:iJ ms cE T H=(gX ms T []&&h3 ms cE T H T):=rfl
def ON(h:ca ms i j=C):ca ms i j=true:=h
def OM(h:ca ms i j=Z):ca ms i j=false:=h
def Qt(h:cE.contains i=C):cE.contains i=true:=h
def Qs(h:cE.contains i=Z):cE.contains i=false:=h
def Qd:gX ms [] ids=true:=rfl
def Qe:gX ms (⟨i,.pure v,f⟩::T) ids=gX ms T ids:=rfl
def Qf:gX ms (⟨i,.read v,f⟩::T) ids=gX ms T ids:=rfl
def Qb:gX ms (⟨i,.new v e,f⟩::T) ids=gX ms T (i::ids):=rfl
def Qc:gX ms (⟨i,.cN v h,f⟩::T) ids=(ids.all (λj=>ca ms j i)&&gX ms T (i::ids)):=rfl
def acW:h3 ms cE bx H []=true:=rfl
def acX:h3 ms cE bx H (⟨i,.pure v,f⟩::T)=h3 ms cE bx H T:=rfl
def acU:h3 ms cE bx H (⟨i,.new v e,f⟩::T)=h3 ms cE bx H T:=rfl
def acV:h3 ms cE bx H (⟨i,.cN v h,f⟩::T)=h3 ms cE bx H T:=rfl
def acY:h3 ms cE bx H (⟨i,.read v,f⟩::T)=((cE.contains i||pn ms (λH=>bF (f H) v) i bx H)&&h3 ms cE bx H T):=rfl
def ZE:pn ms rd i T H=(bif h9 ms i T Z then hy ms rd i T H||hY ms rd i T H Z else hy ms rd i T H):=rfl
def O3:h9 ms i [] s=false:=rfl
def O4:h9 ms i (⟨j,.pure v,f⟩::T) s=h9 ms i T s:=rfl
def O5:h9 ms i (⟨j,.read v,f⟩::T) s=h9 ms i T s:=rfl
def O1:h9 ms i (⟨j,.new v e,f⟩::T) s=((s&&ca ms j i&&T.all λu=>jJ u.k)||h9 ms i T (s|| !ca ms j i)):=rfl
def O2:h9 ms i (⟨j,.cN v h,f⟩::T) s=h9 ms i T (s|| !ca ms j i):=rfl
def VJ:jJ (.pure v)=true:=rfl
def VK:jJ (.read v)=true:=rfl
def VH:jJ (.new v e)=true:=rfl
def VI:jJ (.cN v h)=false:=rfl
def ac1:hy ms rd i [] H=rd H:=rfl
def ac2:hy ms rd i (⟨j,.pure v,f⟩::T) H=hy ms rd i T H:=rfl
def ac3:hy ms rd i (⟨j,.read v,f⟩::T) H=hy ms rd i T H:=rfl
def acZ:hy ms rd i (⟨j,.new v e,f⟩::T) H=((ca ms j i||rd H)&&(ca ms i j||hy ms rd i T (H.push e))):=rfl
def ac0:hy ms rd i (⟨j,.cN v h,f⟩::T) H=((ca ms j i||rd H)&&(ca ms i j||hy ms rd i T h)):=rfl
def VA:hY ms rd i [] H s=false:=rfl
def VB:hY ms rd i (⟨j,.pure v,f⟩::T) H s=hY ms rd i T H s:=rfl
def VC:hY ms rd i (⟨j,.read v,f⟩::T) H s=hY ms rd i T H s:=rfl
def Vy:hY ms rd i (⟨j,.new v e,f⟩::T) H s=(bif s&&ca ms j i&&T.all (λu=>jJ u.k)then rd (H.push e).only||hY ms rd i T (H.push e) (s|| !ca ms j i)else hY ms rd i T (H.push e) (s|| !ca ms j i)):=rfl
def Vz:hY ms rd i (⟨j,.cN v h,f⟩::T) H s=hY ms rd i T h (s|| !ca ms j i):=rfl
def adg{r:Option (ae×bn)}{k:ae->ad->O}:nc H r (λv _ h=>k v h)=eK H r k:=by
 unfold nc eK;cases r<;>rfl
def adj{r:Option ad}{k:ad->O}:pz H r (λ_ h=>k h)=fw H r k:=rfl
end
def drawn:Code->List (Array Oper)
 | .seq a b=>drawn a++drawn b
 | .cond _ a b=>drawn a++drawn b
 | .block _ b=>drawn b
 | .loop b=>drawn b
 | .region _ ops C=>[ops]
 |_=>[]
def h_:List (Array Oper)->List (List Nat×List Nat×List Nat)->Prop
 |o::os,q::qs=>(order o=q.1/\b9 o=q.2.1/\g3 o=q.2.2)/\h_ os qs
 |_,_=>True
def jg:∀{L:List (Array Oper)},h_ L (L.map λo=>(order o,b9 o,g3 o))
 |[]=>trivial
 |_::_=>⟨⟨rfl,rfl,rfl⟩,jg⟩
end
section
set_option maxRecDepth 100000
def Pf:=ar (ar (ar (ar (ar @WT @WS) (ar @Pc @Pa)) (ar (ar @Pd @Pb) (ar @aau @aas))) (ar (ar (ar @aar @aav) (ar @aaq @aat)) (ar (ar @aap @aaw) (ar @R9 @R_)))) (ar (ar (ar (ar @Sa @Sg) (ar @Sf @Se)) (ar (ar @Sh @aa2) (ar @aaQ @ED))) (ar (ar (ar @EE @EC) (ar @EB @Ez)) (ar (ar @EA @Ey) (ar @Ex @List.getElem?_toArray.{0}))))
def jE:=ar (ar (ar (ar (ar @P6 (ar @ON @OM)) (ar @Qt (ar @Qs @Qd))) (ar (ar @Qe (ar @Qf @Qb)) (ar @Qc (ar @acW @acX)))) (ar (ar (ar @acU (ar @acV @acY)) (ar @ZE (ar @O3 @O4))) (ar (ar @O5 (ar @O1 @O2)) (ar (ar @VJ @VK) (ar @VH @VI))))) (ar (ar (ar (ar @ac1 (ar @ac2 @ac3)) (ar @acZ (ar @ac0 @VA))) (ar (ar @VB (ar @VC @Vy)) (ar (ar @Vz @adg) (ar @adj @List.all_cons.{0})))) (ar (ar (ar @List.all_nil.{0} (ar @Bool.false_or @Bool.true_or)) (ar @Bool.or_true (ar @Bool.or_false @Bool.true_and))) (ar (ar @Bool.and_true (ar @Bool.false_and @Bool.and_false)) (ar (ar @Bool.not_true @Bool.not_false) (ar @gP @jY)))))
def jP{p:Prop}(h:p:=by intro a b q x;(try simp only[drawn,h_,List.append_nil,List.nil_append,List.cons_append,and_true]at q);intros;simp(maxSteps:=4000000) (disch:=try exact Gl)only[Gj,FM,Pf,Nat.reduceEqDiff,reduceIte, *];rfl):p:=h
section
variable {f:Func}{G:aw}{N:Nat}{c d:Code}{bW B:bI}{bS:List (Nat×bI)}{rs:List ResultVar}{L:List (List Nat×List Nat×List Nat)}{E:Prop}
def rM{g:T1}{i0:Nat}(h:∀R H,bM P G N c bW bS (bg f) R H=B R H)(a:bw f=d:=by(conv=>lhs;whnf);try rfl)(au:f.results.toList=rs:=by(conv=>lhs;whnf);try rfl)(al:(drawn (bw f)).map (λo=>(order o,b9 o,g3 o))=L:=by(conv=>lhs;cbv);try rfl)(x:E:=by exact jE)(e:bw f=d->f.results.toList=rs->h_ (drawn d) L->E->∀b (R:bf) H,R i0=b->B R H=g b H:=by exact jP):∀R H,bM P G N c bW bS (bg f) R H=g (R i0) H:=λR H=>(h R H).trans (e a au (a▸al▸jg) x _ R H rfl)
def hk{g:T2}{i0 i1:Nat}(h:∀R H,bM P G N c bW bS (bg f) R H=B R H)(a:bw f=d:=by(conv=>lhs;whnf);try rfl)(au:f.results.toList=rs:=by(conv=>lhs;whnf);try rfl)(al:(drawn (bw f)).map (λo=>(order o,b9 o,g3 o))=L:=by(conv=>lhs;cbv);try rfl)(x:E:=by exact jE)(e:bw f=d->f.results.toList=rs->h_ (drawn d) L->E->∀b x1 (R:bf) H,R i0=b->R i1=x1->B R H=g b x1 H:=by exact jP):∀R H,bM P G N c bW bS (bg f) R H=g (R i0) (R i1) H:=λR H=>(h R H).trans (e a au (a▸al▸jg) x _ _ R H rfl rfl)
def mI{g:c6}{i0 i1 i2:Nat}(h:∀R H,bM P G N c bW bS (bg f) R H=B R H)(a:bw f=d:=by(conv=>lhs;whnf);try rfl)(au:f.results.toList=rs:=by(conv=>lhs;whnf);try rfl)(al:(drawn (bw f)).map (λo=>(order o,b9 o,g3 o))=L:=by(conv=>lhs;cbv);try rfl)(x:E:=by exact jE)(e:bw f=d->f.results.toList=rs->h_ (drawn d) L->E->∀b x1 x2 (R:bf) H,R i0=b->R i1=x1->R i2=x2->B R H=g b x1 x2 H:=by exact jP):∀R H,bM P G N c bW bS (bg f) R H=g (R i0) (R i1) (R i2) H:=λR H=>(h R H).trans (e a au (a▸al▸jg) x _ _ _ R H rfl rfl rfl)
def mJ{g:b_}{i0 i1 i2 i3:Nat}(h:∀R H,bM P G N c bW bS (bg f) R H=B R H)(a:bw f=d:=by(conv=>lhs;whnf);try rfl)(au:f.results.toList=rs:=by(conv=>lhs;whnf);try rfl)(al:(drawn (bw f)).map (λo=>(order o,b9 o,g3 o))=L:=by(conv=>lhs;cbv);try rfl)(x:E:=by exact jE)(e:bw f=d->f.results.toList=rs->h_ (drawn d) L->E->∀b x1 x2 i (R:bf) H,R i0=b->R i1=x1->R i2=x2->R i3=i->B R H=g b x1 x2 i H:=by exact jP):∀R H,bM P G N c bW bS (bg f) R H=g (R i0) (R i1) (R i2) (R i3) H:=λR H=>(h R H).trans (e a au (a▸al▸jg) x _ _ _ _ R H rfl rfl rfl rfl)
def ny{g:dj}{i0 i1 i2 i3 i4:Nat}(h:∀R H,bM P G N c bW bS (bg f) R H=B R H)(a:bw f=d:=by(conv=>lhs;whnf);try rfl)(au:f.results.toList=rs:=by(conv=>lhs;whnf);try rfl)(al:(drawn (bw f)).map (λo=>(order o,b9 o,g3 o))=L:=by(conv=>lhs;cbv);try rfl)(x:E:=by exact jE)(e:bw f=d->f.results.toList=rs->h_ (drawn d) L->E->∀b x1 x2 i x4 (R:bf) H,R i0=b->R i1=x1->R i2=x2->R i3=i->R i4=x4->B R H=g b x1 x2 i x4 H:=by exact jP):∀R H,bM P G N c bW bS (bg f) R H=g (R i0) (R i1) (R i2) (R i3) (R i4) H:=λR H=>(h R H).trans (e a au (a▸al▸jg) x _ _ _ _ _ R H rfl rfl rfl rfl rfl)
def p7{g:dr}{i0 i1 i2 i3 i4 i5:Nat}(h:∀R H,bM P G N c bW bS (bg f) R H=B R H)(a:bw f=d:=by(conv=>lhs;whnf);try rfl)(au:f.results.toList=rs:=by(conv=>lhs;whnf);try rfl)(al:(drawn (bw f)).map (λo=>(order o,b9 o,g3 o))=L:=by(conv=>lhs;cbv);try rfl)(x:E:=by exact jE)(e:bw f=d->f.results.toList=rs->h_ (drawn d) L->E->∀b x1 x2 i x4 x5 (R:bf) H,R i0=b->R i1=x1->R i2=x2->R i3=i->R i4=x4->R i5=x5->B R H=g b x1 x2 i x4 x5 H:=by exact jP):∀R H,bM P G N c bW bS (bg f) R H=g (R i0) (R i1) (R i2) (R i3) (R i4) (R i5) H:=λR H=>(h R H).trans (e a au (a▸al▸jg) x _ _ _ _ _ _ R H rfl rfl rfl rfl rfl rfl)
def rN{g:fI}{i0 i1 i2 i3 i4 i5 i6:Nat}(h:∀R H,bM P G N c bW bS (bg f) R H=B R H)(a:bw f=d:=by(conv=>lhs;whnf);try rfl)(au:f.results.toList=rs:=by(conv=>lhs;whnf);try rfl)(al:(drawn (bw f)).map (λo=>(order o,b9 o,g3 o))=L:=by(conv=>lhs;cbv);try rfl)(x:E:=by exact jE)(e:bw f=d->f.results.toList=rs->h_ (drawn d) L->E->∀b x1 x2 i x4 x5 x6 (R:bf) H,R i0=b->R i1=x1->R i2=x2->R i3=i->R i4=x4->R i5=x5->R i6=x6->B R H=g b x1 x2 i x4 x5 x6 H:=by exact jP):∀R H,bM P G N c bW bS (bg f) R H=g (R i0) (R i1) (R i2) (R i3) (R i4) (R i5) (R i6) H:=λR H=>(h R H).trans (e a au (a▸al▸jg) x _ _ _ _ _ _ _ R H rfl rfl rfl rfl rfl rfl rfl)
def z2{g:iy}{i0 i1 i2 i3 i4 i5 i6 i7:Nat}(h:∀R H,bM P G N c bW bS (bg f) R H=B R H)(a:bw f=d:=by(conv=>lhs;whnf);try rfl)(au:f.results.toList=rs:=by(conv=>lhs;whnf);try rfl)(al:(drawn (bw f)).map (λo=>(order o,b9 o,g3 o))=L:=by(conv=>lhs;cbv);try rfl)(x:E:=by exact jE)(e:bw f=d->f.results.toList=rs->h_ (drawn d) L->E->∀b x1 x2 i x4 x5 x6 x7 (R:bf) H,R i0=b->R i1=x1->R i2=x2->R i3=i->R i4=x4->R i5=x5->R i6=x6->R i7=x7->B R H=g b x1 x2 i x4 x5 x6 x7 H:=by exact jP):∀R H,bM P G N c bW bS (bg f) R H=g (R i0) (R i1) (R i2) (R i3) (R i4) (R i5) (R i6) (R i7) H:=λR H=>(h R H).trans (e a au (a▸al▸jg) x _ _ _ _ _ _ _ _ R H rfl rfl rfl rfl rfl rfl rfl rfl)
def Qa{g:jC}{i0 i1 i2 i3 i4 i5 i6 i7 i8:Nat}(h:∀R H,bM P G N c bW bS (bg f) R H=B R H)(a:bw f=d:=by(conv=>lhs;whnf);try rfl)(au:f.results.toList=rs:=by(conv=>lhs;whnf);try rfl)(al:(drawn (bw f)).map (λo=>(order o,b9 o,g3 o))=L:=by(conv=>lhs;cbv);try rfl)(x:E:=by exact jE)(e:bw f=d->f.results.toList=rs->h_ (drawn d) L->E->∀b x1 x2 i x4 x5 x6 x7 x8 (R:bf) H,R i0=b->R i1=x1->R i2=x2->R i3=i->R i4=x4->R i5=x5->R i6=x6->R i7=x7->R i8=x8->B R H=g b x1 x2 i x4 x5 x6 x7 x8 H:=by exact jP):∀R H,bM P G N c bW bS (bg f) R H=g (R i0) (R i1) (R i2) (R i3) (R i4) (R i5) (R i6) (R i7) (R i8) H:=λR H=>(h R H).trans (e a au (a▸al▸jg) x _ _ _ _ _ _ _ _ _ R H rfl rfl rfl rfl rfl rfl rfl rfl rfl)
def P_{g:hf}{i0 i1 i2 i3 i4 i5 i6 i7 i8 i9:Nat}(h:∀R H,bM P G N c bW bS (bg f) R H=B R H)(a:bw f=d:=by(conv=>lhs;whnf);try rfl)(au:f.results.toList=rs:=by(conv=>lhs;whnf);try rfl)(al:(drawn (bw f)).map (λo=>(order o,b9 o,g3 o))=L:=by(conv=>lhs;cbv);try rfl)(x:E:=by exact jE)(e:bw f=d->f.results.toList=rs->h_ (drawn d) L->E->∀b x1 x2 i x4 x5 x6 x7 x8 j (R:bf) H,R i0=b->R i1=x1->R i2=x2->R i3=i->R i4=x4->R i5=x5->R i6=x6->R i7=x7->R i8=x8->R i9=j->B R H=g b x1 x2 i x4 x5 x6 x7 x8 j H:=by exact jP):∀R H,bM P G N c bW bS (bg f) R H=g (R i0) (R i1) (R i2) (R i3) (R i4) (R i5) (R i6) (R i7) (R i8) (R i9) H:=λR H=>(h R H).trans (e a au (a▸al▸jg) x _ _ _ _ _ _ _ _ _ _ R H rfl rfl rfl rfl rfl rfl rfl rfl rfl rfl)
def nx{g:T1}(h:∀R H,dB f G N R H=B R H)(b:bw f=d:=by(conv=>lhs;whnf);try rfl)(au:f.results.toList=rs:=by(conv=>lhs;whnf);try rfl)(al:(drawn (bw f)).map (λo=>(order o,b9 o,g3 o))=L:=by(conv=>lhs;cbv);try rfl)(x:E:=by exact jE)(e:bw f=d->f.results.toList=rs->h_ (drawn d) L->E->∀a H,B (cG [a]) H=g a H:=by exact jP):∀a H,dB f G N (cG [a]) H=g a H:=λa H=>(h _ H).trans (e b au (b▸al▸jg) x a H)
def p6{g:T2}(h:∀R H,dB f G N R H=B R H)(b:bw f=d:=by(conv=>lhs;whnf);try rfl)(au:f.results.toList=rs:=by(conv=>lhs;whnf);try rfl)(al:(drawn (bw f)).map (λo=>(order o,b9 o,g3 o))=L:=by(conv=>lhs;cbv);try rfl)(x:E:=by exact jE)(e:bw f=d->f.results.toList=rs->h_ (drawn d) L->E->∀a x1 H,B (cG [a,x1]) H=g a x1 H:=by exact jP):∀a x1 H,dB f G N (cG [a,x1]) H=g a x1 H:=λa x1 H=>(h _ H).trans (e b au (b▸al▸jg) x a x1 H)
def vd{g:c6}(h:∀R H,dB f G N R H=B R H)(b:bw f=d:=by(conv=>lhs;whnf);try rfl)(au:f.results.toList=rs:=by(conv=>lhs;whnf);try rfl)(al:(drawn (bw f)).map (λo=>(order o,b9 o,g3 o))=L:=by(conv=>lhs;cbv);try rfl)(x:E:=by exact jE)(e:bw f=d->f.results.toList=rs->h_ (drawn d) L->E->∀a x1 x2 H,B (cG [a,x1,x2]) H=g a x1 x2 H:=by exact jP):∀a x1 x2 H,dB f G N (cG [a,x1,x2]) H=g a x1 x2 H:=λa x1 x2 H=>(h _ H).trans (e b au (b▸al▸jg) x a x1 x2 H)
def P9{g:b_}(h:∀R H,dB f G N R H=B R H)(c:bw f=d:=by(conv=>lhs;whnf);try rfl)(au:f.results.toList=rs:=by(conv=>lhs;whnf);try rfl)(al:(drawn (bw f)).map (λo=>(order o,b9 o,g3 o))=L:=by(conv=>lhs;cbv);try rfl)(x:E:=by exact jE)(e:bw f=d->f.results.toList=rs->h_ (drawn d) L->E->∀a x1 x2 b H,B (cG [a,x1,x2,b]) H=g a x1 x2 b H:=by exact jP):∀a x1 x2 b H,dB f G N (cG [a,x1,x2,b]) H=g a x1 x2 b H:=λa x1 x2 b H=>(h _ H).trans (e c au (c▸al▸jg) x a x1 x2 b H)
end
end
section
set_option maxRecDepth 100000
set_option maxHeartbeats 4000000
noncomputable section
def tU(G:aw):gM Tryz.f43 G:=⟨λa H=>aU (bm P .eql 30 C a ae.aB) λx4=>dF (D x4) (D (ae.aB,H)) (eK H (D (.aD (H).next 0 0 1 (D 0),.row Z 1 [])) λx5 af=>dW af (ee P af [30,30] x5 a) λx7 ah=>D (x7,ah)),λN=>vC ao⟩
def YS(N:Nat):=dZ Tryz.func43 λG=>(tU G).2 N
def DD(G:aw)(N:Nat):et 6 Tryz.f79 G N (·.ag.ag.ag.ag.ag) (bg Tryz.f79) []:=⟨_,v1 ao⟩
def DB(G:aw)(N:Nat)(L2:b_):en 6 25 26 27 Tryz.f79 G N (·.ag.ag.ag.ag.ax.ag.ax.ax) (bT L2 6 25 26 27) [(2,(a8 (DD G N) 6))]:=⟨_,v4 ao⟩
def DF(G:aw)(N:Nat):Nat->b_
 |0=>fk
 |n+1=>DB G N (DF G N n)
def uq(G:aw)(N:Nat):g6 0 3 Tryz.f79 G N (·.ag.ag.ag) (bg Tryz.f79) []:=⟨_,v2 (ak (ak ((DD G N).2) (ak (bD (b3 (λm=>(DB G N (DF G N m)).2))) ao)) ao)⟩
def yy(G:aw)(N:Nat)(L3:dj):gk 0 3 9 10 11 Tryz.f79 G N (·.ag.ag.ax.ag.ax.ax.ag.ag.ag) (cn L3 0 3 9 10 11) [(0,(bo (uq G N) 0 3))]:=⟨_,v5 ao⟩
def DC(G:aw)(N:Nat)(L3:dj):gk 0 3 9 10 11 Tryz.f79 G N (·.ag.ag.ax.ag.ax.ax) (cn L3 0 3 9 10 11) [(0,(bo (uq G N) 0 3))]:=⟨λa d c x10 x11 H=>aU (bm P .lss 3 Z x11 x10) λx12=>dF (D x12) (aU (cm P 198 c x11) λe=>aU (aI P H 53 e) λf=>br P .len [53] [f] H λx17=>aU (bm P .add 3 Z d x17) λb=>aU (bm P .lss 3 C b (.int .i64 0)) λg=>dF (D g) (aU (mE P 9 (.str [108,101,110,32,111,117,116,32,111,102,32,114,97,110,103,101])) λh=>aU ((I:Option ae)) λy=>yy G N L3 a b c x10 x11 H) (yy G N L3 a b c x10 x11 H)) (uq G N a d H),cr (ak (ak (ak ((yy G N L3).2) ao) ao) ao)⟩
def DG(G:aw)(N:Nat):Nat->dj
 |0=>jc
 |n+1=>DC G N (DG G N n)
def DA(G:aw)(N:Nat):fU Tryz.f79 G N:=⟨_,t1 (ak (ak (ak ((uq G N).2) (ak (bD (b3 (λm=>(DC G N (DG G N m)).2))) ao)) ao) ao)⟩
def Zc(N:Nat):=dZ Tryz.func79 λG=>(DA G N).2
def yD(G:aw)(N:Nat):g5 Tryz.f81 G N (·.ag.ag.ag) (bg Tryz.f81) []:=⟨_,v0 ao⟩
def yC(G:aw)(N:Nat)(L1:b_):en 0 1 12 13 Tryz.f81 G N (·.ag.ag.ax.ag.ax.ax) (bT L1 0 1 12 13) [(0,(bh (yD G N)))]:=⟨_,v4 ao⟩
def uu(G:aw)(N:Nat):Nat->b_
 |0=>fk
 |n+1=>yC G N (uu G N n)
def yB(G:aw)(N:Nat):fJ Tryz.f81 G N:=⟨_,t2 (ak (ak (ak ((yD G N).2) (ak (bD (b3 (λm=>(yC G N (uu G N m)).2))) ao)) ao) ao)⟩
def Ze(N:Nat):=dc Tryz.func81 λG=>(yB G N).2
def DM(G:aw):ev Tryz.f94 G:=⟨_,λN=>t2 ao⟩
def Zj(N:Nat):=dc Tryz.func94 λG=>(DM G).2 N
def DO(G:aw):ev Tryz.f99 G:=⟨_,λN=>t2 ao⟩
def Zl(N:Nat):=dc Tryz.func99 λG=>(DO G).2 N
def BX(G:aw):hh 0 Tryz.f133 G (·.ag.ag.ag) (bg Tryz.f133) []:=⟨_,λN=>v1 ao⟩
def BW(G:aw):pK 0 1 Tryz.f133 G (·.ag.ag) (bg Tryz.f133) []:=⟨_,λN=>v2 (ak ((BX G).2 N) ao)⟩
def xa(G:aw):ev Tryz.f133 G:=⟨_,λN=>t2 (ak (ak ((BW G).2 N) ao) ao)⟩
def XB(N:Nat):=dc Tryz.func133 λG=>(xa G).2 N
def xc(G:aw)(N:Nat):g5 Tryz.f134 G N (·.ag.ag) (bg Tryz.f134) []:=⟨_,v0 ao⟩
def xb(G:aw)(N:Nat)(L1:b_):en 0 1 7 8 Tryz.f134 G N (·.ag.ax.ag.ax.ax) (bT L1 0 1 7 8) [(0,(bh (xc G N)))]:=⟨_,v4 ao⟩
def sX(G:aw)(N:Nat):Nat->b_
 |0=>fk
 |n+1=>xb G N (sX G N n)
def BY(G:aw)(N:Nat):fJ Tryz.f134 G N:=⟨_,t2 (ak (ak ((xc G N).2) (ak (bD (b3 (λm=>(xb G N (sX G N m)).2))) ao)) ao)⟩
def XC(N:Nat):=dc Tryz.func134 λG=>(BY G N).2
def B1(G:aw)(N:Nat):g5 Tryz.f146 G N (·.ag.ag) (bg Tryz.f146) []:=⟨_,v0 ao⟩
def xd(G:aw)(N:Nat)(L1:b_):en 0 1 7 8 Tryz.f146 G N (·.ag.ax.ag.ax.ax) (bT L1 0 1 7 8) [(0,(bh (B1 G N)))]:=⟨_,v4 ao⟩
def sY(G:aw)(N:Nat):Nat->b_
 |0=>fk
 |n+1=>xd G N (sY G N n)
def B0(G:aw)(N:Nat):fJ Tryz.f146 G N:=⟨_,t2 (ak (ak ((B1 G N).2) (ak (bD (b3 (λm=>(xd G N (sY G N m)).2))) ao)) ao)⟩
def XE(N:Nat):=dc Tryz.func146 λG=>(B0 G N).2
def Cc(G:aw):ev Tryz.f177 G:=⟨_,λN=>t2 ao⟩
def XQ(N:Nat):=dc Tryz.func177 λG=>(Cc G).2 N
def CA(G:aw)(N:Nat):g5 Tryz.f219 G N (·.ag.ag) (bg Tryz.f219) []:=⟨_,v0 ao⟩
def xG(G:aw)(N:Nat)(L1:b_):en 0 1 7 8 Tryz.f219 G N (·.ag.ax.ag.ax.ax) (bT L1 0 1 7 8) [(0,(bh (CA G N)))]:=⟨_,v4 ao⟩
def tn(G:aw)(N:Nat):Nat->b_
 |0=>fk
 |n+1=>xG G N (tn G N n)
def Cz(G:aw)(N:Nat):fJ Tryz.f219 G N:=⟨_,t2 (ak (ak ((CA G N).2) (ak (bD (b3 (λm=>(xG G N (tn G N m)).2))) ao)) ao)⟩
def X_(N:Nat):=dc Tryz.func219 λG=>(Cz G N).2
def CX(G:aw):ev Tryz.f252 G:=⟨_,λN=>t2 ao⟩
def Yw(N:Nat):=dc Tryz.func252 λG=>(CX G).2 N
def C1(G:aw)(N:Nat):g5 Tryz.f261 G N (·.ag.ag) (bg Tryz.f261) []:=⟨_,v0 ao⟩
def xU(G:aw)(N:Nat)(L1:b_):en 0 1 7 8 Tryz.f261 G N (·.ag.ax.ag.ax.ax) (bT L1 0 1 7 8) [(0,(bh (C1 G N)))]:=⟨_,v4 ao⟩
def tK(G:aw)(N:Nat):Nat->b_
 |0=>fk
 |n+1=>xU G N (tK G N n)
def C0(G:aw)(N:Nat):fJ Tryz.f261 G N:=⟨_,t2 (ak (ak ((C1 G N).2) (ak (bD (b3 (λm=>(xU G N (tK G N m)).2))) ao)) ao)⟩
def YC(N:Nat):=dc Tryz.func261 λG=>(C0 G N).2
def Dd(G:aw):gM Tryz.f41 G:=⟨_,λN=>t1 ao⟩
def YQ(N:Nat):=dZ Tryz.func41 λG=>(Dd G).2 N
def De(G:aw):gM Tryz.f42 G:=⟨_,λN=>t1 ao⟩
def YR(N:Nat):=dZ Tryz.func42 λG=>(De G).2 N
def Lp(G:aw)(N:Nat)(L0:b_):en 0 5 6 7 Tryz.f97 G N (·.ag.ax.ax) (bT L0 0 5 6 7) [(0,(bg Tryz.f97))]:=⟨_,v4 ao⟩
def Lq(G:aw)(N:Nat):Nat->b_
 |0=>fk
 |n+1=>Lp G N (Lq G N n)
def ZA(G:aw)(N:Nat):fJ Tryz.f97 G N:=⟨_,t2 (ak (bD (b3 (λm=>(Lp G N (Lq G N m)).2))) ao)⟩
end
end
section
set_option maxRecDepth 2000
def aT:ek Int:=⟨1,λ_ _ n cs=>cs=[.int .i64 n],by rintro _ _ _ _ rfl;exact⟨rfl,rfl⟩,λ_ h=>h⟩
def zc:ek Bool:=⟨1,λ_ _ b cs=>cs=[.bool b],by rintro _ _ _ _ rfl;exact⟨rfl,rfl⟩,λ_ h=>h⟩
def b1{α:Type}(K:ek α):ek (List α):=⟨1,λH ok l cs=>∃v,cs=[v]/\aO K H ok l v,by
 rintro _ _ _ _ ⟨v,rfl,h⟩;exact⟨rfl,by simp[h.one]⟩,by
 rintro _ _ _ _ _ _ p ⟨v,rfl,h⟩;exact⟨v,rfl,h.keep p⟩⟩
def b6:eW 30 3 1:=⟨aF,aF,⟨8,aF,bU⟩,⟨.int .i64 0,aF,rfl,rfl⟩,bU⟩
def e4:eW 31 30 1:=⟨aF,aF,⟨24,aF,bU⟩,⟨.aB,aF,rfl,rfl⟩,bU⟩
def oX:eW 104 4 1:=⟨aF,aF,⟨1,aF,bU⟩,⟨.bool Z,aF,rfl,rfl⟩,bU⟩
section
variable {H:ad}{ok:Nat->Prop}
def aO.int{l:List Int}{v:ae}(h:aO aT H ok l v){j:Int}{a:Int}(b:0<=j)(c:l[j.toNat]? =D a):∃p,cm P 30 v (.int .i64 j)=D p/\aI P H 3 p=D (.int .i64 a):=by
 obtain⟨p,cs,af,ah,an⟩:=aO.val (K:=aT) b6 uB h b c;exact⟨p,af,by rw[ah,show cs=[_]from an];rfl⟩
def aO.bool{l:List Bool}{v:ae}(h:aO zc H ok l v){j:Int}{a:Bool}(b:0<=j)(c:l[j.toNat]? =D a):∃p,cm P 104 v (.int .i64 j)=D p/\aI P H 4 p=D (.bool a):=by
 obtain⟨p,cs,af,ah,an⟩:=aO.val (K:=zc) oX D9 h b c;exact⟨p,af,by rw[ah,show cs=[_]from an];rfl⟩
def aO.list{l:List (List Int)}{v:ae}(h:aO (b1 aT) H ok l v){j:Int}{a:List Int}(b:0<=j)(c:l[j.toNat]? =D a):∃p w,cm P 31 v (.int .i64 j)=D p/\aI P H 30 p=D w/\aO aT H ok a w:=by
 obtain⟨p,cs,af,ah,w,rfl,an⟩:=aO.val (K:=b1 aT) e4 yV h b c;exact⟨p,w,af,ah,an⟩
def cq{k:Nat}(h:k<=1000000000):IntKind.i64.wrap ((k:Int)+1)=((k+1:Nat):Int):=by rw[wrap_i64 aa aa];omega
def nE(l:List Int)(a:Int):Int:=if a∈l then(l.idxOf a:Int)else-1
def Hx{l:List Int}{v:ae}{a:Int}(h:aO aT H ok l v)(d:l.length<=1000000000){N:Nat}:∀(j k m:Nat),k+j=l.length->j<m->a∉l.take k->W (sX (aQ P aK) N m v (.int .i64 a) (.int .i64 l.length) (.int .i64 k) H) λr H'=>r= .int .i64 (nE l a)/\H'=H
 |_,_,0,_,hm,_=>aa
 |0,k,m+1,e,_,aH=>by
  have c:¬(k:Int)<(l.length:Int):=aa;simp-implicitDefEqProofs(disch:=try exact ai)only[xc,xb,sX,aj,aC,c,decide_false];refine aG.2 ⟨?_,rfl⟩;rw[List.take_of_length_le aa]at aH;rw[nE,if_neg aH]
 |j+1,k,m+1,e,hm,aH=>by
  have c:(k:Int)<(l.length:Int):=aa;have b:k<l.length:=aa;obtain⟨p,g,i⟩:=h.int (j:=(k:Int)) (a:=l[k]) aa (by simp[b]);simp-implicitDefEqProofs(disch:=try exact ai)only[xc,xb,sX,aj,aC,c,decide_true,g,i];by_cases he:a=l[k]
  ·rw[show(a==l[k])=C by simpa using he];simp-implicitDefEqProofs(disch:=try exact ai)only[aj];refine aG.2 ⟨?_,rfl⟩;have f:a∈l:=by rw[he];exact List.getElem_mem b
   rw[nE,if_pos f];have:l.idxOf a=k:=by
    have af:l=l.take k++l.drop k:=(List.take_append_drop k l).symm;rw[af,List.idxOf_append,if_neg aH,List.drop_eq_getElem_cons b,he,List.idxOf_cons_self];simp;omega
   rw[this]
  ·rw[show(a==l[k])=Z by simpa using he];simp-implicitDefEqProofs(disch:=try exact ai)only[aj,aC,cq (show k<=1000000000 by omega)];refine Hx h d j (k+1) m aa aa ?_;rw[List.take_succ_eq_append_getElem b,List.mem_append];simp only[List.mem_singleton];exactλaq=>aq.elim aH he
def Hy{l:List Int}{v:ae}{a:Int}(h:aO aT H ok l v)(b:l.length<=1000000000):W (aQ P aK 134 [v,.int .i64 a] H) λr H'=>r= .int .i64 (nE l a)/\H'=H:=by
 refine XC (l.length+1) ?_;simp-implicitDefEqProofs(disch:=try exact ai)only[BY,br,h.len b6];exact Hx h b l.length 0 (l.length+1) aa aa (by simp)
def TE{l:List Int}{a:Int}:decide (0<=nE l a)=decide (a∈l):=by
 unfold nE;by_cases h:a∈l
 ·rw[if_pos h];simp[h]
 ·rw[if_neg h];simp[h]
def zY{l:List Int}{v:ae}{a:Int}(h:aO aT H ok l v)(b:l.length<=1000000000):W (aQ P aK 94 [v,.int .i64 a] H) λr H'=>r= .bool (decide (a∈l))/\H'=H:=by
 refine Zj 0 ?_;simp-implicitDefEqProofs(disch:=try exact ai)only[DM];refine eu (Hy h b) ?_;simp-implicitDefEqProofs(disch:=try exact ai)only[aj,aC,TE];exact aG.2 ⟨rfl,rfl⟩
def Qj:bm P .eql 30 C .aB .aB=D (.bool C):=aF
def GA(l i n e:Nat)(c:Option Nat):bm P .eql 30 C (.aD l i n e c) .aB=D (.bool Z):=aF
def M9{H:ad}{ok ok':Nat->Prop}(a:Int)(cs:List ae)(h:aT.V H ok a cs):aT.V H ok' a cs:=h
def bq.ints{B:Nat}{H1:ad}{l m:List Int}{v w:ae}(h:bq aT B bk H1 l v)(b:B<=H1.next)(hm:aO aT H1 ok m w)(al:l.length+m.length<=1000000000):
  ∃a H',ee P H1 [30,30] v w=D (a,H')/\bq aT B bk H' (l++m) a/\cT B H1 H'/\(∀k,k<H1.next->(∀L n c,v= .aD L 0 n 1 c->k≠L)->H'.get k=H1.get k)/\(a=v\/∃n,a= .aD H1.next 0 n 1 I):=
 h.app b6 b ((hm.z7 b6).plain (okE':=λ_=>False) M9) (λ_ _ h=>h.elim) (λ_ _ _ _=>trivial) trivial al
def ej(l:Nat)(n:Int):gd P l 30 1 [(0,.int .i64 n)]=D (.aD l 0 1 1 (D 1),.row Z 1 [[.int .i64 n]]):=pr b6 l rfl rfl rfl
def bq.l6{B:Nat}{H1:ad}{l:List Int}{v:ae}{a:Int}(h:bq aT B bk H1 l v)(d:B<=H1.next)(al:l.length<=999999999):
  ∃b H',ee P (H1.push (.row Z 1 [[.int .i64 a]])) [30,30] v (.aD H1.next 0 1 1 (D 1))=D (b,H')/\bq aT B bk H' (l++[a]) b/\cT B H1 H'/\H1.next<H'.next/\(∀k,k<H1.next->(∀L n c,v= .aD L 0 n 1 c->k≠L)->H'.get k=H1.get k):=
 h.rF b6 d (av.refl _) (a:=a) (cs:=[.int .i64 a]) rfl (λ_ _=>trivial) al
def F3{l:List Int}{v:ae}(h:aO aT H ok l v)(m:l.length<=1000000000):W (aQ P aK 43 [v] H) λr H'=>bq aT H.next bk H' l r/\av H H'/\jz aT r:=by
 refine YS 0 ?_;have body:bm P .eql 30 C v .aB=D (.bool Z)->W (tU (aQ P aK) v H) λr H'=>bq aT H.next bk H' l r/\av H H'/\jz aT r:=by
  intro he;have f:=av.push H (.row Z 1 []);have o:bq aT H.next bk (H.push (.row Z 1 [])) [] (.aD H.next 0 0 1 (D 0)):=⟨.inr ⟨H.next,[],D 0,rfl,trivial,ad.a_ _ _,bC _,.inr rfl,λi a p=>by simp at p⟩,λL n c e=>by cases e;exact bC _⟩
  obtain⟨t,H',g,j,d,q,k⟩:=o.ints (by simp) (h.aE f) (by simpa using m);have hle:=d.1;simp-implicitDefEqProofs(disch:=try exact ai)only[tU,aj,he,g];refine aG.2 ⟨j,cT.aE ((eH f (bC _)).trans d),λL n c b=> ?_⟩;rcases k with rfl|⟨s,rfl⟩
  ·cases b;exact .inr rfl
  ·cases b;exact .inl rfl
 rcases h with⟨rfl,rfl⟩|⟨L,i,cap,ro,els,rfl,_⟩|⟨L,i,cap,rfl,rfl⟩
 ·simp-implicitDefEqProofs(disch:=try exact ai)only[tU,aj,Qj];exact aG.2 ⟨bq.nil _ _ _ _,av.refl _,λL n c b=>by cases b⟩
 ·exact body (GA _ _ _ _ _)
 ·exact body (GA _ _ _ _ _)
def GB{l r:List Int}{v w:ae}{ok':Nat->Prop}(h:aO aT H ok l v)(ah:aO aT H ok' r w)(al:l.length=r.length)(e:l.length<=1000000000){N:Nat}:∀(j k m:Nat),k+j=l.length->j<m->l.take k=r.take k->W (uu (aQ P aK) N m v w (.int .i64 l.length) (.int .i64 k) H) λq H'=>q= .bool (decide (l=r))/\H'=H
 |_,_,0,_,hm,_=>aa
 |0,k,m+1,f,_,aH=>by
  have b:¬(k:Int)<(l.length:Int):=aa;simp-implicitDefEqProofs(disch:=try exact ai)only[yD,yC,uu,aj,aC,b,decide_false];refine aG.2 ⟨?_,rfl⟩;rw[List.take_of_length_le aa,List.take_of_length_le aa]at aH;rw[aH];simp
 |j+1,k,m+1,f,hm,aH=>by
  have b:(k:Int)<(l.length:Int):=aa;have c:k<l.length:=aa;have d:k<r.length:=aa;obtain⟨p,g,i⟩:=h.int (j:=(k:Int)) (a:=l[k]) aa (by simp[c]);obtain⟨s,n,o⟩:=ah.int (j:=(k:Int)) (a:=r[k]) aa (by simp[d]);simp-implicitDefEqProofs(disch:=try exact ai)only[yD,yC,uu,aj,aC,b,decide_true,g,i,n,o];by_cases he:l[k]=r[k]
  ·rw[show(l[k] != r[k])=Z by simpa using he];simp-implicitDefEqProofs(disch:=try exact ai)only[aj,aC,cq (show k<=1000000000 by omega)];refine GB h ah al e j (k+1) m aa aa ?_;rw[List.take_succ_eq_append_getElem c,List.take_succ_eq_append_getElem d,aH,he]
  ·rw[show(l[k] != r[k])=C by simpa using he];simp-implicitDefEqProofs(disch:=try exact ai)only[aj];refine aG.2 ⟨?_,rfl⟩;rw[decide_eq_false];rintro rfl;exact he rfl
def Qk{l r:List Int}{v w:ae}{ok':Nat->Prop}(h:aO aT H ok l v)(ah:aO aT H ok' r w)(a:l.length<=1000000000):W (aQ P aK 81 [v,w] H) λq H'=>q= .bool (decide (l=r))/\H'=H:=by
 refine Ze (l.length+1) ?_;by_cases al:l.length=r.length
 ·have e:(((l.length:Nat):Int) != ((r.length:Nat):Int))=false:=bne_eq_false_iff_eq.2 aa;simp-implicitDefEqProofs(disch:=try exact ai)only[yB,br,h.len b6,ah.len b6,aj,aC,e];exact GB h ah al a l.length 0 (l.length+1) aa aa (by simp)
 ·have e:(((l.length:Nat):Int) != ((r.length:Nat):Int))=true:=bne_iff_ne.2 aa;simp-implicitDefEqProofs(disch:=try exact ai)only[yB,br,h.len b6,ah.len b6,aj,aC,e];refine aG.2 ⟨?_,rfl⟩;rw[decide_eq_false];rintro rfl;exact al rfl
end
end
end Go.Proofs.YtmhhnnklfcbgfaaGreat
namespace Go.a2
open Go.bz
structure cv where
  b:Int
  r:Int
  d:Int
 deriving DecidableEq
structure In where
 op:Int
 a:Int
 b:Int
 c:Int
 n:Int
 args:List Int
structure bH where
 params:Int
 vars:List cv
 has:Bool
 res:cv
 ins:List In
structure pI where
 f:Int
 ty:cv
structure bj where
 bV:List (List cv)
 globals:List cv
 ay:List bH
 sites:List pI
 main:Int
def dI{α:Type}(l:List α)(i:Int):Option α:=if 0<=i then l[i.toNat]? else I
def bl:cv:=⟨0,0,0⟩
def cL:cv:=⟨1,0,0⟩
def dL:cv:=⟨2,0,0⟩
def jM(t:cv):Bool:=t.b==3||decide (0<t.d)
def less(t:cv):cv:=⟨t.b,t.r,t.d-1⟩
def aY(c:bH)(v:Int):cv:=(dI c.vars v).getD bl
def dE(a:Nat)(t:cv):Bool:=decide (0<=t.d/\t.d<=3)&&(bif t.b==1||t.b==2 then t.r==0 else bif t.b==3 then decide (0<=t.r/\t.r<a)else Z)
def lE(x:bj)(t:cv):Option (List cv):=if t.b=3/\t.d=0 then dI x.bV t.r else I
def eD(x:bj)(t:cv)(k:Int):cv:=((lE x t).bind λfs=>dI fs k).getD bl
def hP(x:bj)(f:Nat)(s:Int)(t:cv):Bool:=match dI x.sites s with
 |some z=>z.f==(f:Int)&&decide (z.ty=t)
 |none=>Z
def named(i:In):Bool:=
 let z (b c n g:Bool):Bool:=(b||i.b==0)&&((c||i.c==0)&&((n||i.n==0)&&(g||i.args.length==0)))
 match i.op with
 |1=>z Z Z C Z
 |11=>z Z Z C Z
 |19=>z Z Z C Z
 |20=>z Z Z C Z
 |3=>z C Z Z Z
 |10=>z C Z Z Z
 |4=>z C C C Z
 |5=>z C Z C Z
 |12=>z C Z C Z
 |6=>z C C Z Z
 |7=>z C C Z Z
 |8=>z C C Z Z
 |9=>z C C Z Z
 |13=>z Z C Z C
 |17=>z Z C C Z
 |16=>i.a==0&&(i.b==0&&(i.c==0&&i.args.length==0))
 |_=>z Z Z Z Z
def gF(n:Int)(a b d:cv):Bool:=
 if 14<=n/\n<=18 then decide (a=cL/\b=cL/\d=cL)
 else if n=19\/n=20 then decide (a=dL/\b=cL/\d=cL)
 else if n=21\/n=22 then decide (a=dL/\b≠bl/\b=d)
 else if n=23\/n=24 then decide (a=dL/\b=dL/\d=dL)
 else Z
def jW(c g:bH):List Int->Nat->Bool
 |[],_=>C
 |v::ak,k=>decide (aY c v≠bl)&&(decide (g.vars[k]? =D (aY c v))&&jW c g ak (k+1))
def k7(x:bj)(c:bH)(i:In):Bool:=match dI x.ay i.c with
 |none=>Z
 |some g=>decide (0<=g.params/\g.params<=g.vars.length/\(i.args.length:Int)=g.params)&&(jW c g i.args 0&&
  (i.a== -1||(g.has&&decide (aY c i.a≠bl/\aY c i.a=g.res))))
def within(n:Int)(m:Nat):Bool:=decide (0<=n/\n<m)
def dy(x:bj)(f:Nat)(c:bH)(i:In):Bool:=
 let a:=aY c i.a
 let b:=aY c i.b
 let d:=aY c i.c
 named i&&match i.op with
 |1=>decide (a=cL)||(decide (a=dL)&&(i.n==0||i.n==1))
 |2=>decide (a≠bl)&&jM a
 |3=>decide (a≠bl/\a=b)
 |4=>gF i.n a b d
 |5=>(i.n==12&&decide (a=cL/\b=cL))||(i.n==13&&decide (a=dL/\b=dL))
 |6=>decide (a≠bl/\a=eD x b i.c)
 |7=>decide (b≠bl/\b=eD x a i.c)
 |8=>decide (a≠bl/\0<b.d/\d=cL/\a=less b)
 |9=>decide (d≠bl/\0<a.d/\b=cL/\d=less a)
 |10=>decide (a=cL/\0<b.d)
 |11=>decide (a≠bl/\a.b=3/\a.d=0)&&hP x f i.n a
 |12=>decide (0<a.d/\b=cL)&&hP x f i.n a
 |13=>k7 x c i
 |14=>decide (a=cL)
 |15=>decide (a=cL)
 |16=>within i.n c.ins.length
 |17=>decide (a=dL)&&(within i.n c.ins.length&&within i.c c.ins.length)
 |18=>bif c.has then decide (a≠bl/\a=c.res)else i.a== -1
 |19=>decide (a≠bl)&&decide (dI x.globals i.n=D a)
 |20=>decide (a≠bl)&&decide (dI x.globals i.n=D a)
 |_=>Z
def jj(op:Int):Bool:=op==16||op==17||op==18
def jI(l:List In):Int:=match l.getLast? with
 |some i=>i.op
 |none=>0
def codeOk(x:bj)(f:Nat)(c:bH):Bool:=decide (0<=c.params/\c.params<=6/\c.params<=c.vars.length/\c.vars.length<=4000/\1<=c.ins.length)&&(c.vars.all (dE x.bV.length)&& ((bif c.has then dE x.bV.length c.res else decide (c.res=bl))&&(c.ins.all (dy x f c)&&jj (jI c.ins))))
def iI(x:bj):List bH->Nat->Bool
 |[],_=>C
 |c::cs,f=>codeOk x f c&&iI x cs (f+1)
def fW:List bH->Nat
 |[]=>0
 |c::cs=>c.ins.length+fW cs
def h1(x:bj)(s:pI):Bool:=decide (0<=s.f/\s.f<x.ay.length)&&(dE x.bV.length s.ty&&jM s.ty)
def hX(x:bj):Bool:=match dI x.ay x.main with
 |some c=>c.params==0&& !c.has
 |none=>Z
def right(x:bj):Bool:=decide (x.bV.length<=12/\x.globals.length<=8/\1<=x.ay.length/\x.ay.length<=16/\x.sites.length<=60)&&(hX x&&(x.globals.all (dE x.bV.length)&& (x.bV.all (λl=>decide (l.length<=8)&&l.all (dE x.bV.length))&&(x.sites.all (h1 x)&&(decide (fW x.ay<=2500)&&iI x x.ay 0)))))
section
open Classical
inductive bB where
 |base (a b:Nat)
 |copy (a b:Nat)
 |load (a b f:Nat)
 |store (a b f:Nat)
 |same (a b:Nat)
inductive dG(n:Nat)(l:List bB):Nat->Nat->Prop where
 |base {a b} (h:bB.base a b∈l):dG n l a b
 |copy {a b s} (h:bB.copy a b∈l) (af:dG n l b s):dG n l a s
 |load {a b f t s} (h:bB.load a b f∈l) (af:dG n l b t) (ah:dG n l (n+t*8+f) s):dG n l a s
 |store {a b f t s} (h:bB.store a b f∈l) (af:dG n l a t) (ah:dG n l b s):dG n l (n+t*8+f) s
 |same {a b f s} (h:bB.same a b∈l) (az:f<8) (af:dG n l (n+a*8+f) s):dG n l (n+b*8+f) s
 |m3 {a b f s} (h:bB.same a b∈l) (az:f<8) (af:dG n l (n+b*8+f) s):dG n l (n+a*8+f) s
def bB.wf(n m:Nat):bB->Prop
 | .base a b=>a<n/\b<m
 | .copy a b=>a<n/\b<n
 | .load a b f=>a<n/\b<n/\f<8
 | .store a b f=>a<n/\b<n/\f<8
 | .same a b=>a<m/\b<m
def gE(n m:Nat)(l:List bB):Prop:=∀c∈l,c.wf n m
structure Fit(n:Nat)(l:List bB)(R:Nat->Nat->Prop):Prop where
 base:∀{a b},bB.base a b∈l->R a b
 copy:∀{a b s},bB.copy a b∈l->R b s->R a s
 load:∀{a b f t s},bB.load a b f∈l->R b t->R (n+t*8+f) s->R a s
 store:∀{a b f t s},bB.store a b f∈l->R a t->R b s->R (n+t*8+f) s
 same:∀{a b f s},bB.same a b∈l->f<8->R (n+a*8+f) s->R (n+b*8+f) s
 m3:∀{a b f s},bB.same a b∈l->f<8->R (n+b*8+f) s->R (n+a*8+f) s
def dG.least{n:Nat}{l:List bB}{R:Nat->Nat->Prop}(h:Fit n l R):∀{v s},dG n l v s->R v s:=by
 intro v s p
 induction p with
 |base af=>exact h.base af
 |copy af _ i=>exact h.copy af i
 |load af _ _ i j=>exact h.load af i j
 |store af _ _ i j=>exact h.store af i j
 |same af az _ i=>exact h.same af az i
 |m3 af az _ i=>exact h.m3 af az i
def dG.site{n m:Nat}{l:List bB}(hw:gE n m l){v s:Nat}(h:dG n l v s):s<m:=by
 induction h with
 |base h=>exact(hw _ h).2
 |copy _ _ i=>exact i
 |load _ _ _ _ j=>exact j
 |store _ _ _ _ j=>exact j
 |same _ _ _ i=>exact i
 |m3 _ _ _ i=>exact i
def dG.mono{n:Nat}{l b:List bB}(h:∀c∈l,c∈b){v s:Nat}(p:dG n l v s):dG n b v s:=
 p.least ⟨λa=> .base (h _ a),λa=> .copy (h _ a),λa=> .load (h _ a),λa=> .store (h _ a),λa=> .same (h _ a),λa=> .m3 (h _ a)⟩
noncomputable def cY(m:Nat)(p:Nat->Prop):List Nat:=(List.range m).filter λs=>decide (p s)
def fB{m:Nat}{p:Nat->Prop}{s:Nat}:s∈cY m p↔s<m/\p s:=by simp[cY]
def wj{m:Nat}{p q:Nat->Prop}(h:∀s,s<m->(p s↔q s)):cY m p=cY m q:=by
 unfold cY;refine List.filter_congr λs a=> ?_
 rw[List.mem_range]at a;exact decide_eq_decide.2 (h s a)
def sr(m:Nat)(p:Nat->Prop):(cY m p).Pairwise (· < ·):=List.Pairwise.filter _ List.pairwise_lt_range
def Bw:∀{l r:List Nat},l.Pairwise (· < ·)->r.Pairwise (· < ·)->(∀a,a∈l↔a∈r)->l=r
 |[],[],_,_,_=>rfl
 |[],b::r,_,_,h=>by have:=(h b).2 (by simp);simp at this
 |a::l,[],_,_,h=>by have:=(h a).1 (by simp);simp at this
 |a::l,b::r,al,au,h=>by
  rw[List.pairwise_cons]at al au;have e:a=b:=by
   have af:=(h a).1 (by simp);have ah:=(h b).2 (by simp);rw[List.mem_cons]at af ah;rcases af with af|af
   ·exact af
   ·rcases ah with ah|ah
    ·exact ah.symm
    ·have:=au.1 a af;have:=al.1 b ah;omega
  subst e;rw[Bw al.2 au.2 λc=> ?_];have:=h c;simp only[List.mem_cons]at this;constructor
  ·intro aq;rcases this.1 (.inr aq)with rfl|d
   ·exact absurd (al.1 c aq) (Nat.lt_irrefl _)
   ·exact d
  ·intro aq;rcases this.2 (.inr aq)with rfl|d
   ·exact absurd (au.1 c aq) (Nat.lt_irrefl _)
   ·exact d
structure dq where
 nodes:List (List Nat)
 fields:List (List (List Nat))
noncomputable def hZ(n m:Nat)(R:Nat->Nat->Prop):dq:=
 ⟨(List.range n).map λv=>cY m (R v),(List.range m).map λt=>(List.range 8).map λf=>cY m (R (n+t*8+f))⟩
noncomputable def gJ(n m:Nat)(l:List bB):dq:=hZ n m (dG n l)
def dq.gq(p:dq)(s k:Nat):List Nat:=((p.fields[s]?).bind λfs=>fs[k]?).getD []
inductive ds(p:dq):Nat->Nat->Prop where
 |refl (a):ds p a a
 |symm {a b} (h:ds p a b):ds p b a
 |trans {a b c} (h:ds p a b) (k:ds p b c):ds p a c
 |node {L a b} (h:L∈p.nodes) (d:a∈L) (e:b∈L):ds p a b
 |field {s t k a b} (h:ds p s t) (d:a∈p.gq s k) (e:b∈p.gq t k):ds p a b
structure uK(p:dq)(R:Nat->Nat->Prop):Prop where
 refl:∀a,R a a
 symm:∀{a b},R a b->R b a
 trans:∀{a b c},R a b->R b c->R a c
 node:∀{L a b},L∈p.nodes->a∈L->b∈L->R a b
 field:∀{s t k a b},R s t->a∈p.gq s k->b∈p.gq t k->R a b
def ds.least{p:dq}{R:Nat->Nat->Prop}(h:uK p R):∀{a b},ds p a b->R a b:=by
 intro a b t
 induction t with
 |refl a=>exact h.refl a
 |symm _ i=>exact h.symm i
 |trans _ _ i j=>exact h.trans i j
 |node af c d=>exact h.node af c d
 |field _ c d i=>exact h.field i c d
def ds.cl(p:dq):uK p (ds p):=⟨.refl,.symm,.trans,.node,.field⟩
structure gi(R:Nat->Nat->Prop):Prop where
 refl:∀a,R a a
 symm:∀{a b},R a b->R b a
 trans:∀{a b c},R a b->R b c->R a c
def uK.eqv{p:dq}{R:Nat->Nat->Prop}(h:uK p R):gi R:=⟨h.refl,h.symm,h.trans⟩
noncomputable def dC(R:Nat->Nat->Prop)(s:Nat):Nat:=((List.range (s+1)).find? λt=>decide (R s t)).getD s
def jn{R:Nat->Nat->Prop}(h:gi R)(s:Nat):R s (dC R s)/\dC R s<=s/\∀t,R s t->dC R s<=t:=by
 unfold dC;cases az:(List.range (s+1)).find? λt=>decide (R s t)with
 |none=>
  rw[List.find?_eq_none]at az;exact absurd (decide_eq_true (h.refl s)) (az s (by simp))
 |some t=>
  rw[List.find?_range_eq_some]at az;obtain⟨af,ah,an⟩:=az;simp only[decide_eq_true_eq]at af;refine⟨af,by simp at ah;show t<=s;omega,λu hu=> ?_⟩;show t<=u;rcases Nat.lt_or_ge u t with b|a
  ·have:=an u b;simp[hu]at this
  ·exact a
def qk{R:Nat->Nat->Prop}(h:gi R){a b:Nat}:dC R a=dC R b↔R a b:=by
 have c:=jn h a;have d:=jn h b;constructor
 ·intro e;exact h.trans c.1 (h.symm (e▸d.1))
 ·intro au;exact Nat.le_antisymm (c.2.2 _ (h.trans au d.1)) (d.2.2 _ (h.trans (h.symm au) c.1))
def Iy{R:Nat->Nat->Prop}(h:gi R)(a:Nat):dC R (dC R a)=dC R a:=(qk h).2 (h.symm (jn h a).1)
