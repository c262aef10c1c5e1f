/-
  Texts of one proof, laid together: Hv11 Hv12 Hv13 Hv14 Hv15.
-/
import Derived.Test.YtghmbpmaafnodaaDoorMB
import Derived.Orders
set_option linter.unusedVariables false
set_option linter.unusedSimpArgs false
set_option linter.defProp false
open Option renaming some→D,none→Z
open Bool renaming true→X,false→U
namespace Go.b9
structure a_ where
 t:bn aa
 size:Nat
def a_.get(ad:a_)(d:Nat):aa:=match ad.t.get d with
 |some v=>v
 |none=> .tuple []
def a_.put(ad:a_)(dst:Option Nat)(v:aa):Option a_:=match dst with
 |none=>D ad
 |some d=>if d<ad.size then D {ad with t:=bn.put v (d+1) ad.t d}else Z
structure dC(ρ:Env)(ad:a_)(a:Act):Prop where
 size:ad.size=a.tmps.size
 get:∀d,bd ρ (ad.get d) (a.tmps.getD d undef)
 none:a.defers=[]
def dC.mono{ρ c:Env}{ad:a_}{a:Act}(h:dC ρ ad a)(hle:ρ.le c):dC c ad a:=⟨h.size,λd=>(h.get d).mono hle,h.none⟩
def a_.p1{ad a8:a_}{dst:Option Nat}{v:aa}(h:ad.put dst v=D a8)(d:Nat):a8.get d=if dst=D d then v else ad.get d:=by
 cases dst with
 |none=>simp only[a_.put,aU]at h;subst h;simp
 |some e=>
  simp only[a_.put]at h;split at h
  ·simp only[aU]at h;subst h;by_cases he:e=d
   ·subst he;simp[a_.get,bn.p3 v (e+1) ad.t e af]
   ·have:(D e=D d)=False:=by simp[he]
    simp[a_.get,bn.p2 v (e+1) ad.t e d he,he]
  ·cases h
def a_.o8{ad a8:a_}{dst:Option Nat}{v:aa}(h:ad.put dst v=D a8):a8.size=ad.size:=by
 cases dst with
 |none=>simp only[a_.put,aU]at h;subst h;rfl
 |some e=>
  simp only[a_.put]at h;split at h
  ·simp only[aU]at h;subst h;rfl
  ·cases h
def a_.Cp{ad a8:a_}{d:Nat}{v:aa}(h:ad.put (D d) v=D a8):d<ad.size:=by
 simp only[a_.put]at h;split at h
 ·assumption
 ·cases h
def dC.put{ρ:Env}{ad a8:a_}{a:Act}{dst:Option Nat}{v:aa}{x:Value}(h:dC ρ ad a)(aG:ad.put dst v=D a8)(i:bd ρ v x):dC ρ a8 (a.put dst x):=by
 refine⟨?_,λd=> ?_,?_⟩
 ·rw[a_.o8 aG,h.size];cases dst<;>simp[Act.put]
 ·rw[a_.p1 aG];cases dst with
  |none=>simpa [Act.put]using h.get d
  |some e=>
   have c:=a_.Cp aG;rw[h.size]at c;by_cases he:e=d
   ·subst he;simpa [Act.put,c]using i
   ·have:=h.get d;simp only[aU,he,if_false,Act.put,Array.getD_eq_getD_getElem?,Array.getElem?_setIfInBounds];simpa using this
 ·cases dst<;>simpa [Act.put]using h.none
def b4(ad:a_):Operand->Option aa
 | .tmp t=>D (ad.get t)
 | .const v=>qm v
 | .global _=>Z
 | .func f=>D (.func (.func f) [] [])
section
variable {P:Program}{ρ:Env}{H:ae}{w:World}{ad:a_}{a:Act}
def dh(d:dC ρ ad a){x:Operand}{v:aa}(h:b4 ad x=D v):bd ρ v (a.eval x):=by
 cases x with
 |tmp t=>simp only[b4,aU]at h;subst h;exact d.get t
 |const c=>exact rY h ρ
 |global g=>cases h
 |func f=>simp only[b4,aU]at h;subst h;exact .func (.func f) [] [] [] [] .nil .nil
def gC(ad:a_):List Operand->Option (List aa)
 |[]=>D []
 |x::xs=>match b4 ad x,gC ad xs with
  |some v,D a=>D (v::a)
  |_,_=>Z
def mu(d:dC ρ ad a):∀{xs:List Operand} {c:List aa},gC ad xs=D c->bq ρ c (xs.map a.eval)
 |[],c,h=>by simp only[gC,aU]at h;subst h;exact .nil
 |x::xs,c,h=>by
  simp only[gC]at h;split at h
  ·rename_i v j e i;simp only[aU]at h;subst h;exact .cons _ _ _ _ (dh d e) (mu d i)
  ·cases h
def im(ad:a_):List (Nat×Operand)->Option (List (Nat×aa))
 |[]=>D []
 |(i,x)::xs=>match b4 ad x,im ad xs with
  |some v,D a=>D ((i,v)::a)
  |_,_=>Z
def tE(d:dC ρ ad a):∀{xs:List (Nat×Operand)} {c:List (Nat×aa)},im ad xs=D c->nP ρ c (xs.map λ(i,x)=>(i,a.eval x))
 |[],c,h=>by simp only[im,aU]at h;subst h;exact trivial
 |(i,x)::xs,c,h=>by
  simp only[im]at h;split at h
  ·rename_i v k e j;simp only[aU]at h;subst h;exact⟨rfl,dh d e,tE d j⟩
  ·cases h
def jv(ad:a_):Option Operand->Option (Option aa)
 |none=>D Z
 |some x=>match b4 ad x with
  |some v=>D (D v)
  |none=>Z
def tG(c:dC ρ ad a){x:Option Operand}{v:Option aa}(h:jv ad x=D v):nO ρ v (x.map a.eval):=by
 cases x with
 |none=>simp only[jv,aU]at h;subst h;exact .none
 |some x=>
  simp only[jv]at h;split at h
  ·rename_i u hu;simp only[aU]at h;subst h;exact .some _ _ (dh c hu)
  ·cases h
def bW:aa->Option aa
 | .ptr l i c=>D (.ptr l i c)
 | .iface t v=>D (.iface t v)
 | .func (.func f) x y=>D (.func (.func f) x y)
 |_=>Z
def tw(P:Program)(t:TypeId)(v:aa):Option aa:=
 match P.underlying t with
 |some (.interface _)=>Z
 |some _=>D (.iface t v)
 |none=>Z
def b2(P:Program)(H:ae)(b:Builtin)(ts:List TypeId)(a:List aa):Option aa:=
 match b,ts,a with
 | .len,[t],[x]=>tx P H t x
 | .max,_,[x,y]=>rj x y
 | .min,_,[x,y]=>rk x y
 | .cap,[t],[x]=>tq P t x
 |_,_,_=>Z
def tp(P:Program)(t:TypeId)(ok:Bool)(v:aa):Option aa:=
 match v with
 | .iface d u=>if d=t/\ok=U then(match P.underlying t with|some (.interface _)=>Z|some _=>D u|none=>Z)else Z
 |_=>Z
def iq(P:Program)(ai:Op)(ad:a_):Option aa:=
 match ai with
 | .move x=>b4 ad x
 | .assign x=>b4 ad x
 | .pick c a b=>match b4 ad c with
  |some (.bool t)=>if t then b4 ad a else b4 ad b
  |_=>Z
 | .build t n=>(im ad n.toList).bind (cj P t)
 | .nilCheck x=>(b4 ad x).bind bW
 | .binOp op t x y _=>(b4 ad x).bind λu=>(b4 ad y).bind λv=>pC P op t x y u v
 | .unOp op _ x=>(b4 ad x).bind (e2 op)
 | .convert s d x=>(b4 ad x).bind (lu P s d)
 | .makeInterface t x=>(b4 ad x).bind (tw P t)
 | .makeFunc fn f c=>(gC ad f.toList).bind λe=>(gC ad c.toList).bind λcs=>D (.func fn e cs)
 | .slice t x lo j k=>(b4 ad x).bind λv=>(jv ad lo).bind λl=>(jv ad j).bind λh=>(jv ad k).bind λm=>ju P t v l h m
 | .fieldAddr t x f=>(b4 ad x).bind λv=>aK P t v f
 | .field t x f=>(b4 ad x).bind λv=>cA P t v f
 | .indexAddr t x i=>(b4 ad x).bind λu=>(b4 ad i).bind λv=>cc P t u v
 | .index t x i=>(b4 ad x).bind λu=>(b4 ad i).bind λv=>eD P t u v
 | .extract x i=>(b4 ad x).bind λv=>eg v i
 | .typeAssert x _ t ok=>(b4 ad x).bind (tp P t ok)
 | .call c=>match c.callee with
  | .builtin b=>(gC ad c.args.toList).bind (b2 P .empty b c.argTypes.toList)
  |_=>Z
 |_=>Z
def eP{s:Sem Value}{x:Value}{w a:World}(h:s.run P w= .ok x a):(do pure (.value (<-s)):Sem Next).run P w= .ok (.value x) a:=by
 simp[h]
def vL{s:Sem Unit}{w a:World}(h:s.run P w= .ok () a):(do s;pure .skip:Sem Next).run P w= .ok .skip a:=by
 simp[h]
def Rel.empty(ρ:Env)(w:World)(n:Nat):Rel ρ ⟨.leaf,n⟩ w:=by
 have:∀l,(⟨.leaf,n⟩:ae).get l=none:=λl=>by unfold ae.get;split<;>first|exact bn.pZ _|rfl
 refine⟨λl _ _ _ h=> ?_,λl _ h=> ?_,λl _ _ _ h=> ?_,λl l' _ _ h=> ?_⟩
 ·rw[this]at h;cases h
 ·rw[this]at h;cases h
 ·rw[this]at h;cases h
 ·rcases h with⟨_,_,h⟩|⟨_,h⟩|⟨_,_,_,h⟩<;>(rw[this]at h;cases h)
def w6(m:Rel ρ H w){b:Builtin}{ts:List TypeId}{l:List aa}{v:aa}{xs:List Value}(h:b2 P H b ts l=D v)(i:bq ρ l xs)(ty:TypeId)(cs:Array Bool):
  ∃x,(builtin b ts.toArray ty cs xs.toArray).run P w= .ok (.value x) w/\bd ρ v x:=by
 unfold b2 at h;split at h
 ·cases i with|cons _ x _ _ d e=>
  cases e;obtain⟨r,a,c⟩:=FA m ty h d;exact⟨r,eP a,c⟩
 ·cases i with|cons _ x _ _ d e=>
  cases e with|cons _ y _ _ j k=>
  cases k;obtain⟨r,a,c⟩:=FJ (P:=P) ts.toArray ty h d j w;exact⟨r,eP a,c⟩
 ·cases i with|cons _ x _ _ d e=>
  cases e with|cons _ y _ _ j k=>
  cases k;obtain⟨r,a,c⟩:=FL (P:=P) ts.toArray ty h d j w;exact⟨r,eP a,c⟩
 ·cases i with|cons _ x _ _ d e=>
  cases e;obtain⟨r,a,c⟩:=Fp (P:=P) ty h d w;exact⟨r,eP a,c⟩
 ·cases h
def map_toArray{α β:Type}(f:α->β)(xs:Array α):xs.map f=(xs.toList.map f).toArray:=by cases xs;simp
def se{ai:Oper}{c:Call}{b:Builtin}(e:ai.op= .call c)(d:c.callee= .builtin b)(w:World):
  (execOp a.eval ai).run P w=(builtin b c.argTypes ai.type (c.args.map λ | .const _=>X|_=>U) (c.args.map a.eval)).run P w:=by
 unfold execOp;rw[e];simp only[resolve,d];rfl
def F5{ai:Oper}{v:aa}(h:iq P ai.op ad=D v)(o:dC ρ ad a)(w:World):∃x,(execOp a.eval ai).run P w= .ok (.value x) w/\bd ρ v x:=by
 unfold iq at h;split at h
 ·rename_i x j;exact⟨_,by unfold execOp;rw[j];rfl,dh o h⟩
 ·rename_i x j;exact⟨_,by unfold execOp;rw[j];rfl,dh o h⟩
 ·rename_i c x y j;split at h
  ·rename_i t K;have n:=dh o K;have p:a.eval c= .bool t:=by
    generalize a.eval c=z at n;cases n;rfl
   cases t
   ·exact⟨_,by unfold execOp;rw[j];simp only[p];rfl,dh o h⟩
   ·exact⟨_,by unfold execOp;rw[j];simp only[p];rfl,dh o h⟩
  ·cases h
 ·rename_i t Q j;simp only[cR]at h;obtain⟨L,n,p⟩:=h;obtain⟨x,q,A⟩:=Fl p (tE o n) w;refine⟨x,?_,A⟩;unfold execOp;rw[j];rw[<-map_toArray]at q;exact eP q
 ·rename_i x j;simp only[cR]at h;obtain⟨u,n,p⟩:=h;have e:=dh o n;refine⟨a.eval x,?_,?_⟩
  ·unfold execOp;rw[j];simp only
   generalize a.eval x=z at e;unfold bW at p;split at p
   ·cases e;rfl
   ·cases e;rfl
   ·cases e;rfl
   ·cases p
  ·unfold bW at p;split at p<;>first|(simp only[aU]at p;subst p;exact e)|cases p
 ·rename_i op t x y T j;simp only[cR]at h;obtain⟨u,n,z,p,e⟩:=h;obtain⟨r,q,A⟩:=Fj e (dh o n) (dh o p) w;exact⟨r,by unfold execOp;rw[j];exact eP q,A⟩
 ·rename_i op t x j;simp only[cR]at h;obtain⟨u,n,e⟩:=h;obtain⟨r,q,A⟩:=Gb e (dh o n) w;exact⟨r,by unfold execOp;rw[j];exact eP q,A⟩
 ·rename_i s d x j;simp only[cR]at h;obtain⟨u,n,e⟩:=h;obtain⟨r,q,A⟩:=Fs e (dh o n) w;exact⟨r,by unfold execOp;rw[j];exact eP q,A⟩
 ·rename_i t x j;simp only[cR]at h;obtain⟨u,n,e⟩:=h;have B:=dh o n;unfold tw at e;split at e
  ·cases e
  ·rename_i d G hu;simp only[aU]at e;subst e;refine⟨.iface t (a.eval x),?_,.iface _ _ _ B⟩;unfold execOp;rw[j];refine eP ?_;unfold Instr.makeInterface;simp only[Sem.run_bind,run_underlying hu,Result.andThen_ok];cases d<;>first|rfl|exact absurd rfl (G _)
  ·cases e
 ·rename_i fn f c j;simp only[cR,aU]at h;obtain⟨H,n,cs,p,rfl⟩:=h;refine⟨_,?_,.func fn H cs _ _ (mu o n) (mu o p)⟩;unfold execOp;rw[j];rw[<-map_toArray,<-map_toArray];rfl
 ·rename_i t x lo N O j;simp only[cR]at h;obtain⟨u,n,l,p,k,e,m,B,E⟩:=h;obtain⟨r,q,A⟩:=F_ E (dh o n) (tG o p) (tG o e) (tG o B) w;exact⟨r,by unfold execOp;rw[j];exact eP q,A⟩
 ·rename_i t x f j;simp only[cR]at h;obtain⟨u,n,e⟩:=h;obtain⟨r,q,A⟩:=Fw e (dh o n) w;exact⟨r,by unfold execOp;rw[j];exact eP q,A⟩
 ·rename_i t x f j;simp only[cR]at h;obtain⟨u,n,e⟩:=h;obtain⟨r,q,A⟩:=Fx e (dh o n) w;exact⟨r,by unfold execOp;rw[j];exact eP q,A⟩
 ·rename_i t x i j;simp only[cR]at h;obtain⟨u,n,z,p,e⟩:=h;obtain⟨r,q,A⟩:=Fy e (dh o n) (dh o p) w;exact⟨r,by unfold execOp;rw[j];exact eP q,A⟩
 ·rename_i t x i j;simp only[cR]at h;obtain⟨u,n,z,p,e⟩:=h;obtain⟨r,q,A⟩:=Fz e (dh o n) (dh o p) w;exact⟨r,by unfold execOp;rw[j];exact eP q,A⟩
 ·rename_i x i j;simp only[cR]at h;obtain⟨u,n,e⟩:=h;obtain⟨r,q,A⟩:=Fv e (dh o n) w;exact⟨r,by unfold execOp;rw[j];exact eP q,A⟩
 ·rename_i x S t ok j;simp only[cR]at h;obtain⟨u,n,e⟩:=h;have B:=dh o n;unfold tp at e;split at e
  ·rename_i d R;split at e
   ·rename_i F;obtain⟨rfl,rfl⟩:=F;generalize he:a.eval x=z at B;cases B with|iface _ _ M E=>
    split at e
    ·cases e
    ·rename_i pa G hu;simp only[aU]at e;subst e;refine⟨M,?_,E⟩;unfold execOp;rw[j];refine eP ?_;rw[he];unfold Instr.typeAssert;simp only[Sem.run_bind,run_underlying hu,Result.andThen_ok];cases pa<;>first|exact absurd rfl (G _)|simp
    ·cases e
   ·cases e
  ·cases e
 ·rename_i c j;split at h
  ·rename_i b F;simp only[cR]at h;obtain⟨L,n,p⟩:=h;obtain⟨x,q,A⟩:=w6 (Rel.empty ρ w 0) p (mu o n) ai.type (c.args.map λ | .const _=>X|_=>U);refine⟨x,?_,A⟩;rw[se j F,map_toArray a.eval];simpa using q
  ·cases h
 ·cases h
def gB(P:Program)(ai:Op)(ad:a_)(H:ae):Option aa:=
 match ai with
 | .load t x=>(b4 ad x).bind (an P H t)
 | .lookup t x k ok=>(b4 ad x).bind λu=>(b4 ad k).bind λv=>rh P H t u v ok
 | .convert s d x=>(b4 ad x).bind (ml P H s d)
 | .call c=>match c.callee with
  | .builtin b=>(gC ad c.args.toList).bind (b2 P H b c.argTypes.toList)
  |_=>Z
 |_=>Z
def F6(o:Rel ρ H w){ai:Oper}{v:aa}(h:gB P ai.op ad H=D v)(n:dC ρ ad a):∃x,(execOp a.eval ai).run P w= .ok (.value x) w/\bd ρ v x:=by
 unfold gB at h;split at h
 ·rename_i t x l;simp only[cR]at h;obtain⟨u,j,m⟩:=h;obtain⟨r,e,i⟩:=tA o m (dh n j);exact⟨r,by unfold execOp;rw[l];exact eP e,i⟩
 ·rename_i t x k ok l;simp only[cR]at h;obtain⟨u,j,z,p,m⟩:=h;obtain⟨r,e,i⟩:=FE o m (dh n j) (dh n p);exact⟨r,by unfold execOp;rw[l];exact eP e,i⟩
 ·rename_i s d x l;simp only[cR]at h;obtain⟨u,j,m⟩:=h;obtain⟨r,e,i⟩:=Fm o m (dh n j);exact⟨r,by unfold execOp;rw[l];exact eP e,i⟩
 ·rename_i c l;split at h
  ·rename_i b q;simp only[cR]at h;obtain⟨y,j,p⟩:=h;obtain⟨x,e,i⟩:=w6 o p (mu n j) ai.type (c.args.map λ | .const _=>X|_=>U);refine⟨x,?_,i⟩;rw[se l q,map_toArray a.eval];simpa using e
  ·cases h
 ·cases h
def mq(P:Program)(ai:Op)(ad:a_)(H:ae):Option (aa×ae):=
 match ai with
 | .alloc t=>re P H t
 | .box t x=>(b4 ad x).bind (nV (ow P t) H)
 | .buildSlice t n a=>(im ad a.toList).bind (pD P H t n)
 | .makeMap _ Z=>D (tB H)
 | .makeSlice t l c=>(b4 ad l).bind λu=>(b4 ad c).bind λv=>ri P H t u v
 |_=>Z
def FN(q:Rel ρ H w)(s:ρ H.next=Z){ai:Oper}{v:aa}{H':ae}(h:mq P ai.op ad H=D (v,H'))(y:dC ρ ad a):
  ∃x d e,(execOp a.eval ai).run P w= .ok (.value x) d/\bd e v x/\Step ρ H w e H' d:=by
 unfold mq at h;split at h
 ·rename_i t m;obtain⟨r,d,e,i,j,k⟩:=Fh q s h;exact⟨r,d,e,by unfold execOp;rw[m];exact eP i,j,k⟩
 ·rename_i t x m;simp only[cR]at h;obtain⟨u,o,p⟩:=h;obtain⟨r,d,e,i,j,k⟩:=w5 (P:=P) q s p (dh y o) t (λE h=>BU h);exact⟨r,d,e,by unfold execOp;rw[m];exact eP i,j,k⟩
 ·rename_i t n B m;simp only[cR]at h;obtain⟨u,o,p⟩:=h;obtain⟨r,d,e,i,j,k⟩:=Fk q s p (tE y o);refine⟨r,d,e,?_,j,k⟩;unfold execOp;rw[m];rw[<-map_toArray]at i;exact eP i
 ·rename_i t m;simp only[aU]at h;obtain⟨r,d,e,i,j,k⟩:=FF (P:=P) q s t;rw[h]at j k;exact⟨r,d,e,by unfold execOp;rw[m];exact eP i,j,k⟩
 ·rename_i t l c m;simp only[cR]at h;obtain⟨u,o,z,A,p⟩:=h;obtain⟨r,d,e,i,j,k⟩:=FI q s p (dh y o) (dh y A);exact⟨r,d,e,by unfold execOp;rw[m];exact eP i,j,k⟩
 ·cases h
def bO.jC:bO->Bool
 | .row U _ _=>X
 | .map _=>X
 | .bU _ _ _=>X
 |_=>U
def bO.jC.ro{b:bO}(h:b.jC=X):b.p5=false:=by
 cases b with
 |row ro e s=>cases ro<;>first|rfl|cases h
 |map es=>rfl
 |bU t e s=>rfl
 |dead=>rfl
def mN(r:Option (aa×ae))(l:Nat):Option (aa×bO):=
 match r with
 |some (v,H')=>if H'.next=l+1 then(match H'.get l with
  |some b=>if b.jC then D (v,b)else Z
  |none=>Z)else Z
 |none=>Z
def iS(P:Program)(ai:Op)(ad:a_)(l:Nat):Option (aa×bO):=mN (mq P ai ad ⟨.leaf,l⟩) l
def j2(P:Program)(ai:Op)(ad:a_)(H:ae):Option (aa×ae):=
 match ai with
 | .store t x y=>(b4 ad x).bind λu=>(b4 ad y).bind λv=>(aV P H t u v).map λH'=>(.tuple [],H')
 | .mapUpdate t m k x=>(b4 ad m).bind λu=>(b4 ad k).bind λv=>(b4 ad x).bind λz=>(nZ P H t u v z).map λH'=>(.tuple [],H')
 | .insert t m k x=>(b4 ad m).bind λu=>(b4 ad k).bind λv=>(b4 ad x).bind λz=>(nZ P H t u v z).map λH'=>(.tuple [],H')
 | .call c=>match c.callee,c.args.toList with
  | .builtin .append,[s,x]=>(b4 ad s).bind λu=>(b4 ad x).bind λv=>cQ P H c.argTypes.toList u v
  | .builtin .clear,[x]=>(b4 ad x).bind λu=>(rf P H c.argTypes.toList u).map λH'=>(.tuple [],H')
  |_,_=>Z
 |_=>Z
def wF(x:Value):Next->Prop
 | .value y=>y=x
 | .skip=>x=undef
 |_=>False
def Gf(A:Rel ρ H w){ai:Oper}{v:aa}{H':ae}(h:j2 P ai.op ad H=D (v,H'))(L:H.next<H'.next->ρ H.next=Z)(e:dC ρ ad a):
  ∃n x d B,(execOp a.eval ai).run P w= .ok n d/\wF x n/\bd B v x/\Step ρ H w B H' d:=by
 unfold j2 at h;split at h
 ·rename_i t x y p;simp only[cR,Option.map_eq_some_iff,bY]at h;obtain⟨u,l,z,q,H1,o,rfl,rfl⟩:=h;obtain⟨d,i,j⟩:=Ga A o (dh e l) (dh e q);exact⟨.skip,undef,d,ρ,by unfold execOp;rw[p];exact vL i,rfl,.tuple [] [] .nil,j⟩
 ·rename_i t m k x p;simp only[cR,Option.map_eq_some_iff,bY]at h;obtain⟨u,l,z,q,y,E,H1,o,rfl,rfl⟩:=h;obtain⟨d,i,j⟩:=xa A o (dh e l) (dh e q) (dh e E);exact⟨.skip,undef,d,ρ,by unfold execOp;rw[p];exact vL i,rfl,.tuple [] [] .nil,j⟩
 ·rename_i t m k x p;simp only[cR,Option.map_eq_some_iff,bY]at h;obtain⟨u,l,z,q,y,E,H1,o,rfl,rfl⟩:=h;obtain⟨d,i,j⟩:=xa A o (dh e l) (dh e q) (dh e E);exact⟨.skip,undef,d,ρ,by unfold execOp;rw[p];exact vL i,rfl,.tuple [] [] .nil,j⟩
 ·rename_i c p;split at h
  ·rename_i s x G F;simp only[cR]at h;obtain⟨u,l,z,q,o⟩:=h;obtain⟨r,d,B,i,j,K⟩:=Fi A ai.type o L (dh e l) (dh e q);refine⟨.value r,r,d,B,?_,rfl,j,K⟩;rw[se p G,map_toArray a.eval,F];refine eP (s:=Builtin.append_ c.argTypes ai.type _) ?_;simpa using i
  ·rename_i x G F;simp only[cR,Option.map_eq_some_iff,bY]at h;obtain⟨u,l,H1,o,rfl,rfl⟩:=h;obtain⟨d,i,j⟩:=Fq A ai.type o (dh e l);refine⟨.value (.tuple #[]),.tuple #[],d,ρ,?_,rfl,.tuple [] [] .nil,j⟩;rw[se p G,map_toArray a.eval,F];refine eP (s:=Builtin.clear_ c.argTypes ai.type _) ?_;simpa using i
  ·cases h
 ·cases h
end
section
variable {P:Program}{ρ:Env}{H:ae}{w:World}{ad:a_}{a:Act}
def ig(ρ:Env)(w:World)(loc:Loc):bO->Prop
 | .row ro esz els=>fc ρ w loc ro esz els
 | .map es=>td ρ w loc es
 | .bU t esz els=>lp ρ w loc t esz els
 | .dead=>True
def ig.frame{n:Env}{m:World}{loc:Loc}{b:bO}(h:ig ρ w loc b)(hle:ρ.le n)(a:m.heap[loc.block]? =w.heap[loc.block]?):ig n m loc b:=by
 cases b with
 |row ro esz els=>
  obtain⟨d,c,t,o,k,l,q⟩:=h;refine⟨d,c,t,o,by rw[a];exact k,l,λi e he=> ?_⟩;obtain⟨aZ,s⟩:=q i e he;refine⟨aZ,λj v p=> ?_⟩;obtain⟨u,x,y,z⟩:=s j v p;exact⟨u,x,y,z.mono hle⟩
 |map es=>
  obtain⟨ents,clock,d,k,l⟩:=h;exact⟨ents,clock,by rw[a];exact d,k.mono hle,l.mono hle⟩
 |bU t esz els=>exact lp.frame h hle a
 |dead=>trivial
def ig.lt{loc:Loc}{b:bO}(h:ig ρ w loc b)(a:b.jC=X):loc.block<w.heap.size:=by
 cases b with
 |row ro esz els=>obtain⟨_,c,t,i,e,_⟩:=h;exact iY e
 |map es=>obtain⟨ents,clock,d,_⟩:=h;exact iY d
 |bU t esz els=>exact h.1.lt
 |dead=>cases a
def Rel.grow{o:Env}{u:World}(h:Rel ρ H w)(hle:ρ.le o)(m:∀b,b<w.heap.size->u.heap[b]? =w.heap[b]?):Rel o H u:=by
 refine⟨λl ro esz els e=> ?_,λl es e=> ?_,λl t esz els e=> ?_,λl l' loc j p q y v x=> ?_⟩
 ·obtain⟨loc,a,d⟩:=h.row l ro esz els e;refine⟨loc,hle _ _ a,?_⟩;have:=d;obtain⟨_,c,t,z,n,_⟩:=this;exact ig.frame (b:= .row ro esz els) d hle (m _ (iY n))
 ·obtain⟨loc,a,d⟩:=h.map l es e;refine⟨loc,hle _ _ a,?_⟩;have:=d;obtain⟨_,_,n,_⟩:=this;exact ig.frame (b:= .map es) d hle (m _ (iY n))
 ·obtain⟨loc,a,d⟩:=h.bU l t esz els e;exact⟨loc,hle _ _ a,d.frame hle (m _ d.1.lt)⟩
 ·have s:∀k loc,H.live k->o k=D loc->ρ k=D loc:=λk loc i e=>by
   rcases i with⟨ro,esz,els,i⟩|⟨es,i⟩|⟨t,esz,els,i⟩
   ·obtain⟨j,a,_⟩:=h.row _ _ _ _ i;rw[hle _ _ a]at e;rw[a];exact e
   ·obtain⟨j,a,_⟩:=h.map _ _ i;rw[hle _ _ a]at e;rw[a];exact e
   ·obtain⟨j,a,_⟩:=h.bU _ _ _ _ i;rw[hle _ _ a]at e;rw[a];exact e
  exact h.apart l l' loc j p q y (s _ _ p.live v) (s _ _ q x)
def Rel.u0(h:Rel ρ H w){l:Nat}(i:H.live l):∃loc,ρ l=D loc/\loc.block<w.heap.size:=by
 rcases i with⟨ro,esz,els,a⟩|⟨es,a⟩|⟨t,esz,els,a⟩
 ·obtain⟨loc,d,_,c,t,k,e,_⟩:=h.row _ _ _ _ a;exact⟨loc,d,iY e⟩
 ·obtain⟨loc,d,_,_,e,_⟩:=h.map _ _ a;exact⟨loc,d,iY e⟩
 ·obtain⟨loc,d,j⟩:=h.bU _ _ _ _ a;exact⟨loc,d,j.1.lt⟩
def FP{ai:Oper}{l:Nat}{v:aa}{b:bO}(h:iS P ai.op ad l=D (v,b))(F:dC ρ ad a)(z:ρ l=Z)(w:World):
  ∃x d e loc,(execOp a.eval ai).run P w= .ok (.value x) d/\bd e v x/\ρ.le e/\(∀k,k≠l->e k=ρ k)/\e l=D loc/\w.heap.size<=loc.block/\b.jC=X/\ig e d loc b/\
   d.os=w.os/\d.tape=w.tape/\d.output=w.output/\w.heap.size<=d.heap.size/\∀k,k<w.heap.size->d.heap[k]? =w.heap[k]? :=by
 unfold iS mN at h;split at h
 ·rename_i H H' u;split at h
  ·rename_i E;split at h
   ·rename_i cx i;split at h
    ·rename_i j;simp only[aU,bY]at h;obtain⟨rfl,rfl⟩:=h;obtain⟨x,d,e,p,q,c⟩:=FN (Rel.empty ρ w l) z u F;have n:∀k,¬hY ρ ⟨.leaf,l⟩ k:=by
      rintro k ⟨l',loc,s,_,_⟩;have A:(⟨.leaf,l⟩:ae).get l'=none:=by unfold ae.get;split<;>first|exact bn.pZ _|rfl
      rcases s with⟨_,_,h⟩|⟨_,h⟩|⟨_,_,_,h⟩<;>(rw[A]at h;cases h)
     have B:H'.rw l:=by
      cases cx with
      |row ro esz els=>cases ro with
       |true=>cases j
       |false=>exact .inl ⟨_,_,i⟩
      |map es=>exact .inr (.inl ⟨_,i⟩)
      |bU t esz els=>exact .inr (.inr ⟨_,_,_,i⟩)
      |dead=>cases j
     have y:∃loc,e l=D loc/\ig e d loc cx:=by
      cases cx with
      |row ro esz els=>exact c.rel.row _ _ _ _ i
      |map es=>exact c.rel.map _ _ i
      |bU t esz els=>exact c.rel.bU _ _ _ _ i
      |dead=>cases j
     obtain⟨loc,o,G⟩:=y;refine⟨x,d,e,loc,p,q,c.le,λk m=>c.aX k ?_,o,?_,j,G,c.os,c.tape,c.output,c.size,λk m=>c.frame k m (n k)⟩
     ·rw[E];show k<l\/_;omega
     ·exact(c.own loc.block ⟨l,loc,B,o,rfl⟩).resolve_left (n _)
    ·cases h
   ·cases h
  ·cases h
 ·cases h
structure eK(ρ0:Env)(H0:ae)(w0:World)(N:Nat)(hN:Nat->Option bO)(ρ:Env)(H:ae)(w:World):Prop where
 qF:Rel ρ0 H0 w0
 le:ρ0.le ρ
 next:H0.next<=H.next
 aX:∀l,l<H0.next\/N<=l->ρ l=ρ0 l
 rel:Rel ρ H w
 os:w.os=w0.os
 tape:w.tape=w0.tape
 output:w.output=w0.output
 size:w0.heap.size<=w.heap.size
 frame:∀b,b<w0.heap.size->¬hY ρ0 H0 b->w.heap[b]? =w0.heap[b]?
 own:∀b,hY ρ H b->hY ρ0 H0 b\/w0.heap.size<=b
 ro:∀l esz els,H.get l=some (.row true esz els)->H0.get l=some (.row true esz els)
 fresh:∀l,H.next<=l->l<N->hN l=none->ρ l=none
 iI:∀l b,hN l=some b->H.next<=l/\l<N/\b.jC=true/\∃loc,ρ l=some loc/\ig ρ w loc b/\w0.heap.size<=loc.block/\¬hY ρ H loc.block
 sep:∀l l' b cx loc a,hN l=some b->hN l'=some cx->l≠l'->ρ l=some loc->ρ l'=some a->loc.block≠a.block
variable {ρ0:Env}{H0:ae}{w0:World}{N:Nat}{hN:Nat->Option bO}
def eK.start(h:Rel ρ0 H0 w0)(c:wG ρ0 H0.next N):eK ρ0 H0 w0 N (λ_=>Z) ρ0 H0 w0:=
 ⟨h,ρ0.le_refl,bk _,λ_ _=>rfl,h,rfl,rfl,rfl,bk _,λ_ _ _=>rfl,λ_ h=> .inl h,λ_ _ _ h=>h,λl a b _=>c l a b,λ_ _ h=>by simp at h,λ_ _ _ _ _ _ h=>by simp at h⟩
def eK.done(m:eK ρ0 H0 w0 N hN ρ H w)(a:H.next=N):Step ρ0 H0 w0 ρ H w:=
 ⟨m.le,m.next,λl c=>m.aX l (by rw[<-a];exact c),m.rel,m.os,m.tape,m.output,m.size,m.frame,m.own,m.ro⟩
def eK.step{z:Env}{H':ae}{y:World}(m:eK ρ0 H0 w0 N hN ρ H w)(s:Step ρ H w z H' y)(B:H'.next<=N)(aG:∀l b,hN l=D b->H'.next<=l):eK ρ0 H0 w0 N hN z H' y where
 qF:=m.qF
 le:=Env.le_trans m.le s.le
 next:=Nat.le_trans m.next s.next
 aX:=λl o=>(s.aX l (o.imp (λh=>Nat.lt_of_lt_of_le h m.next) (λh=>Nat.le_trans B h))).trans (m.aX l o)
 rel:=s.rel
 os:=s.os.trans m.os
 tape:=s.tape.trans m.tape
 output:=s.output.trans m.output
 size:=Nat.le_trans m.size s.size
 frame:=λb i p=>by
  rw[s.frame b (Nat.lt_of_lt_of_le i m.size) (λd=>(m.own b d).elim p (λhle=>af)),m.frame b i p]
 own:=λb i=>(s.own b i).elim (λd=>m.own b d) (λhle=> .inr (Nat.le_trans m.size hle))
 ro:=λl esz els e=>m.ro l esz els (s.ro l esz els e)
 fresh:=λl a b c=>by rw[s.aX l (.inr a)];exact m.fresh l (Nat.le_trans s.next a) b c
 iI:=λl b h=>by
  obtain⟨P,G,q,loc,j,u,K,v⟩:=m.iI l b h;have E:=u.lt q;refine⟨aG l b h,G,q,loc,s.le _ _ j,u.frame s.le (s.frame _ E v),K,λd=> ?_⟩;rcases s.own _ d with h|h
  ·exact v h
  ·omega
 sep:=λl l' b cx loc L h ba F e A=>by
  obtain⟨_,_,_,M,j,_⟩:=m.iI l b h;obtain⟨_,_,_,O,x,_⟩:=m.iI l' cx ba;have k:=s.le _ _ j;rw[e]at k;cases k;have n:=s.le _ _ x;rw[A]at n;cases n;exact m.sep l l' b cx _ _ h ba F j x
def eK.early{q:Env}{p:World}{l:Nat}{b:bO}{loc:Loc}(m:eK ρ0 H0 w0 N hN ρ H w)(S:H.next<=l)(P:l<N)(aG:hN l=Z)
  (hle:ρ.le q) (y:∀k,k≠l->q k=ρ k) (F:q l=D loc) (R:w.heap.size<=loc.block) (ab:b.jC=X) (Q:ig q p loc b) (V:p.os=w.os) (ae:p.tape=w.tape) (W:p.output=w.output)
  (ad:w.heap.size<=p.heap.size) (E:∀k,k<w.heap.size->p.heap[k]? =w.heap[k]?):eK ρ0 H0 w0 N (λk=>if k=l then D b else hN k) q H p:=by
 have hold:∀k i,H.live k->q k=D i->ρ k=D i:=λk i y e=>by
  obtain⟨M,o,_⟩:=m.rel.u0 y;have:=hle _ _ o;rw[e]at this;cases this;exact o
 have K:∀k,hY q H k->hY ρ H k:=by
  rintro k ⟨l',i,a,c,n⟩;exact⟨l',i,a,hold _ _ a.live c,n⟩
 have aa:∀k,hY ρ H k->k<w.heap.size:=by
  rintro k ⟨l',i,a,c,n⟩;obtain⟨M,o,L⟩:=m.rel.u0 a.live;rw[c]at o;cases o;rw[<-n];exact L
 refine⟨m.qF,Env.le_trans m.le hle,m.next,λk h=> ?_,m.rel.grow hle E,V.trans m.os,ae.trans m.tape,W.trans m.output,Nat.le_trans m.size ad,λk a c=> ?_,
  λk h=>m.own k (K k h),m.ro,λk a c n=> ?_,λk cx h=> ?_,λk v A B M ah h ba T e x=> ?_⟩
 ·rw[y k (by have:=m.next;omega)];exact m.aX k h
 ·rw[E k (Nat.lt_of_lt_of_le a m.size)];exact m.frame k a c
 ·by_cases d:k=l
  ·subst d;simp at n
  ·simp only[d,if_false]at n;rw[y k d];exact m.fresh k a c n
 ·by_cases d:k=l
  ·subst d;simp only[if_true,aU]at h;subst h;exact⟨S,P,ab,loc,F,Q,Nat.le_trans m.size R,λG=>by have:=aa _ (K _ G);omega⟩
  ·simp only[d,if_false]at h;obtain⟨o,L,s,i,j,u,af,ag⟩:=m.iI k cx h;exact⟨o,L,s,i,hle _ _ j,u.frame hle (E _ (u.lt s)),af,λG=>ag (K _ G)⟩
 ·by_cases d:k=l
  ·by_cases z:v=l
   ·omega
   ·subst d;simp only[z,if_false]at ba;obtain⟨_,_,s,i,j,u,_,_⟩:=m.iI v B ba;have:=hle _ _ j;rw[x]at this;cases this;rw[F]at e;cases e;have:=u.lt s;omega
  ·by_cases z:v=l
   ·subst z;simp only[d,if_false]at h;obtain⟨_,_,s,i,j,u,_,_⟩:=m.iI k A h;have:=hle _ _ j;rw[e]at this;cases this;rw[F]at x;cases x;have:=u.lt s;omega
   ·simp only[d,if_false]at h;simp only[z,if_false]at ba;obtain⟨_,_,_,ai,j,_⟩:=m.iI k A h;obtain⟨_,_,_,aj,O,_⟩:=m.iI v B ba;have a:=hle _ _ j;rw[e]at a;cases a;have c:=hle _ _ O;rw[x]at c;cases c;exact m.sep k v A B _ _ h ba T j O
def eK.Ev{b:bO}(m:eK ρ0 H0 w0 N hN ρ H w)(aG:hN H.next=D b):eK ρ0 H0 w0 N (λk=>if k=H.next then Z else hN k) ρ (H.push b) w:=by
 obtain⟨_,W,P,loc,j,y,Q,R⟩:=m.iI _ _ aG;have z:∀k,(H.push b).rw k->k≠H.next->H.rw k:=λk h c=>by simpa [ae.rw,ae.dp c]using h
 have E:∀k,(H.push b).live k->k≠H.next->H.live k:=λk h c=>by simpa [ae.live,ae.dp c]using h
 have A:∀k d,H.live k->ρ k=D d->d.block≠loc.block:=by
  intro k d c e heq;by_cases x:H.rw k
  ·exact R ⟨k,d,x,e,heq⟩
  ·rcases c with⟨ro,esz,els,c⟩|c
   ·cases ro with
    |false=>exact x (.inl ⟨_,_,c⟩)
    |true=>
     have M:=m.ro _ _ _ c;obtain⟨aa,aZ,F⟩:=m.qF.u0 (.inl ⟨_,_,_,M⟩);have:=m.le _ _ aZ;rw[e]at this;cases this;omega
   ·exact x (.inr c)
 have B:∀k,hY ρ (H.push b) k->hY ρ H k\/k=loc.block:=by
  rintro k ⟨l',d,u,o,p⟩;by_cases a:l'=H.next
  ·subst a;rw[j]at o;cases o;exact .inr p.symm
  ·exact .inl ⟨l',d,z _ u a,o,p⟩
 refine⟨m.qF,m.le,by have:=m.next;simp;omega,m.aX,⟨λl ro esz els h=> ?_,λl es h=> ?_,λl t esz els h=> ?_,λl l' q s h ba v e n=> ?_⟩,m.os,m.tape,m.output,m.size,m.frame,
  λk h=> ?_,λl esz els h=>m.ro l esz els (ae.CR (bO.jC.ro P) l esz els h),λl u o p=> ?_,λl cx h=> ?_,λl l' K L q s h ba v e n=> ?_⟩
 ·by_cases a:l=H.next
  ·subst a;rw[ae.bC]at h;simp only[aU]at h;subst h;exact⟨loc,j,y⟩
  ·rw[ae.dp a]at h;exact m.rel.row _ _ _ _ h
 ·by_cases a:l=H.next
  ·subst a;rw[ae.bC]at h;simp only[aU]at h;subst h;exact⟨loc,j,y⟩
  ·rw[ae.dp a]at h;exact m.rel.map _ _ h
 ·by_cases a:l=H.next
  ·subst a;rw[ae.bC]at h;simp only[aU]at h;subst h;exact⟨loc,j,y⟩
  ·rw[ae.dp a]at h;exact m.rel.bU _ _ _ _ h
 ·by_cases a:l=H.next
  ·by_cases i:l'=H.next
   ·omega
   ·subst a;rw[j]at e;cases e;exactλheq=>A l' s (E _ ba i) n heq.symm
  ·by_cases i:l'=H.next
   ·subst i;rw[j]at n;cases n;exact A l q (z _ h a).live e
   ·exact m.rel.apart l l' q s (z _ h a) (E _ ba i) v e n
 ·rcases B k h with h|rfl
  ·exact m.own k h
  ·exact .inr Q
 ·simp only[ae.bT]at u;have a:l≠H.next:=af
  simp only[a,if_false]at p;exact m.fresh l af o p
 ·by_cases a:l=H.next
  ·simp[a]at h
  ·simp only[a,if_false]at h;obtain⟨aZ,F,S,d,G,T,V,gJ⟩:=m.iI l cx h;refine⟨by simp;omega,F,S,d,G,T,V,λO=> ?_⟩;rcases B _ O with ba|ba
   ·exact gJ ba
   ·exact m.sep l H.next cx b d loc h aG a G j ba
 ·by_cases a:l=H.next
  ·simp[a]at h
  ·by_cases i:l'=H.next
   ·simp[i]at ba
   ·simp only[a,if_false]at h;simp only[i,if_false]at ba;exact m.sep l l' K L q s h ba v e n
end
def n1(P:Program)(H:ae)(r:aa)(name:String):Option (Nat×aa):=
 match r with
 | .iface t v=>(match P.info? t with
  |some i=>(match i.methods.find? (·.name==name)with
   |some m=>(match m.path.toList,m.func,P.underlying t with
    |[],D (f,X),D (.pointer _)=>D (f,v)
    |[],D (f,U),D (.pointer e)=>(match v with
     | .ptr .. =>(an P H e v).bind λu=>D (f,u)
     |_=>Z)
    |_,_,_=>Z)
   |none=>Z)
  |none=>Z)
 |_=>Z
def C7{P:Program}{w:World}{n:Nat}{t:TypeId}{v:Value}{name:String}{i:TypeInfo}{m:Method}{f:FuncId}{a:Bool}(d:P.info? t=D i)(hm:i.methods.find? (·.name==name)=D m)(aG:m.path.toList=[])(c:m.func=D (f,a)){x:Value}
  (j:(receiverAt t (.val v) a (D ((name.splitOn ".").getLastD name))).run P w= .ok x w):(method (n+1) t v name).run P w= .ok (f,x) w:=by
 have e:m.path.isEmpty=true:=by simpa using aG
 have h:(typeInfo t).run P w= .ok i w:=by simp[typeInfo,d]
 unfold method;simp only[Sem.run_bind,h,Result.andThen_ok,hm,aG,follow,Sem.run_pure,c,e,if_true,j]
def FK{P:Program}{ρ:Env}{H:ae}{w:World}(A:Rel ρ H w){r u:aa}{cU:Value}{name:String}{f:Nat}(h:n1 P H r name=D (f,u))(B:bd ρ r cU)(args:Array Value):
  ∃o,bd ρ u o/\(callMethod cU name args).run P w=(callFunc f (#[o]++args)).run P w:=by
 unfold n1 at h;split at h
 ·rename_i t v;cases B with|iface _ _ p d=>
  split at h
  ·rename_i i n;split at h
   ·rename_i m hm;have k:P.types.size+Made.depth=(P.types.size+99)+1:=rfl;split at h
    ·rename_i aG a hu;simp only[aU,bY]at h;obtain⟨rfl,rfl⟩:=h;refine⟨p,d,?_⟩;simp only[callMethod,Sem.run_bind,run_program,Result.andThen_ok,k];rw[C7 (x:=p) n hm aG a (by simp only[receiverAt,Sem.run_bind,run_underlying hu,Result.andThen_ok,Place.get,Sem.run_pure])];rfl
    ·rename_i e aG a hu;split at h
     ·rename_i l j c;simp only[cR,aU,bY]at h;obtain⟨G,z,rfl,rfl⟩:=h;obtain⟨x,q,s⟩:=tA A z d;cases d with|ptr _ _ _ loc F=>
      refine⟨x,s,?_⟩;have y:(loadVar e ⟨loc.block,loc.off+j*loc.esz+c,Z⟩).run P w= .ok x w:=by simpa [Instr.loadAt,Instr.sureAddr]using q
      have E:∀ch:String,(Builtin.ssaWrapNilChk_ #[t] t #[.pointer (D ⟨loc.block,loc.off+j*loc.esz+c,Z⟩),strVal "",strVal ch]).run P w= .ok (.pointer (D ⟨loc.block,loc.off+j*loc.esz+c,Z⟩)) w:=λch=>rfl
      simp only[callMethod,Sem.run_bind,run_program,Result.andThen_ok,k];rw[C7 (x:=x) n hm aG a (by simp only[receiverAt,Sem.run_bind,run_underlying hu,Result.andThen_ok,Place.get,Sem.run_pure,E,asAddr,y])];rfl
     ·cases h
    ·cases h
   ·cases h
  ·cases h
 ·cases h
def kH(P:Program)(H:ae)(ad:a_)(c:Call):Option (Nat×List aa):=
 match c.callee with
 | .value f=>match b4 ad f with
  |some (.func (.func g) first captured)=>match gC ad c.args.toList with
   |some a=>D (g,first++a++captured)
   |none=>Z
  |_=>Z
 | .invoke r name=>match b4 ad r with
  |some v=>match n1 P H v name,gC ad c.args.toList with
   |some (g,u),D a=>D (g,u::a)
   |_,_=>Z
  |none=>Z
 |_=>Z
inductive K where
 |skip
 |pure (v:aa)
 |read (v:aa)
 |new (v:aa) (b:bO)
 |dL (v:aa) (H:ae)
def K.val:K->aa
 | .skip=> .tuple []
 | .pure v=>v
 | .read v=>v
 | .new v _=>v
 | .dL v _=>v
def K.heap(H:ae):K->ae
 | .new _ b=>H.push b
 | .dL _ H'=>H'
 |_=>H
def K.eV:K->Bool
 | .new _ _=>X
 | .dL _ _=>X
 |_=>U
abbrev ay:=Nat->List aa->ae->Option (aa×ae)
def uK:Option aa->Option K
 |some v=>D (.pure v)
 |none=>Z
def oi:Option aa->Option K
 |some v=>D (.read v)
 |none=>Z
def AW:Option (aa×bO)->Option K
 |some (v,b)=>D (.new v b)
 |none=>Z
def oe(H:ae):Option (aa×ae)->Option K
 |some (v,H')=>if H.next<=H'.next then D (.dL v H')else Z
 |none=>Z
inductive E9 where
 |pure|read|both|new|write|call
def cls:Op->E9
 | .load .. => .read
 | .lookup .. => .read
 | .alloc _=> .new
 | .box .. => .new
 | .buildSlice .. => .new
 | .makeMap .. => .new
 | .makeSlice .. => .new
 | .store .. => .write
 | .mapUpdate .. => .write
 | .insert .. => .write
 | .convert .. => .both
 | .call c=>match c.callee with
  | .builtin .append=> .write
  | .builtin .clear=> .write
  | .builtin _=> .both
  |_=> .call
 |_=> .pure
def step1(P:Program)(call:ay)(ai:Op)(ad:a_)(H:ae):Option K:=
 match cls ai with
 | .pure=>uK (iq P ai ad)
 | .read=>oi (gB P ai ad H)
 | .both=>match iq P ai ad with
  |some v=>D (.pure v)
  |none=>oi (gB P ai ad H)
 | .new=>AW (iS P ai ad H.next)
 | .write=>oe H (j2 P ai ad H)
 | .call=>match ai with
  | .call c=>match kH P H ad c with
   |some (g,a)=>oe H (call g a H)
   |none=>Z
  |_=>Z
def mF(ai:Op):Bool:=match cls ai with
 | .new=>X
 | .write=>X
 | .call=>X
 |_=>U
def Mo{P:Program}{call:ay}{ai:Op}{ad:a_}{H:ae}{k:K}(h:step1 P call ai ad H=D k)(c:k.eV=X):mF ai=true:=by
 unfold step1 at h;unfold mF;split at h
 ·unfold uK at h;split at h
  ·simp only[aU]at h;subst h;cases c
  ·cases h
 ·unfold oi at h;split at h
  ·simp only[aU]at h;subst h;cases c
  ·cases h
 ·split at h
  ·simp only[aU]at h;subst h;cases c
  ·unfold oi at h;split at h
   ·simp only[aU]at h;subst h;cases c
   ·cases h
 ·rename_i a;rw[a]
 ·rename_i a;rw[a]
 ·rename_i a;rw[a]
def kF(P:Program)(call:ay)(ai:Op)(ad:a_)(H:ae):K->Prop
 | .skip=>False
 | .pure v=>iq P ai ad=D v
 | .read v=>gB P ai ad H=D v
 | .new v b=>iS P ai ad H.next=D (v,b)
 | .dL v H'=>H.next<=H'.next/\(j2 P ai ad H=D (v,H')\/∃c g a,ai= .call c/\kH P H ad c=D (g,a)/\call g a H=D (v,H'))
def Mp{P:Program}{call:ay}{ai:Op}{ad:a_}{H:ae}{k:K}(h:step1 P call ai ad H=D k):kF P call ai ad H k:=by
 unfold step1 at h;split at h
 ·unfold uK at h;split at h
  ·rename_i v a;simp only[aU]at h;subst h;exact a
  ·cases h
 ·unfold oi at h;split at h
  ·rename_i v a;simp only[aU]at h;subst h;exact a
  ·cases h
 ·split at h
  ·rename_i v a;simp only[aU]at h;subst h;exact a
  ·unfold oi at h;split at h
   ·rename_i v a;simp only[aU]at h;subst h;exact a
   ·cases h
 ·unfold AW at h;split at h
  ·rename_i v b a;simp only[aU]at h;subst h;exact a
  ·cases h
 ·unfold oe at h;split at h
  ·rename_i v H' a;split at h
   ·rename_i d;simp only[aU]at h;subst h;exact⟨d,.inl a⟩
   ·cases h
  ·cases h
 ·split at h
  ·rename_i c _;split at h
   ·rename_i g i e;unfold oe at h;split at h
    ·rename_i v H' a;split at h
     ·rename_i d;simp only[aU]at h;subst h;exact⟨d,.inr ⟨c,g,i,rfl,e,a⟩⟩
     ·cases h
    ·cases h
   ·cases h
  ·cases h
section congr
variable {P:Program}{ad a8:a_}
def mr:∀{xs:List Operand},(∀x∈xs,b4 ad x=b4 a8 x)->gC ad xs=gC a8 xs
 |[],_=>rfl
 |x::xs,h=>by
  simp only[gC,h x (by simp),mr (xs:=xs) λy a=>h y (by simp[a])]
def tD:∀{xs:List (Nat×Operand)},(∀x∈xs.map (·.2),b4 ad x=b4 a8 x)->im ad xs=im a8 xs
 |[],_=>rfl
 |(i,x)::xs,h=>by
  simp only[im,h x (by simp),tD (xs:=xs) λy a=>h y (by simp at a ⊢;exact .inr a)]
def tF{x:Option Operand}(h:∀y,x=D y->b4 ad y=b4 a8 y):jv ad x=jv a8 x:=by
 cases x with
 |none=>rfl
 |some x=>simp only[jv,h x rfl]
def F4{ai:Op}(h:∀x∈ai.operands,b4 ad x=b4 a8 x):iq P ai ad=iq P ai a8:=by
 cases ai<;>simp only[iq,Op.operands]at h ⊢ <;>first
  |rfl
  |(simp at h;simp[h];done)
  |skip
 ·rename_i t k;rw[tD λx a=>h x (by simpa using a)]
 ·rename_i fn f c;rw[mr λx a=>h x (by simp at a ⊢;exact .inl a),mr (xs:=c.toList) λx a=>h x (by simp at a ⊢;exact .inr a)]
 ·rename_i t x lo i j;rw[h x (by simp),tF (x:=lo) λy d=>h y (by simp[d]),tF (x:=i) λy d=>h y (by simp[d]),tF (x:=j) λy d=>h y (by simp[d])]
 ·rename_i c;cases e:c.callee with
  |builtin b=>
   simp only[Call.operands,e]at h ⊢;rw[mr λx a=>h x (by simpa using a)]
  |value f=>rfl
  |invoke r m=>rfl
def xe{ai:Op}{H:ae}(h:∀x∈ai.operands,b4 ad x=b4 a8 x):gB P ai ad H=gB P ai a8 H:=by
 cases ai<;>simp only[gB,Op.operands]at h ⊢ <;>first
  |rfl
  |(simp at h;simp[h];done)
  |skip
 ·rename_i c;cases a:c.callee with
  |builtin b=>
   simp only[Call.operands,a]at h ⊢;rw[mr λx d=>h x (by simpa using d)]
  |value f=>rfl
  |invoke r m=>rfl
def FM{ai:Op}{H:ae}(h:∀x∈ai.operands,b4 ad x=b4 a8 x):mq P ai ad H=mq P ai a8 H:=by
 cases ai<;>simp only[mq,Op.operands]at h ⊢ <;>first
  |rfl
  |(simp at h;simp[h];done)
  |skip
 ·rename_i t n c;rw[tD λx a=>h x (by simpa using a)]
 ·rename_i t r;cases r<;>rfl
def FO{ai:Op}{l:Nat}(h:∀x∈ai.operands,b4 ad x=b4 a8 x):iS P ai ad l=iS P ai a8 l:=by
 unfold iS;rw[FM h]
def Ge{ai:Op}{H:ae}(h:∀x∈ai.operands,b4 ad x=b4 a8 x):j2 P ai ad H=j2 P ai a8 H:=by
 cases ai<;>simp only[j2,Op.operands]at h ⊢ <;>first
  |rfl
  |(simp at h;simp[h];done)
  |skip
 ·rename_i c;cases i:c.callee with
  |builtin b=>
   simp only[Call.operands,i]at h ⊢;cases d:c.args.toList with
   |nil=>cases b<;>rfl
   |cons s r=>
    cases r with
    |nil=>
     have a:s∈c.args.toList:=by simp[d]
     cases b<;>first
      |rfl
      |(simp only;rw[h s (by simpa using a)])
    |cons x r=>
     cases r with
     |nil=>
      have a:s∈c.args.toList:=by simp[d]
      have e:x∈c.args.toList:=by simp[d]
      cases b<;>first
       |rfl
       |(simp only;rw[h s (by simpa using a),h x (by simpa using e)])
     |cons y r=>cases b<;>rfl
  |value f=>rfl
  |invoke r m=>rfl
def Fo{c:Call}{H:ae}(h:∀x∈c.operands,b4 ad x=b4 a8 x):kH P H ad c=kH P H a8 c:=by
 unfold kH;cases d:c.callee with
 |builtin b=>rfl
 |value f=>
  simp only[Call.operands,d]at h ⊢;rw[h f (by simp),mr λx a=>h x (by simp at a ⊢;exact .inr a)]
 |invoke r m=>
  simp only[Call.operands,d]at h ⊢;rw[h r (by simp),mr λx a=>h x (by simp at a ⊢;exact .inr a)]
def kF.congr{call:ay}{ai:Op}{H:ae}{k:K}(h:∀x∈ai.operands,b4 ad x=b4 a8 x)(a:kF P call ai ad H k):kF P call ai a8 H k:=by
 cases k with
 |skip=>exact a
 |pure v=>exact(F4 h).symm.trans a
 |read v=>exact(xe h).symm.trans a
 |new v b=>exact(FO h).symm.trans a
 |dL v H'=>
  obtain⟨e,d|⟨c,g,j,rfl,d,i⟩⟩:=a
  ·exact⟨e,.inl ((Ge h).symm.trans d)⟩
  ·exact⟨e,.inr ⟨c,g,j,rfl,(Fo h).symm.trans d,i⟩⟩
end congr
def lq(P:Program)(m:Sem Next)(w:World)(next:Value->World->Prop):Prop:=
 match m.run P w with
 | .ok (.value x) a=>next x a
 | .ok (.enter f args) a=>Calls P f args a λ
  | .returned x,c=>next x c
  |_,_=>False
 |_=>False
def ih(E:Env)(P:Program)(g:Nat)(args:List aa)(H:ae)(v:aa)(H':ae):Prop:=∀(ρ:Env) (w:World) (xs:List Value),Rel ρ H w->hB E ρ H.next H'.next->bq ρ args xs->H.next<=H'.next->∀next:Value->World->Prop,(∀x a c,bd c v x->Step ρ H w c H' a->next x a)->lq P (callFunc g xs.toArray) w next
def iN(E:Env)(P:Program)(call:ay):Prop:=∀g args H v H',call g args H=D (v,H')->ih E P g args H v H'
section
variable {E:Env}{P:Program}{call:ay}{ρ:Env}{H H':ae}{w:World}{ad:a_}{a:Act}{ai:Oper}{v:aa}{jU:Act->World->Prop}{Q:Exit->Act->World->Prop}
def Cm(h:iq P ai.op ad=D v)(i:dC ρ ad a)(e:∀x,bd ρ v x->jU (a.put ai.dst x) w):ai.wp P a w jU Q:=by
 obtain⟨x,c,d⟩:=F5 h i w;unfold Oper.wp;rw[c];exact e x d
def CG(e:Rel ρ H w)(h:gB P ai.op ad H=D v)(j:dC ρ ad a)(i:∀x,bd ρ v x->jU (a.put ai.dst x) w):ai.wp P a w jU Q:=by
 obtain⟨x,c,d⟩:=F6 e h j;unfold Oper.wp;rw[c];exact i x d
def BT{l:Nat}{b:bO}(h:iS P ai.op ad l=D (v,b))(F:dC ρ ad a)(B:ρ l=Z)
  (E:∀x c d loc,bd d v x->ρ.le d->(∀k,k≠l->d k=ρ k)->d l=D loc->w.heap.size<=loc.block->b.jC=X->ig d c loc b->
   c.os=w.os->c.tape=w.tape->c.output=w.output->w.heap.size<=c.heap.size->(∀k,k<w.heap.size->c.heap[k]? =w.heap[k]?)->jU (a.put ai.dst x) c):ai.wp P a w jU Q:=by
 obtain⟨x,c,d,loc,e,o,p,q,s,u,y,z,A,i,j,m,n⟩:=FP h F B w;unfold Oper.wp;rw[e];exact E x c d loc o p q s u y z A i j m n
def yf(T:iN E P call)(q:Rel ρ H w)(G:hB E ρ H.next H'.next)(h:kF P call ai.op ad H (.dL v H'))(o:dC ρ ad a)
  (s:∀x i k,bd k v x->Step ρ H w k H' i->jU (a.put ai.dst x) i):ai.wp P a w jU Q:=by
 obtain⟨V,A|⟨c,g,aj,S,d,R⟩⟩:=h
 ·obtain⟨n,x,i,k,W,l,N,O⟩:=Gf q A (G.new _ (bk _)) o;unfold Oper.wp;rw[W];unfold wF at l;split at l
  ·subst l;exact s _ i k N O
  ·subst l;exact s _ i k N O
  ·exact l.elim
 ·unfold kH at d;split at d
  ·rename_i f F;split at d
   ·rename_i gE first captured ab
    split at d
    ·rename_i ag L;simp only[aU,bY]at d;obtain⟨rfl,rfl⟩:=d;have p:=dh o ab;have B:=mu o L;generalize he:a.eval f=z at p;cases p with|func _ _ _ iy c' aZ M=>
     have j:=T _ _ _ _ _ R ρ w _ q G ((aZ.append B).append M) V (λx i=>jU (a.put ai.dst x) i) (λx i k=>s x i k);have K:(execOp a.eval ai).run P w=(callFunc gE ((iy++c.args.toList.map a.eval++c').toArray)).run P w:=by
      unfold execOp;rw[S];simp only[resolve,F,he,Deferred.ofValue,pure_bind,invoke]
      congr 2
      rw[map_toArray a.eval];simp
     unfold Oper.wp;rw[K];unfold lq at j;split at j
     ·rename_i e;rw[e];exact j
     ·rename_i e;rw[e];refine Calls.mono j λy ah m=> ?_
      cases y<;>first|exact m|exact m.elim
     ·exact j.elim
    ·cases d
   ·cases d
  ·rename_i bD name F;split at d
   ·rename_i v0 ae;split at d
    ·rename_i gE u ag hm L;simp only[aU,bY]at d;obtain⟨rfl,rfl⟩:=d;have p:=dh o ae;have B:=mu o L;obtain⟨af,aZ,M⟩:=FK q hm p (c.args.toList.map a.eval).toArray;have j:=T _ _ _ _ _ R ρ w _ q G (.cons _ _ _ _ aZ B) V (λx i=>jU (a.put ai.dst x) i) (λx i k=>s x i k);have K:(execOp a.eval ai).run P w=(callFunc gE ((af::c.args.toList.map a.eval).toArray)).run P w:=by
      unfold execOp;rw[S];simp only[resolve,F,pure_bind,invoke];rw[map_toArray a.eval];have aa:(#[a.eval bD]++(c.args.toList.map a.eval).toArray)[0]? =D (a.eval bD):=by simp
      have A:(#[a.eval bD]++(c.args.toList.map a.eval).toArray).extract 1 (#[a.eval bD]++(c.args.toList.map a.eval).toArray).size=(c.args.toList.map a.eval).toArray:=by
       apply Array.ext';simp;exact List.take_of_length_le (by simp)
      rw[aa,A];simp only
      rw[M];simp
     unfold Oper.wp;rw[K];unfold lq at j;split at j
     ·rename_i e;rw[e];exact j
     ·rename_i e;rw[e];refine Calls.mono j λy ah m=> ?_
      cases y<;>first|exact m|exact m.elim
     ·exact j.elim
    ·cases d
   ·cases d
  ·cases d
end
def jx(acc:List Nat):List Edge->Nat
 |[]=>0
 |e::es=>if Region.binds .any e then 2^e.on|||(acc[e.on]?.getD 0|||jx acc es)else jx acc es
def kQ:List Oper->List Nat->List Nat
 |[],acc=>acc
 |ai::os,acc=>kQ os (acc++[jx acc ai.after.toList])
def dv(ops:Array Oper):List Nat:=kQ ops.toList []
def c8(ms:List Nat)(j i:Nat):Bool:=(ms[i]?.getD 0).testBit j
def BL:∀(os pre:List Oper) (acc:List Nat),acc.length=pre.length->(∀i ai,pre[i]? =D ai->acc[i]? =D (jx (acc.take i) ai.after.toList))->
  ∀i ai,(pre++os)[i]? =D ai->(kQ os acc)[i]? =D (jx ((kQ os acc).take i) ai.after.toList)
 |[],pre,acc,c,h,i,ai,d=>by simpa [kQ]using h i ai (by simpa using d)
 |p::os,pre,acc,c,h,i,ai,d=>by
  unfold kQ;refine BL os (pre++[p]) _ (by simp[c]) (λj q a=> ?_) i ai (by simpa using d);rcases Nat.lt_or_ge j pre.length with k|e
  ·rw[List.getElem?_append_left k]at a;rw[List.getElem?_append_left af,h j q a,List.take_append_of_le_length af]
  ·rw[List.getElem?_append_right e]at a;have:j=pre.length:=by
    have:=(List.getElem?_eq_some_iff.1 a).1;simp at this;omega
   subst this;simp at a;subst a;rw[List.getElem?_append_right af,<-c];simp
def BM{ops:Array Oper}{i:Nat}{ai:Oper}(h:ops[i]? =D ai):(dv ops)[i]? =D (jx ((dv ops).take i) ai.after.toList):=
 BL ops.toList [] [] rfl (by simp) i ai (by simpa using h)
def tW{acc:List Nat}{e:Edge}:∀{es:List Edge},e∈es->Region.binds .any e=X->(jx acc es).testBit e.on=X
 |[],h,_=>by simp at h
 |d::es,h,a=>by
  unfold jx;rcases List.mem_cons.1 h with rfl|h
  ·rw[if_pos a];simp[Nat.testBit_two_pow_self]
  ·split
   ·simp[tW h a]
   ·exact tW h a
def tV{acc:List Nat}{j:Nat}:∀{es:List Edge},(jx acc es).testBit j=X->∃e∈es,Region.binds .any e=X/\(j=e.on\/(acc[e.on]?.getD 0).testBit j=X)
 |[],h=>by simp[jx]at h
 |d::es,h=>by
  unfold jx at h;split at h
  ·rename_i k;simp only[Nat.testBit_or,Bool.or_eq_true]at h;rcases h with h|h|h
   ·refine⟨d,by simp,k,.inl ?_⟩;rw[Nat.testBit_two_pow]at h;simpa using(of_decide_eq_true h).symm
   ·exact⟨d,by simp,k,.inr h⟩
   ·obtain⟨e,a,c,i⟩:=tV h;exact⟨e,by simp[a],c,i⟩
  ·obtain⟨e,a,c,i⟩:=tV h;exact⟨e,by simp[a],c,i⟩
def nU(L:Nat->Bool)(ai:Oper):Prop:=∀e∈ai.after,Region.binds .any e=X->L e.on=X
def pt(ops:Array Oper)(L:Nat->Bool):Prop:=∀i ai,ops[i]? =D ai->L i=X->nU L ai
def j3{ops:Array Oper}{L:Nat->Bool}(p:pt ops L):∀(i:Nat) (ai:Oper),ops[i]? =D ai->nU L ai->∀j,c8 (dv ops) j i=X->L j=true:=by
 intro i
 induction i using Nat.strongRecOn with
 |_ i h=>
  intro ai q hw j c;unfold c8 at c;rw[BM q]at c;simp only[Option.getD_some]at c;obtain⟨e,n,o,a⟩:=tV c;have k:=hw e (by simpa using n) o;rcases a with rfl|a
  ·exact k
  ·rcases Nat.lt_or_ge e.on i with l|w
   ·rw[List.getElem?_take_of_lt l]at a;cases d:ops[e.on]? with
    |none=>
     cases hm:(dv ops)[e.on]? with
     |none=>rw[hm]at a;simp at a
     |some m=>
      exfalso;have hlen:∀(os:List Oper) (acc:List Nat),(kQ os acc).length=acc.length+os.length:=by
       intro os
       induction os with
       |nil=>intro acc;simp[kQ]
       |cons ai os h=>intro acc;simp[kQ,h];omega
      have s:=(List.getElem?_eq_some_iff.1 hm).1;have u:(dv ops).length=ops.size:=by unfold dv;rw[hlen];simp
      have v:ops.size<=e.on:=by simpa using d
      omega
    |some ox=>exact h e.on l ox d (p _ _ d k) j a
   ·rw[List.getElem?_eq_none (by simp;omega)]at a;simp at a
def Gl{ops:Array Oper}{i:Nat}{ai:Oper}(c:ops[i]? =D ai){e:Edge}(he:e∈ai.after)(a:Region.binds .any e=X):c8 (dv ops) e.on i=true:=by
 unfold c8;rw[BM c];exact tW (by simpa using he) a
def j1(ops:Array Oper)(ad:a_)(ai:Oper):Bool:=
 match ai.guard with
 |none=>X
 |some (j,want)=>match ops[j]? with
  |some q=>(match q.dst with
   |some d=>(match ad.get d with
    | .bool b=>b==want
    |_=>U)
   |none=>U)
  |none=>U
def xn{ρ:Env}{ops:Array Oper}{ad:a_}{a:Act}(i:dC ρ ad a)(ai:Oper):Region.wanted ai (yielded ops a.tmps)=j1 ops ad ai:=by
 unfold Region.wanted j1;cases l:ai.guard with
 |none=>rfl
 |some p=>
  obtain⟨j,want⟩:=p;simp only
  unfold yielded;cases m:ops[j]? with
  |none=>simp
  |some q=>
   cases e:q.dst with
   |none=>simp[e]
   |some d=>
    simp only[Option.bind_some,e];have c:=i.get d;rw[Array.getD_eq_getD_getElem?]at c;cases h:a.tmps[d]? with
    |none=>
     rw[h]at c;simp only[Option.getD_none]at c;generalize k:ad.get d=v at c;cases v<;>first|rfl|(exfalso;cases c)
    |some x=>
     rw[h]at c;simp only[Option.getD_some]at c;generalize k:ad.get d=v at c;cases c<;>first|rfl|(simp;done)
def Gd{ops:Array Oper}{ad a8:a_}{ai:Oper}(h:∀d∈ai.looksAt ops,ad.get d=a8.get d):j1 ops ad ai=j1 ops a8 ai:=by
 unfold j1;cases c:ai.guard with
 |none=>rfl
 |some p=>
  obtain⟨j,want⟩:=p;simp only
  cases e:ops[j]? with
  |none=>rfl
  |some q=>
   cases a:q.dst with
   |none=>simp[a]
   |some d=>
    simp only[a];rw[h d (by simp[Oper.looksAt,c,e,a])]
def Gc{ops:Array Oper}{ad a8:a_}{ai:Oper}(h:∀d∈ai.looksAt ops,ad.get d=a8.get d):∀x∈ai.op.operands,b4 ad x=b4 a8 x:=by
 intro x a;cases x with
 |tmp t=>
  simp only[b4];rw[h t ?_];unfold Oper.looksAt;refine List.mem_append.2 (.inl ?_);rw[List.mem_filterMap];exact⟨.tmp t,by simpa using a,rfl⟩
 |const v=>rfl
 |global g=>rfl
 |func f=>rfl
structure bF where
 i:Nat
 ai:Oper
 ad:a_
 k:K
def gU(P:Program)(call:ay)(ops:Array Oper)(ai:Oper)(ad:a_)(H:ae):Option K:=
 match j1 ops ad ai with
 |true=>step1 P call ai.op ad H
 |false=>D .skip
def canRun(P:Program)(call:ay)(ops:Array Oper):List Nat->a_->ae->Option (List bF×a_×ae)
 |[],ad,H=>D ([],ad,H)
 |i::is,ad,H=>match ops[i]? with
  |none=>Z
  |some ai=>match gU P call ops ai ad H with
   |none=>Z
   |some k=>match ad.put ai.dst k.val with
    |none=>Z
    |some a8=>match canRun P call ops is a8 (k.heap H)with
     |none=>Z
     |some (T,cv,bJ)=>D (⟨i,ai,ad,k⟩::T,cv,bJ)
def cb:List bF->ae->ae
 |[],H=>H
 |t::ts,H=>cb ts (t.k.heap H)
def jz(A B:List bF)(H:ae):cb (A++B) H=cb B (cb A H):=by
 induction A generalizing H with
 |nil=>rfl
 |cons t A a=>simp[cb,a]
def fm(L:Nat->Bool)(d:Nat):List bF->aa->aa
 |[],v=>v
 |t::ts,v=>fm L d ts (if L t.i=X/\t.ai.dst=D d then t.k.val else v)
def vx(L:Nat->Bool)(d:Nat)(A B:List bF)(v:aa):fm L d (A++B) v=fm L d B (fm L d A v):=by
 induction A generalizing v with
 |nil=>rfl
 |cons t A a=>simp[fm,a]
def qE{L L':Nat->Bool}{d:Nat}:∀{A:List bF} {v:aa},(∀t∈A,t.ai.dst=D d->L t.i=L' t.i)->fm L d A v=fm L' d A v
 |[],_,_=>rfl
 |t::A,v,h=>by
  simp only[fm];have:(L t.i=X/\t.ai.dst=D d)↔(L' t.i=X/\t.ai.dst=D d):=by
   constructor
   ·rintro⟨c,a⟩;exact⟨by rw[<-h t (by simp) a];exact c,a⟩
   ·rintro⟨c,a⟩;exact⟨by rw[h t (by simp) a];exact c,a⟩
  simp only[this];exact qE λu hu=>h u (by simp[hu])
def sa{L:Nat->Bool}{d:Nat}:∀{A:List bF} {v:aa},(∀t∈A,t.ai.dst=D d->L t.i=U)->fm L d A v=v
 |[],_,_=>rfl
 |t::A,v,h=>by
  simp only[fm];rw[if_neg (by rintro⟨a,c⟩;rw[h t (by simp) c]at a;cases a)];exact sa λu hu=>h u (by simp[hu])
def j4{P:Program}{call:ay}{ops:Array Oper}:∀{is:List Nat} {ad:a_} {H:ae} {T:List bF} {cv:a_} {bJ:ae},canRun P call ops is ad H=D (T,cv,bJ)->
  T.map (·.i)=is/\bJ=cb T H/\cv.size=ad.size/\∀d,cv.get d=fm (λ_=>X) d T (ad.get d)
 |[],ad,H,T,cv,bJ,h=>by
  simp only[canRun,aU,bY]at h;obtain⟨rfl,rfl,rfl⟩:=h;exact⟨rfl,rfl,rfl,λ_=>rfl⟩
 |i::is,ad,H,T,cv,bJ,h=>by
  simp only[canRun]at h;split at h
  ·cases h
  ·rename_i ai q;split at h
   ·cases h
   ·rename_i k p;split at h
    ·cases h
    ·rename_i a8 a;split at h
     ·cases h
     ·rename_i o n m ba;simp only[aU,bY]at h;obtain⟨rfl,rfl,rfl⟩:=h;obtain⟨c,e,j,l⟩:=j4 ba;refine⟨by simp[c],e,by rw[j,a_.o8 a],λd=> ?_⟩;rw[l d,a_.p1 a d];simp[fm]
def tO{P:Program}{call:ay}{ops:Array Oper}:∀{A:List bF} {is:List Nat} {ad:a_} {H:ae} {t:bF} {B:List bF} {cv:a_} {bJ:ae},canRun P call ops is ad H=D (A++t::B,cv,bJ)->
  ops[t.i]? =D t.ai/\(∀d,t.ad.get d=fm (λ_=>X) d A (ad.get d))/\gU P call ops t.ai t.ad (cb A H)=D t.k/\(∀d,t.ai.dst=D d->d<ad.size)
 |A,[],ad,H,t,B,cv,bJ,h=>by
  simp only[canRun,aU,bY]at h;have:=h.1;simp at this
 |A,i::is,ad,H,t,B,cv,bJ,h=>by
  simp only[canRun]at h;split at h
  ·cases h
  ·rename_i ai p;split at h
   ·cases h
   ·rename_i k o;split at h
    ·cases h
    ·rename_i a8 c;split at h
     ·cases h
     ·rename_i v s q ba;simp only[aU,bY]at h;obtain⟨a,rfl,rfl⟩:=h;cases A with
      |nil=>
       simp only[List.nil_append,List.cons.injEq]at a;obtain⟨rfl,rfl⟩:=a;refine⟨p,λ_=>rfl,o,λd e=> ?_⟩;simp only at e;rw[e]at c;exact a_.Cp c
      |cons u A=>
       simp only[List.cons_append,List.cons.injEq]at a;obtain⟨rfl,rfl⟩:=a;obtain⟨j,l,m,n⟩:=tO ba;refine⟨j,λd=> ?_,m,λd e=>by rw[<-a_.o8 c];exact n d e⟩;rw[l d,a_.p1 c d];simp[fm]
def ed:ae->List bF->Prop
 |_,[]=>True
 |H,t::ts=>H.next<=(t.k.heap H).next/\ed (t.k.heap H) ts
def ed.append:∀{A B:List bF} {H:ae},ed H (A++B)->ed H A/\ed (cb A H) B
 |[],_,_,h=>⟨trivial,h⟩
 |_::A,_,_,h=>by
  obtain⟨a,c⟩:=h;obtain⟨d,e⟩:=ed.append (A:=A) c;exact⟨⟨a,d⟩,e⟩
def ed.le:∀{A:List bF} {H:ae},ed H A->H.next<=(cb A H).next
 |[],_,_=>bk _
 |_::A,_,h=>Nat.le_trans h.1 (ed.le (A:=A) h.2)
def oh{P:Program}{call:ay}{ops:Array Oper}{ai:Oper}{ad:a_}{H:ae}{k:K}(h:gU P call ops ai ad H=D k):
  (j1 ops ad ai=X/\kF P call ai.op ad H k)\/(j1 ops ad ai=U/\k= .skip):=by
 unfold gU at h;split at h
 ·rename_i hw;exact .inl ⟨hw,Mp h⟩
 ·rename_i hw;simp only[aU]at h;exact .inr ⟨hw,h.symm⟩
def AT{P:Program}{call:ay}{ops:Array Oper}{ai:Oper}{ad:a_}{H:ae}{k:K}(h:gU P call ops ai ad H=D k)(a:k.eV=X):mF ai.op=true:=by
 unfold gU at h;split at h
 ·exact Mo h a
 ·simp only[aU]at h;subst h;cases a
def uI{P:Program}{call:ay}{ops:Array Oper}{ai:Oper}{ad:a_}{H:ae}{k:K}(h:gU P call ops ai ad H=D k):H.next<=(k.heap H).next:=by
 rcases oh h with⟨_,h⟩|⟨_,rfl⟩
 ·cases k with
  |dL v H'=>exact h.1
  |new v b=>simp[K.heap]
  |_=>exact bk _
 ·exact bk _
def pM{P:Program}{call:ay}{ops:Array Oper}:∀{is:List Nat} {ad:a_} {H:ae} {T:List bF} {cv:a_} {bJ:ae},canRun P call ops is ad H=D (T,cv,bJ)->ed H T
 |[],ad,H,T,cv,bJ,h=>by
  simp only[canRun,aU,bY]at h;obtain⟨rfl,rfl,rfl⟩:=h;trivial
 |i::is,ad,H,T,cv,bJ,h=>by
  simp only[canRun]at h;split at h
  ·cases h
  ·rename_i ai j;split at h
   ·cases h
   ·rename_i k a;split at h
    ·cases h
    ·split at h
     ·cases h
     ·rename_i e d c ba;simp only[aU,bY]at h;obtain⟨rfl,rfl,rfl⟩:=h;exact⟨uI a,pM ba⟩
def dM(L:Nat->Bool):List bF->ae->Nat->Option bO
 |[],_,_=>Z
 |t::ts,H,l=>match t.k with
  | .new _ b=>if l=H.next then(if L t.i=X then D b else Z)else dM L ts (H.push b) l
  |k=>dM L ts (k.heap H) l
def qy{L:Nat->Bool}:∀{T:List bF} {H:ae} {l:Nat} {b:bO},ed H T->dM L T H l=D b->H.next<=l
 |[],_,_,_,_,h=>by cases h
 |t::ts,H,l,b,hm,h=>by
  unfold dM at h;split at h
  ·rename_i v cx a;split at h
   ·omega
   ·have:=qy (by have:=hm.2;rwa[a]at this) h;simp at this;omega
  ·have c:=hm.1;have:=qy hm.2 h;omega
def qx{L L':Nat->Bool}:∀{T:List bF} {H:ae},(∀t∈T,∀v b,t.k= .new v b->L t.i=L' t.i)->dM L T H=dM L' T H
 |[],_,_=>rfl
 |t::ts,H,h=>by
  funext l
  unfold dM;split
  ·rename_i v b a;rw[h t (by simp) v b a,qx (T:=ts) (λu hu=>h u (by simp[hu]))]
  ·rw[qx (T:=ts) (λu hu=>h u (by simp[hu]))]
def qz{L:Nat->Bool}{t:bF}{ts:List bF}{H:ae}(h:∀v b,t.k≠ .new v b):dM L (t::ts) H=dM L ts (t.k.heap H):=by
 funext l
 show(match t.k with
  | .new _ b=>if l=H.next then(if L t.i=X then D b else Z)else dM L ts (H.push b) l
  |k=>dM L ts (k.heap H) l)=_
 split
 ·rename_i v b a;exact absurd a (h v b)
 ·rfl
def Cg{L L':Nat->Bool}{t:bF}{v:aa}{b:bO}(o:t.k= .new v b)(n:L t.i=U)(q:L' t.i=X):∀{zC zD:List bF} {H:ae},ed H (zC++t::zD)->
  (∀u∈zC,L u.i=L' u.i)->(∀u∈zD,L u.i=L' u.i)->
  dM L' (zC++t::zD) H=(λk=>if k=(cb zC H).next then D b else dM L (zC++t::zD) H k)/\dM L (zC++t::zD) H (cb zC H).next=Z
 |[],zD,H,hm,l,m=>by
  constructor
  ·funext k
   simp only[List.nil_append,cb,dM,o,n,q,if_true,Bool.false_eq_true,if_false];rw[qx (T:=zD) λu hu _ _ _=>m u hu];split<;>rfl
  ·simp[dM,o,n,cb]
 |c::zC,zD,H,hm,l,m=>by
  obtain⟨y,p⟩:=hm;obtain⟨d,e⟩:=Cg o n q (zC:=zC) (zD:=zD) p (λu hu=>l u (by simp[hu])) m;by_cases a:∃x cx,c.k= .new x cx
  ·obtain⟨x,cx,a⟩:=a;have hle:(c.k.heap H).next<=(cb zC (c.k.heap H)).next:=(ed.append p).1.le
   rw[a]at d e hle;simp only[K.heap,ae.bT]at hle d e;constructor
   ·funext k
    simp only[List.cons_append,dM,a,cb,K.heap];rw[<-l c (by simp),d];by_cases s:k=H.next
    ·subst s;simp only[if_true];by_cases j:H.next=(cb zC (H.push cx)).next
     ·omega
     ·simp only[j,if_false]
    ·simp only[s,if_false];by_cases j:k=(cb zC (H.push cx)).next
     ·simp only[j,if_true]
     ·simp only[j,if_false]
   ·simp only[List.cons_append,dM,a,cb,K.heap];rw[if_neg af];exact e
  ·have w:∀v b,c.k≠ .new v b:=λv b h=>a ⟨v,b,h⟩
   rw[List.cons_append,qz w,qz w,cb];exact⟨d,e⟩
section
mutual
def aa.beq:aa->aa->Bool
 | .bool a,.bool b=>a==b
 | .int k n,.int o m=>decide (k=o)&&decide (n=m)
 | .str s,.str t=>decide (s=t)
 | .ptr l i c,.ptr l' d c'=>decide (l=l')&&decide (i=d)&&decide (c=c')
 | .nilPtr,.nilPtr=>X
 | .aA l i n e c,.aA l' d p j c'=>decide (l=l')&&decide (i=d)&&decide (n=p)&&decide (e=j)&&decide (c=c')
 | .ar,.ar=>X
 | .map l,.map l'=>decide (l=l')
 | .ho,.ho=>X
 | .nilFunc,.nilFunc=>X
 | .iface t v,.iface q u=>decide (t=q)&&aa.beq v u
 | .nilIface,.nilIface=>X
 | .agg xs,.agg h=>fX.beq xs h
 | .tuple xs,.tuple h=>fX.beq xs h
 |_,_=>U
def fX.beq:List aa->List aa->Bool
  |[],[]=>X
  |x::xs,y::a=>aa.beq x y&&fX.beq xs a
  |_,_=>U
 end
mutual
def aa.beq_eq:∀{a b:aa},aa.beq a b=X->a=b:=by
 intro a b h;cases a<;>cases b<;>simp only[aa.beq]at h<;>first
  |(cases h;done)
  |rfl
  |(simp at h;simp[h];done)
  |skip
 ·simp only[Bool.and_eq_true,decide_eq_true_eq]at h;obtain⟨rfl,h⟩:=h;rw[aa.beq_eq h]
 ·rw[fX.beq_eq h]
 ·rw[fX.beq_eq h]
def fX.beq_eq:∀{a b:List aa},fX.beq a b=X->a=b:=by
  intro a b h;cases a with
  |nil=>cases b with
   |nil=>rfl
   |cons y c=>simp[fX.beq]at h
  |cons x xs=>cases b with
   |nil=>simp[fX.beq]at h
   |cons y c=>
    simp only[fX.beq,Bool.and_eq_true]at h;rw[aa.beq_eq h.1,fX.beq_eq h.2]
 end
def qw(ops:Array Oper)(ms:List Nat)(i j:Nat):Bool:=
 match ops[i]?,ops[j]? with
 |some ai,D q=>(i != j)&&(!c8 ms j i)&&(c8 ms i j||ai.apart ops q)
 |_,_=>U
def r4(ops:Array Oper)(ms:List Nat):List Nat->Bool
 |[]=>X
 |i::is=>is.all (qw ops ms i)&&r4 ops ms is
def Cb{ops:Array Oper}{ms:List Nat}:∀{is:List Nat},r4 ops ms is=X->is.Pairwise λi j=>qw ops ms i j=X
 |[],_=> .nil
 |i::is,h=>by
  simp only[r4,Bool.and_eq_true,List.all_eq_true]at h;exact .cons h.1 (Cb h.2)
def yd(n:Nat)(ai:Oper):Bool:=ai.after.toList.all λe=> !Region.binds .any e||decide (e.on<n)
def oD(ops:Array Oper)(ms ord:List Nat):Bool:=(List.range ops.size).all (λi=>ord.contains i)&&(ord.all (λi=> !c8 ms i i)&&(ops.toList.all (yd ops.size)&&r4 ops ms ord))
def iw(ms:List Nat):List bF->List Nat->Bool
 |[],_=>X
 |t::ts,ids=>match t.k with
  | .dL _ _=>ids.all (λj=>c8 ms j t.i)&&iw ms ts (t.i::ids)
  | .new _ _=>iw ms ts (t.i::ids)
  |_=>iw ms ts ids
def rq{ms:List Nat}:∀{A:List bF} {t:bF} {B:List bF} {ids:List Nat} {v:aa} {H:ae},iw ms (A++t::B) ids=X->t.k= .dL v H->
  (∀j∈ids,c8 ms j t.i=X)/\∀u∈A,u.k.eV=X->c8 ms u.i t.i=X
 |[],t,B,ids,v,H,h,l=>by
  simp only[List.nil_append,iw,l,Bool.and_eq_true,List.all_eq_true]at h;exact⟨h.1,λu hu=>by simp at hu⟩
 |c::A,t,B,ids,v,H,h,l=>by
  simp only[List.cons_append,iw]at h;split at h
  ·simp only[Bool.and_eq_true]at h;obtain⟨a,e⟩:=rq h.2 l;refine⟨λj m=>a j (by simp[m]),λu hu d=> ?_⟩;rcases List.mem_cons.1 hu with rfl|hu
   ·exact a _ (by simp)
   ·exact e u hu d
  ·obtain⟨a,e⟩:=rq h l;refine⟨λj m=>a j (by simp[m]),λu hu d=> ?_⟩;rcases List.mem_cons.1 hu with rfl|hu
   ·exact a _ (by simp)
   ·exact e u hu d
  ·rename_i o p;obtain⟨a,e⟩:=rq h l;refine⟨a,λu hu d=> ?_⟩;rcases List.mem_cons.1 hu with rfl|hu
   ·exfalso;cases n:u.k with
    |new v b=>exact p v b n
    |dL v H=>exact o v H n
    |_=>rw[n]at d;cases d
   ·exact e u hu d
def jm(ms:List Nat)(rd:ae->Bool)(i:Nat):List bF->ae->Bool
 |[],H=>rd H
 |t::ts,H=>if t.k.eV then(c8 ms t.i i||rd H)&&(c8 ms i t.i||jm ms rd i ts (t.k.heap H))else jm ms rd i ts H
def rD{k:K}(h:k.eV=U)(H:ae):k.heap H=H:=by
 cases k<;>first|rfl|cases h
def wA{ms:List Nat}{rd:ae->Bool}{i:Nat}:∀{A B:List bF} {H:ae},jm ms rd i (A++B) H=X->(∀u∈A,u.k.eV=X->c8 ms i u.i=U)->
  (∀u e,B=u::e->u.k.eV=X/\c8 ms u.i i=U)->rd (cb A H)=X
 |[],[],H,h,_,_=>h
 |[],u::B,H,h,_,a=>by
  obtain⟨j,l⟩:=a u B rfl;simp only[List.nil_append,jm,j,if_true,Bool.and_eq_true,Bool.or_eq_true,l]at h;simpa [cb]using h.1
 |t::A,B,H,h,c,a=>by
  simp only[List.cons_append,jm]at h;split at h
  ·rename_i d;simp only[Bool.and_eq_true,Bool.or_eq_true,c t (by simp) d]at h;rw[cb];exact wA (h.2.resolve_left (by simp)) (λu hu=>c u (by simp[hu])) a
  ·rename_i d;rw[cb,rD (by simpa using d)];exact wA h (λu hu=>c u (by simp[hu])) a
def mT(P:Program)(ai:Op)(ad:a_)(v:aa)(H:ae):Bool:=
 match gB P ai ad H with
 |some u=>aa.beq u v
 |none=>U
def CF{P:Program}{ai:Op}{ad:a_}{v:aa}{H:ae}(h:mT P ai ad v H=X):gB P ai ad H=D v:=by
 unfold mT at h;split at h
 ·rename_i u hu;rw[hu,aa.beq_eq h]
 ·cases h
def ae.only(H:ae):ae:=match H.get (H.next-1)with
 |some b=>⟨bn.put b H.next .leaf (H.next-1),H.next⟩
 |none=>⟨.leaf,H.next⟩
def ae.qo{H:ae}{b:bO}{l:Nat}{x:bO}(h:(H.push b).only.get l=D x):l=H.next/\x=b:=by
 have e:(H.push b).get ((H.push b).next-1)=D b:=ae.bC H b;unfold ae.only at h;rw[e]at h;simp only[ae.get,ae.bT,Nat.add_sub_cancel]at h;split at h
 ·by_cases a:H.next=l
  ·subst a;rw[bn.p3 _ _ _ _ af]at h;exact⟨rfl,by simpa using h.symm⟩
  ·rw[bn.p2 _ _ _ _ _ a]at h;rw[bn.pZ]at h;cases h
 ·cases h
def lK(k:K):Bool:=match k with
 | .dL _ _=>U
 |_=>X
def mw(ms:List Nat)(i:Nat):List bF->Bool->Bool
 |[],_=>U
 |t::ts,s=>match t.k with
  | .new _ _=>(s&&c8 ms t.i i&&ts.all λu=>lK u.k)||mw ms i ts (s|| !c8 ms t.i i)
  | .dL _ _=>mw ms i ts (s|| !c8 ms t.i i)
  |_=>mw ms i ts s
def jF(ms:List Nat)(rd:ae->Bool)(i:Nat):List bF->ae->Bool->Bool
 |[],_,_=>U
 |t::ts,H,s=>match t.k with
  | .new _ b=>bif s&&c8 ms t.i i&&ts.all (λu=>lK u.k)then rd (H.push b).only||jF ms rd i ts (H.push b) (s|| !c8 ms t.i i)else jF ms rd i ts (H.push b) (s|| !c8 ms t.i i)
  | .dL _ H'=>jF ms rd i ts H' (s|| !c8 ms t.i i)
  |_=>jF ms rd i ts H s
def BS{ms:List Nat}{rd:ae->Bool}{i:Nat}:∀{T:List bF} {H:ae} {s:Bool},jF ms rd i T H s=X->
  ∃A u B v b,T=A++u::B/\u.k= .new v b/\c8 ms u.i i=X/\(∀x∈B,lK x.k=X)/\rd ((cb A H).push b).only=X
 |[],H,s,h=>by cases h
 |t::ts,H,s,h=>by
  have d:∀{H':ae} {s':Bool},t.k.heap H=H'->jF ms rd i ts H' s'=X->∃A u B v b,t::ts=A++u::B/\u.k= .new v b/\c8 ms u.i i=X/\(∀x∈B,lK x.k=X)/\rd ((cb A H).push b).only=true:=by
   intro H' s' e ba;obtain⟨A,u,B,v,b,l,m,n,o,p⟩:=BS ba;exact⟨t::A,u,B,v,b,by rw[l];rfl,m,n,o,by rw[cb,e];exact p⟩
  unfold jF at h;split at h
  ·rename_i v b a;have j:t.k.heap H=H.push b:=by rw[a];rfl
   cases c:(s&&c8 ms t.i i&&ts.all λu=>lK u.k)with
   |true=>
    rw[c,aY,Bool.or_eq_true]at h;simp only[Bool.and_eq_true,List.all_eq_true]at c;rcases h with h|h
    ·exact⟨[],t,ts,v,b,rfl,a,c.1.2,c.2,h⟩
    ·exact d j h
   |false=>rw[c,aT]at h;exact d j h
  ·rename_i v H' a;exact d (by rw[a];rfl) h
  ·rename_i q w;refine d (rD ?_ H) h;cases a:t.k with
   |new v b=>exact absurd a (q v b)
   |dL v H'=>exact absurd a (w v H')
   |_=>rfl
def o6(ms:List Nat)(rd:ae->Bool)(i:Nat)(T:List bF)(H:ae):Bool:=bif mw ms i T U then jm ms rd i T H||jF ms rd i T H U else jm ms rd i T H
def L4{ms:List Nat}{rd:ae->Bool}{i:Nat}{T:List bF}{H:ae}(h:o6 ms rd i T H=X):jm ms rd i T H=X\/jF ms rd i T H U=true:=by
 unfold o6 at h;cases a:mw ms i T U with
 |true=>rw[a,aY,Bool.or_eq_true]at h;exact h
 |false=>rw[a,aT]at h;exact .inl h
def kC(P:Program)(ms:List Nat)(a:Nat->Bool)(T:List bF)(H:ae):List bF->Bool
 |[]=>X
 |t::ts=>(match t.k with
  | .read v=>a t.i||o6 ms (mT P t.ai.op t.ad v) t.i T H
  |_=>X)&&kC P ms a T H ts
def EP{P:Program}{ms:List Nat}{a:Nat->Bool}{T:List bF}{H:ae}{t:bF}{v:aa}(c:t.k= .read v):∀{ts:List bF},kC P ms a T H ts=X->t∈ts->a t.i=X\/o6 ms (mT P t.ai.op t.ad v) t.i T H=X
 |[],_,hm=>by simp at hm
 |u::ts,h,hm=>by
  simp only[kC,Bool.and_eq_true]at h;rcases List.mem_cons.1 hm with rfl|hm
  ·have:=h.1;rw[c]at this;simpa using this
  ·exact EP c h.2 hm
section
variable {P:Program}{call:ay}{ops:Array Oper}{ord:List Nat}{dZ cv:a_}{H0 bJ:ae}{T:List bF}{ρ0:Env}{w0:World}{Q:Exit->Act->World->Prop}
def cZ(listed:Array Bool)(i:Nat):Bool:=listed.getD i U
def B_{i j:Nat}{ai q:Oper}(a:ops[i]? =D ai)(c:ops[j]? =D q)(h:qw ops (dv ops) i j=X):
  i≠j/\c8 (dv ops) j i=U/\(c8 (dv ops) i j=X\/ai.apart ops q=X):=by
 unfold qw at h;rw[a,c]at h;simp only[Bool.and_eq_true,bne_iff_ne,ne_eq,Bool.not_eq_true',Bool.or_eq_true]at h;exact⟨h.1.1,h.1.2,h.2⟩
def tied(ops:Array Oper)(ms ord:List Nat)(i:Nat):Bool:=
 ord.all λj=>(j==i)||(match ops[j]? with|some ai=> !mF ai.op|none=>X)||c8 ms j i||c8 ms i j
def My{ms ord:List Nat}{i j:Nat}{ai:Oper}(h:tied ops ms ord i=X)(c:j∈ord)(d:j≠i)(e:ops[j]? =D ai)(a:mF ai.op=X):c8 ms j i=X\/c8 ms i j=true:=by
 unfold tied at h;rw[List.all_eq_true]at h;have:=h j c;rw[e]at this;simpa [d,a]using this
structure Ctx(P:Program)(call:ay)(ops:Array Oper)(ord:List Nat)(dZ:a_)(H0:ae)(T:List bF)(cv:a_)(bJ:ae):Prop where
 aE:canRun P call ops ord dZ H0=some (T,cv,bJ)
 vp:oD ops (dv ops) ord=true
 dL:iw (dv ops) T []=true
 MV:kC P (dv ops) (tied ops (dv ops) ord) T H0 T=true
def Ctx.Ca(c:Ctx P call ops ord dZ H0 T cv bJ):T.Pairwise λt u=>qw ops (dv ops) t.i u.i=true:=by
 have h:=c.vp;simp only[oD,Bool.and_eq_true]at h;have a:=Cb h.2.2.2;rw[<-(j4 c.aE).1]at a;exact(List.pairwise_map.1 a)
def Ctx.at(c:Ctx P call ops ord dZ H0 T cv bJ){A B:List bF}{t:bF}(h:T=A++t::B):
  ops[t.i]? =D t.ai/\(∀d,t.ad.get d=fm (λ_=>X) d A (dZ.get d))/\gU P call ops t.ai t.ad (cb A H0)=D t.k/\(∀d,t.ai.dst=D d->d<dZ.size):=
 tO (by rw[<-h];exact c.aE)
def Ctx.mem(c:Ctx P call ops ord dZ H0 T cv bJ){t:bF}(h:t∈T):ops[t.i]? =D t.ai:=by
 obtain⟨A,B,h⟩:=List.append_of_mem h;exact(c.at h).1
def Ctx.before(c:Ctx P call ops ord dZ H0 T cv bJ){A B:List bF}{t:bF}(h:T=A++t::B){u:bF}(hu:u∈A):
  u.i≠t.i/\c8 (dv ops) t.i u.i=U/\(c8 (dv ops) u.i t.i=X\/u.ai.apart ops t.ai=X):=by
 have aG:=c.Ca;rw[h,List.pairwise_append]at aG;exact B_ (c.mem (by rw[h];simp[hu])) (c.mem (by rw[h];simp)) (aG.2.2 u hu t (by simp))
def Ctx.after(c:Ctx P call ops ord dZ H0 T cv bJ){A B:List bF}{t:bF}(h:T=A++t::B){u:bF}(hu:u∈B):
  t.i≠u.i/\c8 (dv ops) u.i t.i=U/\(c8 (dv ops) t.i u.i=X\/t.ai.apart ops u.ai=X):=by
 have aG:=c.Ca;rw[h,List.pairwise_append,List.pairwise_cons]at aG;exact B_ (c.mem (by rw[h];simp)) (c.mem (by rw[h];simp[hu])) (aG.2.1.1 u hu)
def Ctx.looks(c:Ctx P call ops ord dZ H0 T cv bJ){A B:List bF}{t:bF}(h:T=A++t::B){L:Nat->Bool}(e:pt ops L)(hw:nU L t.ai)(l:L t.i=U):
  ∀d∈t.ai.looksAt ops,fm L d T (dZ.get d)=t.ad.get d:=by
 intro d m;obtain⟨o,p,_,_⟩:=c.at h;rw[p d,h,vx,fm];rw[if_neg (by rintro⟨k,_⟩;rw[l]at k;cases k)];rw[sa (A:=B),qE (L':=λ_=>X)]
 ·intro u hu j;obtain⟨_,_,a⟩:=c.before h hu;rcases a with a|a
  ·exact j3 e _ _ o hw _ a
  ·exact absurd m ((Oper.apart_spec a).1 d j)
 ·intro u hu j;obtain⟨_,_,a⟩:=c.after h hu;rcases a with a|a
  ·cases q:L u.i with
   |false=>rfl
   |true=>
    have n:=c.mem (t:=u) (by rw[h];simp[hu]);have:=j3 e _ _ n (e _ _ n q) _ a;rw[l]at this;cases this
  ·exact absurd m ((Oper.apart_spec a).2.2 d j)
def Ctx.tr(c:Ctx P call ops ord dZ H0 T cv bJ){A B:List bF}{t:bF}(h:T=A++t::B){L L':Nat->Bool}(l:pt ops L)(p:L t.i=U)(q:L' t.i=X)(aB:∀j,j≠t.i->L' j=L j)(d:Nat)(v:aa):
  fm L' d T v=if t.ai.dst=D d then t.k.val else fm L d T v:=by
 have n:∀u∈A,u.ai.dst=D d->L' u.i=L u.i:=λu hu _=>aB _ (c.before h hu).1
 have o:∀u∈B,u.ai.dst=D d->L' u.i=L u.i:=λu hu _=>aB _ (Ne.symm (c.after h hu).1)
 rw[h,vx,vx,qE n];simp only[fm];rw[qE o];by_cases a:t.ai.dst=D d
 ·rw[if_pos ⟨q,a⟩,if_pos a];refine sa λu hu w=> ?_
  obtain⟨_,_,e⟩:=c.after h hu;rcases e with e|e
  ·cases s:L u.i with
   |false=>rfl
   |true=>
    have m:=c.mem (t:=u) (by rw[h];simp[hu]);have:=j3 l _ _ m (l _ _ m s) _ e;rw[p]at this;cases this
  ·exact absurd w ((Oper.apart_spec e).2.1 d a)
 ·rw[if_neg (λx=>a x.2),if_neg a,if_neg (λx=>a x.2)]
def eK.turns{N:Nat}{ρ:Env}{w:World}{L:Nat->Bool}:∀{zC zD:List bF} {H:ae},ed H (zC++zD)->(∀u∈zC,u.k.eV=X->L u.i=X/\∃v b,u.k= .new v b)->
  eK ρ0 H0 w0 N (dM L (zC++zD) H) ρ H w->eK ρ0 H0 w0 N (dM L zD (cb zC H)) ρ (cb zC H) w
 |[],zD,H,_,_,m=>m
 |c::zC,zD,H,hm,e,m=>by
  by_cases a:c.k.eV=X
  ·obtain⟨o,v,b,d⟩:=e c (by simp) a;have aG:dM L (c::zC++zD) H H.next=D b:=by simp[dM,d,o]
   have m1:=m.Ev aG;have l:ed (H.push b) (zC++zD):=by have:=hm.2;rw[d]at this;exact this
   have heq:(λk=>if k=H.next then Z else dM L (c::zC++zD) H k)=dM L (zC++zD) (H.push b):=by
    funext k
    by_cases j:k=H.next
    ·rw[if_pos j];cases q:dM L (zC++zD) (H.push b) k with
     |none=>rfl
     |some cx=>have:=qy l q;simp at this;omega
    ·rw[if_neg j];simp[dM,d,j]
   rw[heq]at m1;have:=eK.turns l (λu hu=>e u (by simp[hu])) m1;rw[cb,d];exact this
  ·have p:∀v b,c.k≠ .new v b:=λv b h=>by rw[h]at a;exact a rfl
   rw[List.cons_append,qz p]at m;have n:=rD (by simpa using a) H;rw[cb];rw[n]at m ⊢;refine eK.turns ?_ (λu hu=>e u (by simp[hu])) m;have:=hm.2;rwa[n]at this
structure Inv(ops:Array Oper)(dZ:a_)(H0:ae)(T:List bF)(N:Nat)(ρ0:Env)(w0:World)(listed:Array Bool)(a:Act)(w:World):Prop where
 size:listed.size=ops.size
 closed:pt ops (cZ listed)
 mid:∃ρ T1 T2,T=T1++T2/\(∀t∈T1,t.k.eV=true->cZ listed t.i=true)/\(∀t∈T2,(∃v H,t.k= .dL v H)->cZ listed t.i=false)/\
  eK ρ0 H0 w0 N (dM (cZ listed) T2 (cb T1 H0)) ρ (cb T1 H0) w/\∃c:a_,dC ρ c a/\c.size=dZ.size/\∀d,c.get d=fm (cZ listed) d T (dZ.get d)
def Ctx.final(c:Ctx P call ops ord dZ H0 T cv bJ){listed:Array Bool}{a:Act}{w:World}(y:Inv ops dZ H0 T bJ.next ρ0 w0 listed a w)(j:∀t∈T,cZ listed t.i=X):
  ∃ρ,dC ρ cv a/\Step ρ0 H0 w0 ρ bJ w:=by
 obtain⟨ρ,T1,T2,aE,K,x,m,F,h,B,E⟩:=y.mid;obtain⟨G,p,q,s⟩:=j4 c.aE;have o:=pM c.aE;rw[aE]at o;have z:=(ed.append o).2;have m':=eK.turns (zC:=T2) (zD:=[]) (L:=cZ listed) (by simpa using z) (λu hu l=>by
  have e:=j u (by rw[aE];simp[hu]);refine⟨e,?_⟩;cases n:u.k with
  |new v b=>exact⟨v,b,rfl⟩
  |dL v H=>rw[x u hu ⟨v,H,n⟩]at e;cases e
  |_=>rw[n]at l;cases l) (by simpa using m)
 rw[<-jz,<-aE,<-p]at m';refine⟨ρ,⟨by rw[q,<-B];exact h.size,λd=> ?_,h.none⟩,m'.done rfl⟩;have:=h.get d;rw[E d,qE (L':=λ_=>X) (λt A _=>j t A),<-s d]at this;exact this
def CH{listed:Array Bool}{i:Nat}(h:i∈Region.ready .any ops listed)(aB:listed.size=ops.size):
  ∃ai,ops[i]? =D ai/\cZ listed i=U/\nU (cZ listed) ai/\i<ops.size:=by
 unfold Region.ready at h;simp only[List.mem_filter,List.mem_range,Bool.and_eq_true,Bool.not_eq_true']at h;obtain⟨d,a,c⟩:=h;have j:ops[i]? =D ops[i]:=by simp[d]
 refine⟨ops[i],j,?_,?_,d⟩
 ·unfold cZ;rw[Array.getD_eq_getD_getElem?]at a ⊢;have:i<listed.size:=af;simp[this]at a ⊢;exact a
 ·rw[j]at c;simp only[Option.map_some,Option.getD_some,Array.all_eq_true']at c;intro e he k;have:=c e he;simpa [k,cZ]using this
def I7{listed:Array Bool}{i:Nat}{ai:Oper}(d:ops[i]? =D ai)(a:cZ listed i=U)(hw:nU (cZ listed) ai)(aB:listed.size=ops.size):i∈Region.ready .any ops listed:=by
 unfold Region.ready;have h:i<ops.size:=(Array.getElem?_eq_some_iff.1 d).1;simp only[List.mem_filter,List.mem_range,Bool.and_eq_true,Bool.not_eq_true'];refine⟨h,?_,?_⟩
 ·unfold cZ at a;rw[Array.getD_eq_getD_getElem?]at a ⊢;have:i<listed.size:=af;simp[this]at a ⊢;exact a
 ·rw[d];simp only[Option.map_some,Option.getD_some,Array.all_eq_true'];intro e he;by_cases c:Region.binds .any e=X
  ·have:=hw e he c;unfold cZ at this;rw[this];simp
  ·simp[c]
def Ctx.FD(c:Ctx P call ops ord dZ H0 T cv bJ){listed:Array Bool}(aB:listed.size=ops.size)(H:Region.ready .any ops listed=[]):∀t∈T,cZ listed t.i=true:=by
 have v:=c.vp;simp only[oD,Bool.and_eq_true,List.all_eq_true,List.mem_range]at v;obtain⟨y,E,z,_⟩:=v;have q:=(j4 c.aE).1;have key:∀(n:Nat) (A:List bF) (t:bF) (B:List bF),A.length=n->T=A++t::B->cZ listed t.i=true:=by
  intro n
  induction n using Nat.strongRecOn with
  |_ n L=>
   intro A t B hlen h;have j:=(c.at h).1;cases F:cZ listed t.i with
   |true=>rfl
   |false=>
    have:t.i∈Region.ready .any ops listed:=by
     refine I7 j F (λe he p=> ?_) aB;have d:=Gl j he p;have G:e.on<ops.size:=by
      have a:=z t.ai (by
       have:=(Array.getElem?_eq_some_iff.1 j);obtain⟨m,x⟩:=this;rw[<-x];simp)
      unfold yd at a;rw[List.all_eq_true]at a;have m:=a e (by simpa using he);simpa [p]using m
     have s:=y e.on G;rw[List.contains_iff_mem,<-q,List.mem_map]at s;obtain⟨u,hu,k⟩:=s;rw[h]at hu;rcases List.mem_append.1 hu with hu|hu
     ·obtain⟨l,w,o⟩:=List.append_of_mem hu;rw[<-k];refine L l.length ?_ l u (w++t::B) rfl (by rw[h,o];simp);rw[<-hlen,o];simp
     ·rcases List.mem_cons.1 hu with rfl|hu
      ·exfalso;have a:=E u.i (by rw[<-q,List.mem_map];exact⟨u,by rw[h];simp,rfl⟩);rw[<-k]at d;rw[d]at a;cases a
      ·exfalso;have a:=(c.after h hu).2.1;rw[k,d]at a;cases a
    rw[H]at this;simp at this
 intro t K;obtain⟨A,B,h⟩:=List.append_of_mem K;exact key _ A t B rfl h
def ya{p q:Nat->Bool}{i:Nat}:∀{l:List Nat},i∈l->(∀j,q j=X->p j=X)->p i=X->q i=U->l.countP q<l.countP p
 |[],h,_,_,_=>by simp at h
 |j::l,h,himp,aG,a=>by
  have hle:∀l:List Nat,l.countP q<=l.countP p:=λl=>List.countP_mono_left λx _ d=>himp x d
  simp only[List.countP_cons];rcases List.mem_cons.1 h with rfl|h
  ·rw[aG,a];have:=hle l;simp;omega
  ·have:=ya h himp aG a;cases c:q j with
   |true=>rw[himp j c];simp;omega
   |false=>cases p j<;>simp<;>omega
def rT{listed:Array Bool}{i:Nat}(a:i<listed.size)(j:Nat):cZ (listed.setIfInBounds i X) j=if j=i then X else cZ listed j:=by
 unfold cZ;rw[Array.getD_eq_getD_getElem?,Array.getD_eq_getD_getElem?,Array.getElem?_setIfInBounds];by_cases h:i=j
 ·subst h;simp[a]
 ·have ba:¬j=i:=λe=>h e.symm
  simp[h,ba]
