/-
  Texts of one proof, laid together: Hv11 Hv12 Hv13 Hv14 Hv15.
-/
import Derived.Test.YtghmbpmaafnodaaDoorMB
import Derived.Orders
set_option linter.unusedVariables false
set_option linter.unusedSimpArgs false
set_option linter.defProp false
open Option renaming some→D,none→C
open Bool renaming true→X,false→U
namespace Go.bn
structure bl where
 t:bF aa
 size:Nat
def bl.get(ad:bl)(d:Nat):aa:=match ad.t.get d with
 |some v=>v
 |none=> .tuple []
def bl.put(ad:bl)(dst:Option Nat)(v:aa):Option bl:=match dst with
 |none=>D ad
 |some d=>if d<ad.size then D {ad with t:=bF.put v (d+1) ad.t d}else C
structure ey(ρ:Env)(ad:bl)(a:Act):Prop where
 size:ad.size=a.tmps.size
 get:∀d,bq ρ (ad.get d) (a.tmps.getD d undef)
 none:a.defers=[]
def ey.mono{ρ c:Env}{ad:bl}{a:Act}(h:ey ρ ad a)(hle:ρ.le c):ey c ad a:=⟨h.size,λd=>(h.get d).mono hle,h.none⟩
def bl.tI{ad bj:bl}{dst:Option Nat}{v:aa}(h:ad.put dst v=D bj)(d:Nat):bj.get d=if dst=D d then v else ad.get d:=by
 cases dst with
 |none=>simp only[bl.put,aZ]at h;subst h;simp
 |some e=>
  simp only[bl.put]at h;split at h
  ·simp only[aZ]at h;subst h;by_cases he:e=d
   ·subst he;simp[bl.get,bF.tK v (e+1) ad.t e ae]
   ·have:(D e=D d)=False:=by simp[he]
    simp[bl.get,bF.tJ v (e+1) ad.t e d he,he]
  ·cases h
def bl.sU{ad bj:bl}{dst:Option Nat}{v:aa}(h:ad.put dst v=D bj):bj.size=ad.size:=by
 cases dst with
 |none=>simp only[bl.put,aZ]at h;subst h;rfl
 |some e=>
  simp only[bl.put]at h;split at h
  ·simp only[aZ]at h;subst h;rfl
  ·cases h
def bl.H2{ad bj:bl}{d:Nat}{v:aa}(h:ad.put (D d) v=D bj):d<ad.size:=by
 simp only[bl.put]at h;split at h
 ·assumption
 ·cases h
def ey.put{ρ:Env}{ad bj:bl}{a:Act}{dst:Option Nat}{v:aa}{x:Value}(h:ey ρ ad a)(aF:ad.put dst v=D bj)(i:bq ρ v x):ey ρ bj (a.put dst x):=by
 refine⟨?_,λd=> ?_,?_⟩
 ·rw[bl.sU aF,h.size];cases dst<;>simp[Act.put]
 ·rw[bl.tI aF];cases dst with
  |none=>simpa [Act.put]using h.get d
  |some e=>
   have c:=bl.H2 aF;rw[h.size]at c;by_cases he:e=d
   ·subst he;simpa [Act.put,c]using i
   ·have:=h.get d;simp only[aZ,he,if_false,Act.put,Array.getD_eq_getD_getElem?,Array.getElem?_setIfInBounds];simpa using this
 ·cases dst<;>simpa [Act.put]using h.none
def cu(ad:bl):Operand->Option aa
 | .tmp t=>D (ad.get t)
 | .const v=>ud v
 | .global _=>C
 | .func f=>D (.func (.func f) [] [])
section
variable {P:Program}{ρ:Env}{H:af}{w:World}{ad:bl}{a:Act}
def dJ(d:ey ρ ad a){x:Operand}{v:aa}(h:cu ad x=D v):bq ρ v (a.eval x):=by
 cases x with
 |tmp t=>simp only[cu,aZ]at h;subst h;exact d.get t
 |const c=>exact wg h ρ
 |global g=>cases h
 |func f=>simp only[cu,aZ]at h;subst h;exact .func (.func f) [] [] [] [] .nil .nil
def ix(ad:bl):List Operand->Option (List aa)
 |[]=>D []
 |x::xs=>match cu ad x,ix ad xs with
  |some v,D a=>D (v::a)
  |_,_=>C
def pV(d:ey ρ ad a):∀{xs:List Operand} {c:List aa},ix ad xs=D c->bL ρ c (xs.map a.eval)
 |[],c,h=>by simp only[ix,aZ]at h;subst h;exact .nil
 |x::xs,c,h=>by
  simp only[ix]at h;split at h
  ·rename_i v j e i;simp only[aZ]at h;subst h;exact .cons _ _ _ _ (dJ d e) (pV d i)
  ·cases h
def ki(ad:bl):List (Nat×Operand)->Option (List (Nat×aa))
 |[]=>D []
 |(i,x)::xs=>match cu ad x,ki ad xs with
  |some v,D a=>D ((i,v)::a)
  |_,_=>C
def yd(d:ey ρ ad a):∀{xs:List (Nat×Operand)} {c:List (Nat×aa)},ki ad xs=D c->rn ρ c (xs.map λ(i,x)=>(i,a.eval x))
 |[],c,h=>by simp only[ki,aZ]at h;subst h;exact trivial
 |(i,x)::xs,c,h=>by
  simp only[ki]at h;split at h
  ·rename_i v k e j;simp only[aZ]at h;subst h;exact⟨rfl,dJ d e,yd d j⟩
  ·cases h
def lq(ad:bl):Option Operand->Option (Option aa)
 |none=>D C
 |some x=>match cu ad x with
  |some v=>D (D v)
  |none=>C
def yf(c:ey ρ ad a){x:Option Operand}{v:Option aa}(h:lq ad x=D v):rm ρ v (x.map a.eval):=by
 cases x with
 |none=>simp only[lq,aZ]at h;subst h;exact .none
 |some x=>
  simp only[lq]at h;split at h
  ·rename_i u hu;simp only[aZ]at h;subst h;exact .some _ _ (dJ c hu)
  ·cases h
def cp:aa->Option aa
 | .ptr l i c=>D (.ptr l i c)
 | .iface t v=>D (.iface t v)
 | .func (.func f) x y=>D (.func (.func f) x y)
 |_=>C
def x7(P:Program)(t:TypeId)(v:aa):Option aa:=
 match P.underlying t with
 |some (.interface _)=>C
 |some _=>D (.iface t v)
 |none=>C
def cx(P:Program)(H:af)(b:Builtin)(ts:List TypeId)(a:List aa):Option aa:=
 match b,ts,a with
 | .len,[t],[x]=>x8 P H t x
 | .max,_,[x,y]=>vi x y
 | .min,_,[x,y]=>vj x y
 | .cap,[t],[x]=>x1 P t x
 |_,_,_=>C
def x0(P:Program)(t:TypeId)(ok:Bool)(v:aa):Option aa:=
 match v with
 | .iface d u=>if d=t/\ok=U then(match P.underlying t with|some (.interface _)=>C|some _=>D u|none=>C)else C
 |_=>C
def kj(P:Program)(o:Op)(ad:bl):Option aa:=
 match o with
 | .move x=>cu ad x
 | .assign x=>cu ad x
 | .pick c a b=>match cu ad c with
  |some (.bool t)=>if t then cu ad a else cu ad b
  |_=>C
 | .build t n=>(ki ad n.toList).bind (cS P t)
 | .nilCheck x=>(cu ad x).bind cp
 | .binOp op t x y _=>(cu ad x).bind λu=>(cu ad y).bind λv=>th P op t x y u v
 | .unOp op _ x=>(cu ad x).bind (fD op)
 | .convert s d x=>(cu ad x).bind (oz P s d)
 | .makeInterface t x=>(cu ad x).bind (x7 P t)
 | .makeFunc fn f c=>(ix ad f.toList).bind λe=>(ix ad c.toList).bind λcs=>D (.func fn e cs)
 | .slice t x lo j k=>(cu ad x).bind λv=>(lq ad lo).bind λl=>(lq ad j).bind λh=>(lq ad k).bind λm=>lp P t v l h m
 | .fieldAddr t x f=>(cu ad x).bind λv=>aJ P t v f
 | .field t x f=>(cu ad x).bind λv=>c0 P t v f
 | .indexAddr t x i=>(cu ad x).bind λu=>(cu ad i).bind λv=>cF P t u v
 | .index t x i=>(cu ad x).bind λu=>(cu ad i).bind λv=>fC P t u v
 | .extract x i=>(cu ad x).bind λv=>h6 v i
 | .typeAssert x _ t ok=>(cu ad x).bind (x0 P t ok)
 | .call c=>match c.callee with
  | .builtin b=>(ix ad c.args.toList).bind (cx P .empty b c.argTypes.toList)
  |_=>C
 |_=>C
def fS{s:Sem Value}{x:Value}{w a:World}(h:s.run P w= .ok x a):(do pure (.value (<-s)):Sem Next).run P w= .ok (.value x) a:=by
 simp[h]
def At{s:Sem Unit}{w a:World}(h:s.run P w= .ok () a):(do s;pure .skip:Sem Next).run P w= .ok .skip a:=by
 simp[h]
def Rel.empty(ρ:Env)(w:World)(n:Nat):Rel ρ ⟨.leaf,n⟩ w:=by
 have:∀l,(⟨.leaf,n⟩:af).get l=none:=λl=>by unfold af.get;split<;>first|exact bF.tG _|rfl
 refine⟨λl _ _ _ h=> ?_,λl _ h=> ?_,λl _ _ _ h=> ?_,λl l' _ _ h=> ?_⟩
 ·rw[this]at h;cases h
 ·rw[this]at h;cases h
 ·rw[this]at h;cases h
 ·rcases h with⟨_,_,h⟩|⟨_,h⟩|⟨_,_,_,h⟩<;>(rw[this]at h;cases h)
def BH(k:Rel ρ H w){b:Builtin}{ts:List TypeId}{j:List aa}{v:aa}{xs:List Value}(h:cx P H b ts j=D v)(d:bL ρ j xs)(ty:TypeId)(cs:Array Bool):
  ∃x,(builtin b ts.toArray ty cs xs.toArray).run P w= .ok (.value x) w/\bq ρ v x:=by
 unfold cx at h;split at h
 ·cases d with|cons _ x _ _ a c=>
  cases c;obtain⟨r,aq,aH⟩:=LO k ty h a;exact⟨r,fS aq,aH⟩
 ·cases d with|cons _ x _ _ a c=>
  cases c with|cons _ y _ _ e i=>
  cases i;obtain⟨r,aq,aH⟩:=LX (P:=P) ts.toArray ty h a e w;exact⟨r,fS aq,aH⟩
 ·cases d with|cons _ x _ _ a c=>
  cases c with|cons _ y _ _ e i=>
  cases i;obtain⟨r,aq,aH⟩:=LZ (P:=P) ts.toArray ty h a e w;exact⟨r,fS aq,aH⟩
 ·cases d with|cons _ x _ _ a c=>
  cases c;obtain⟨r,aq,aH⟩:=Lt (P:=P) ty h a w;exact⟨r,fS aq,aH⟩
 ·cases h
def map_toArray{α β:Type}(f:α->β)(xs:Array α):xs.map f=(xs.toList.map f).toArray:=by cases xs;simp
def wK{o:Oper}{c:Call}{b:Builtin}(e:o.op= .call c)(d:c.callee= .builtin b)(w:World):
  (execOp a.eval o).run P w=(builtin b c.argTypes o.type (c.args.map λ | .const _=>X|_=>U) (c.args.map a.eval)).run P w:=by
 unfold execOp;rw[e];simp only[resolve,d];rfl
def Mg{o:Oper}{v:aa}(h:kj P o.op ad=D v)(p:ey ρ ad a)(w:World):∃x,(execOp a.eval o).run P w= .ok (.value x) w/\bq ρ v x:=by
 unfold kj at h;split at h
 ·rename_i x j;exact⟨_,by unfold execOp;rw[j];rfl,dJ p h⟩
 ·rename_i x j;exact⟨_,by unfold execOp;rw[j];rfl,dJ p h⟩
 ·rename_i c x y j;split at h
  ·rename_i t H;have n:=dJ p H;have q:a.eval c= .bool t:=by
    generalize a.eval c=z at n;cases n;rfl
   cases t
   ·exact⟨_,by unfold execOp;rw[j];simp only[q];rfl,dJ p h⟩
   ·exact⟨_,by unfold execOp;rw[j];simp only[q];rfl,dJ p h⟩
  ·cases h
 ·rename_i t O j;simp only[dc]at h;obtain⟨K,n,q⟩:=h;obtain⟨x,aq,aH⟩:=Lq q (yd p n) w;refine⟨x,?_,aH⟩;unfold execOp;rw[j];rw[<-map_toArray]at aq;exact fS aq
 ·rename_i x j;simp only[dc]at h;obtain⟨u,n,q⟩:=h;have e:=dJ p n;refine⟨a.eval x,?_,?_⟩
  ·unfold execOp;rw[j];simp only
   generalize a.eval x=z at e;unfold cp at q;split at q
   ·cases e;rfl
   ·cases e;rfl
   ·cases e;rfl
   ·cases q
  ·unfold cp at q;split at q<;>first|(simp only[aZ]at q;subst q;exact e)|cases q
 ·rename_i op t x y S j;simp only[dc]at h;obtain⟨u,n,z,q,e⟩:=h;obtain⟨r,aq,aH⟩:=Lo e (dJ p n) (dJ p q) w;exact⟨r,by unfold execOp;rw[j];exact fS aq,aH⟩
 ·rename_i op t x j;simp only[dc]at h;obtain⟨u,n,e⟩:=h;obtain⟨r,aq,aH⟩:=Mo e (dJ p n) w;exact⟨r,by unfold execOp;rw[j];exact fS aq,aH⟩
 ·rename_i s d x j;simp only[dc]at h;obtain⟨u,n,e⟩:=h;obtain⟨r,aq,aH⟩:=Lv e (dJ p n) w;exact⟨r,by unfold execOp;rw[j];exact fS aq,aH⟩
 ·rename_i t x j;simp only[dc]at h;obtain⟨u,n,e⟩:=h;have A:=dJ p n;unfold x7 at e;split at e
  ·cases e
  ·rename_i d F hu;simp only[aZ]at e;subst e;refine⟨.iface t (a.eval x),?_,.iface _ _ _ A⟩;unfold execOp;rw[j];refine fS ?_;unfold Instr.makeInterface;simp only[Sem.run_bind,run_underlying hu,Result.andThen_ok];cases d<;>first|rfl|exact absurd rfl (F _)
  ·cases e
 ·rename_i fn f c j;simp only[dc,aZ]at h;obtain⟨G,n,cs,q,rfl⟩:=h;refine⟨_,?_,.func fn G cs _ _ (pV p n) (pV p q)⟩;unfold execOp;rw[j];rw[<-map_toArray,<-map_toArray];rfl
 ·rename_i t x lo M N j;simp only[dc]at h;obtain⟨u,n,l,q,k,e,m,A,B⟩:=h;obtain⟨r,aq,aH⟩:=Ml B (dJ p n) (yf p q) (yf p e) (yf p A) w;exact⟨r,by unfold execOp;rw[j];exact fS aq,aH⟩
 ·rename_i t x f j;simp only[dc]at h;obtain⟨u,n,e⟩:=h;obtain⟨r,aq,aH⟩:=LA e (dJ p n) w;exact⟨r,by unfold execOp;rw[j];exact fS aq,aH⟩
 ·rename_i t x f j;simp only[dc]at h;obtain⟨u,n,e⟩:=h;obtain⟨r,aq,aH⟩:=LB e (dJ p n) w;exact⟨r,by unfold execOp;rw[j];exact fS aq,aH⟩
 ·rename_i t x i j;simp only[dc]at h;obtain⟨u,n,z,q,e⟩:=h;obtain⟨r,aq,aH⟩:=LL e (dJ p n) (dJ p q) w;exact⟨r,by unfold execOp;rw[j];exact fS aq,aH⟩
 ·rename_i t x i j;simp only[dc]at h;obtain⟨u,n,z,q,e⟩:=h;obtain⟨r,aq,aH⟩:=LN e (dJ p n) (dJ p q) w;exact⟨r,by unfold execOp;rw[j];exact fS aq,aH⟩
 ·rename_i x i j;simp only[dc]at h;obtain⟨u,n,e⟩:=h;obtain⟨r,aq,aH⟩:=Lz e (dJ p n) w;exact⟨r,by unfold execOp;rw[j];exact fS aq,aH⟩
 ·rename_i x R t ok j;simp only[dc]at h;obtain⟨u,n,e⟩:=h;have A:=dJ p n;unfold x0 at e;split at e
  ·rename_i d Q;split at e
   ·rename_i E;obtain⟨rfl,rfl⟩:=E;generalize he:a.eval x=z at A;cases A with|iface _ _ L B=>
    split at e
    ·cases e
    ·rename_i na F hu;simp only[aZ]at e;subst e;refine⟨L,?_,B⟩;unfold execOp;rw[j];refine fS ?_;rw[he];unfold Instr.typeAssert;simp only[Sem.run_bind,run_underlying hu,Result.andThen_ok];cases na<;>first|exact absurd rfl (F _)|simp
    ·cases e
   ·cases e
  ·cases e
 ·rename_i c j;split at h
  ·rename_i b E;simp only[dc]at h;obtain⟨K,n,q⟩:=h;obtain⟨x,aq,aH⟩:=BH (Rel.empty ρ w 0) q (pV p n) o.type (c.args.map λ | .const _=>X|_=>U);refine⟨x,?_,aH⟩;rw[wK j E,map_toArray a.eval];simpa using aq
  ·cases h
 ·cases h
def iw(P:Program)(o:Op)(ad:bl)(H:af):Option aa:=
 match o with
 | .load t x=>(cu ad x).bind (ao P H t)
 | .lookup t x k ok=>(cu ad x).bind λu=>(cu ad k).bind λv=>vg P H t u v ok
 | .convert s d x=>(cu ad x).bind (pQ P H s d)
 | .call c=>match c.callee with
  | .builtin b=>(ix ad c.args.toList).bind (cx P H b c.argTypes.toList)
  |_=>C
 |_=>C
def Mh(m:Rel ρ H w){o:Oper}{v:aa}(h:iw P o.op ad H=D v)(l:ey ρ ad a):∃x,(execOp a.eval o).run P w= .ok (.value x) w/\bq ρ v x:=by
 unfold iw at h;split at h
 ·rename_i t x i;simp only[dc]at h;obtain⟨u,e,j⟩:=h;obtain⟨r,aq,aH⟩:=x9 m j (dJ l e);exact⟨r,by unfold execOp;rw[i];exact fS aq,aH⟩
 ·rename_i t x k ok i;simp only[dc]at h;obtain⟨u,e,z,n,j⟩:=h;obtain⟨r,aq,aH⟩:=LS m j (dJ l e) (dJ l n);exact⟨r,by unfold execOp;rw[i];exact fS aq,aH⟩
 ·rename_i s d x i;simp only[dc]at h;obtain⟨u,e,j⟩:=h;obtain⟨r,aq,aH⟩:=Lr m j (dJ l e);exact⟨r,by unfold execOp;rw[i];exact fS aq,aH⟩
 ·rename_i c i;split at h
  ·rename_i b p;simp only[dc]at h;obtain⟨q,e,n⟩:=h;obtain⟨x,aq,aH⟩:=BH m n (pV l e) o.type (c.args.map λ | .const _=>X|_=>U);refine⟨x,?_,aH⟩;rw[wK i p,map_toArray a.eval];simpa using aq
  ·cases h
 ·cases h
def pT(P:Program)(o:Op)(ad:bl)(H:af):Option (aa×af):=
 match o with
 | .alloc t=>vd P H t
 | .box t x=>(cu ad x).bind (ru (sb P t) H)
 | .buildSlice t n a=>(ki ad a.toList).bind (ti P H t n)
 | .makeMap _ C=>D (x_ H)
 | .makeSlice t l c=>(cu ad l).bind λu=>(cu ad c).bind λv=>vh P H t u v
 |_=>C
def L1(m:Rel ρ H w)(p:ρ H.next=C){o:Oper}{v:aa}{H':af}(h:pT P o.op ad H=D (v,H'))(q:ey ρ ad a):
  ∃x d e,(execOp a.eval o).run P w= .ok (.value x) d/\bq e v x/\Step ρ H w e H' d:=by
 unfold pT at h;split at h
 ·rename_i t i;obtain⟨r,d,e,aq,aH,bu⟩:=Lm m p h;exact⟨r,d,e,by unfold execOp;rw[i];exact fS aq,aH,bu⟩
 ·rename_i t x i;simp only[dc]at h;obtain⟨u,j,k⟩:=h;obtain⟨r,d,e,aq,aH,bu⟩:=BG (P:=P) m p k (dJ q j) t (λA h=>G7 h);exact⟨r,d,e,by unfold execOp;rw[i];exact fS aq,aH,bu⟩
 ·rename_i t n y i;simp only[dc]at h;obtain⟨u,j,k⟩:=h;obtain⟨r,d,e,aq,aH,bu⟩:=Lp m p k (yd q j);refine⟨r,d,e,?_,aH,bu⟩;unfold execOp;rw[i];rw[<-map_toArray]at aq;exact fS aq
 ·rename_i t i;simp only[aZ]at h;obtain⟨r,d,e,aq,aH,bu⟩:=LU (P:=P) m p t;rw[h]at aH bu;exact⟨r,d,e,by unfold execOp;rw[i];exact fS aq,aH,bu⟩
 ·rename_i t l c i;simp only[dc]at h;obtain⟨u,j,z,s,k⟩:=h;obtain⟨r,d,e,aq,aH,bu⟩:=LW m p k (dJ q j) (dJ q s);exact⟨r,d,e,by unfold execOp;rw[i];exact fS aq,aH,bu⟩
 ·cases h
def cb.lB:cb->Bool
 | .row U _ _=>X
 | .map _=>X
 | .ck _ _ _=>X
 |_=>U
def cb.lB.ro{b:cb}(h:b.lB=X):b.tM=false:=by
 cases b with
 |row ro e s=>cases ro<;>first|rfl|cases h
 |map es=>rfl
 |ck t e s=>rfl
 |dead=>rfl
def ql(r:Option (aa×af))(l:Nat):Option (aa×cb):=
 match r with
 |some (v,H')=>if H'.next=l+1 then(match H'.get l with
  |some b=>if b.lB then D (v,b)else C
  |none=>C)else C
 |none=>C
def kQ(P:Program)(o:Op)(ad:bl)(l:Nat):Option (aa×cb):=ql (pT P o ad ⟨.leaf,l⟩) l
def l9(P:Program)(o:Op)(ad:bl)(H:af):Option (aa×af):=
 match o with
 | .store t x y=>(cu ad x).bind λu=>(cu ad y).bind λv=>(ba P H t u v).map λH'=>(.tuple [],H')
 | .mapUpdate t m k x=>(cu ad m).bind λu=>(cu ad k).bind λv=>(cu ad x).bind λz=>(rA P H t u v z).map λH'=>(.tuple [],H')
 | .insert t m k x=>(cu ad m).bind λu=>(cu ad k).bind λv=>(cu ad x).bind λz=>(rA P H t u v z).map λH'=>(.tuple [],H')
 | .call c=>match c.callee,c.args.toList with
  | .builtin .append,[s,x]=>(cu ad s).bind λu=>(cu ad x).bind λv=>df P H c.argTypes.toList u v
  | .builtin .clear,[x]=>(cu ad x).bind λu=>(ve P H c.argTypes.toList u).map λH'=>(.tuple [],H')
  |_,_=>C
 |_=>C
def Bk(x:Value):Next->Prop
 | .value y=>y=x
 | .skip=>x=undef
 |_=>False
def Ms(q:Rel ρ H w){o:Oper}{v:aa}{H':af}(h:l9 P o.op ad H=D (v,H'))(G:H.next<H'.next->ρ H.next=C)(e:ey ρ ad a):
  ∃n x d A,(execOp a.eval o).run P w= .ok n d/\Bk x n/\bq A v x/\Step ρ H w A H' d:=by
 unfold l9 at h;split at h
 ·rename_i t x y l;simp only[dc,Option.map_eq_some_iff,cj]at h;obtain⟨u,i,z,p,H1,j,rfl,rfl⟩:=h;obtain⟨d,aq,aH⟩:=Mm q j (dJ e i) (dJ e p);exact⟨.skip,undef,d,ρ,by unfold execOp;rw[l];exact At aq,rfl,.tuple [] [] .nil,aH⟩
 ·rename_i t m k x l;simp only[dc,Option.map_eq_some_iff,cj]at h;obtain⟨u,i,z,p,y,B,H1,j,rfl,rfl⟩:=h;obtain⟨d,aq,aH⟩:=BV q j (dJ e i) (dJ e p) (dJ e B);exact⟨.skip,undef,d,ρ,by unfold execOp;rw[l];exact At aq,rfl,.tuple [] [] .nil,aH⟩
 ·rename_i t m k x l;simp only[dc,Option.map_eq_some_iff,cj]at h;obtain⟨u,i,z,p,y,B,H1,j,rfl,rfl⟩:=h;obtain⟨d,aq,aH⟩:=BV q j (dJ e i) (dJ e p) (dJ e B);exact⟨.skip,undef,d,ρ,by unfold execOp;rw[l];exact At aq,rfl,.tuple [] [] .nil,aH⟩
 ·rename_i c l;split at h
  ·rename_i s x F E;simp only[dc]at h;obtain⟨u,i,z,p,j⟩:=h;obtain⟨r,d,A,aq,aH,bu⟩:=Ln q o.type j G (dJ e i) (dJ e p);refine⟨.value r,r,d,A,?_,rfl,aH,bu⟩;rw[wK l F,map_toArray a.eval,E];refine fS (s:=Builtin.append_ c.argTypes o.type _) ?_;simpa using aq
  ·rename_i x F E;simp only[dc,Option.map_eq_some_iff,cj]at h;obtain⟨u,i,H1,j,rfl,rfl⟩:=h;obtain⟨d,aq,aH⟩:=Lu q o.type j (dJ e i);refine⟨.value (.tuple #[]),.tuple #[],d,ρ,?_,rfl,.tuple [] [] .nil,aH⟩;rw[wK l F,map_toArray a.eval,E];refine fS (s:=Builtin.clear_ c.argTypes o.type _) ?_;simpa using aq
  ·cases h
 ·cases h
end
section
variable {P:Program}{ρ:Env}{H:af}{w:World}{ad:bl}{a:Act}
def ke(ρ:Env)(w:World)(loc:Loc):cb->Prop
 | .row ro esz els=>gD ρ w loc ro esz els
 | .map es=>xQ ρ w loc es
 | .ck t esz els=>ou ρ w loc t esz els
 | .dead=>True
def ke.frame{n:Env}{m:World}{loc:Loc}{b:cb}(h:ke ρ w loc b)(hle:ρ.le n)(a:m.heap[loc.block]? =w.heap[loc.block]?):ke n m loc b:=by
 cases b with
 |row ro esz els=>
  obtain⟨d,c,t,o,k,l,q⟩:=h;refine⟨d,c,t,o,by rw[a];exact k,l,λi e he=> ?_⟩;obtain⟨bb,s⟩:=q i e he;refine⟨bb,λj v p=> ?_⟩;obtain⟨u,x,y,z⟩:=s j v p;exact⟨u,x,y,z.mono hle⟩
 |map es=>
  obtain⟨ents,clock,d,k,l⟩:=h;exact⟨ents,clock,by rw[a];exact d,k.mono hle,l.mono hle⟩
 |ck t esz els=>exact ou.frame h hle a
 |dead=>trivial
def ke.lt{loc:Loc}{b:cb}(h:ke ρ w loc b)(a:b.lB=X):loc.block<w.heap.size:=by
 cases b with
 |row ro esz els=>obtain⟨_,c,t,i,e,_⟩:=h;exact kV e
 |map es=>obtain⟨ents,clock,d,_⟩:=h;exact kV d
 |ck t esz els=>exact h.1.lt
 |dead=>cases a
def Rel.grow{o:Env}{u:World}(h:Rel ρ H w)(hle:ρ.le o)(m:∀b,b<w.heap.size->u.heap[b]? =w.heap[b]?):Rel o H u:=by
 refine⟨λl ro esz els e=> ?_,λl es e=> ?_,λl t esz els e=> ?_,λl l' loc j p q v aq aH=> ?_⟩
 ·obtain⟨loc,a,d⟩:=h.row l ro esz els e;refine⟨loc,hle _ _ a,?_⟩;have:=d;obtain⟨_,c,t,x,n,_⟩:=this;exact ke.frame (b:= .row ro esz els) d hle (m _ (kV n))
 ·obtain⟨loc,a,d⟩:=h.map l es e;refine⟨loc,hle _ _ a,?_⟩;have:=d;obtain⟨_,_,n,_⟩:=this;exact ke.frame (b:= .map es) d hle (m _ (kV n))
 ·obtain⟨loc,a,d⟩:=h.ck l t esz els e;exact⟨loc,hle _ _ a,d.frame hle (m _ d.1.lt)⟩
 ·have s:∀k loc,H.live k->o k=D loc->ρ k=D loc:=λk loc i e=>by
   rcases i with⟨ro,esz,els,i⟩|⟨es,i⟩|⟨t,esz,els,i⟩
   ·obtain⟨j,a,_⟩:=h.row _ _ _ _ i;rw[hle _ _ a]at e;rw[a];exact e
   ·obtain⟨j,a,_⟩:=h.map _ _ i;rw[hle _ _ a]at e;rw[a];exact e
   ·obtain⟨j,a,_⟩:=h.ck _ _ _ _ i;rw[hle _ _ a]at e;rw[a];exact e
  exact h.apart l l' loc j p q v (s _ _ p.live aq) (s _ _ q aH)
def Rel.zp(h:Rel ρ H w){l:Nat}(i:H.live l):∃loc,ρ l=D loc/\loc.block<w.heap.size:=by
 rcases i with⟨ro,esz,els,a⟩|⟨es,a⟩|⟨t,esz,els,a⟩
 ·obtain⟨loc,d,_,c,t,k,e,_⟩:=h.row _ _ _ _ a;exact⟨loc,d,kV e⟩
 ·obtain⟨loc,d,_,_,e,_⟩:=h.map _ _ a;exact⟨loc,d,kV e⟩
 ·obtain⟨loc,d,j⟩:=h.ck _ _ _ _ a;exact⟨loc,d,j.1.lt⟩
def L3{o:Oper}{l:Nat}{v:aa}{b:cb}(h:kQ P o.op ad l=D (v,b))(B:ey ρ ad a)(u:ρ l=C)(w:World):
  ∃x c d loc,(execOp a.eval o).run P w= .ok (.value x) c/\bq d v x/\ρ.le d/\(∀k,k≠l->d k=ρ k)/\d l=D loc/\w.heap.size<=loc.block/\b.lB=X/\ke d c loc b/\
   c.os=w.os/\c.tape=w.tape/\c.output=w.output/\w.heap.size<=c.heap.size/\∀k,k<w.heap.size->c.heap[k]? =w.heap[k]? :=by
 unfold kQ ql at h;split at h
 ·rename_i F H' q;split at h
  ·rename_i A;split at h
   ·rename_i ct e;split at h
    ·rename_i i;simp only[aZ,cj]at h;obtain⟨rfl,rfl⟩:=h;obtain⟨x,c,d,aq,aH,bu⟩:=L1 (Rel.empty ρ w l) u q B;have m:∀k,¬jW ρ ⟨.leaf,l⟩ k:=by
      rintro k ⟨l',loc,p,_,_⟩;have y:(⟨.leaf,l⟩:af).get l'=none:=by unfold af.get;split<;>first|exact bF.tG _|rfl
      rcases p with⟨_,_,h⟩|⟨_,h⟩|⟨_,_,_,h⟩<;>(rw[y]at h;cases h)
     have z:H'.rw l:=by
      cases ct with
      |row ro esz els=>cases ro with
       |true=>cases i
       |false=>exact .inl ⟨_,_,e⟩
      |map es=>exact .inr (.inl ⟨_,e⟩)
      |ck t esz els=>exact .inr (.inr ⟨_,_,_,e⟩)
      |dead=>cases i
     have s:∃loc,d l=D loc/\ke d c loc ct:=by
      cases ct with
      |row ro esz els=>exact bu.rel.row _ _ _ _ e
      |map es=>exact bu.rel.map _ _ e
      |ck t esz els=>exact bu.rel.ck _ _ _ _ e
      |dead=>cases i
     obtain⟨loc,n,E⟩:=s;refine⟨x,c,d,loc,aq,aH,bu.le,λk j=>bu.a1 k ?_,n,?_,i,E,bu.os,bu.tape,bu.output,bu.size,λk j=>bu.frame k j (m k)⟩
     ·rw[A];show k<l\/_;omega
     ·exact(bu.own loc.block ⟨l,loc,z,n,rfl⟩).resolve_left (m _)
    ·cases h
   ·cases h
  ·cases h
 ·cases h
structure fK(ρ0:Env)(H0:af)(w0:World)(N:Nat)(jI:Nat->Option cb)(ρ:Env)(H:af)(w:World):Prop where
 uz:Rel ρ0 H0 w0
 le:ρ0.le ρ
 next:H0.next<=H.next
 a1:∀l,l<H0.next\/N<=l->ρ l=ρ0 l
 rel:Rel ρ H w
 os:w.os=w0.os
 tape:w.tape=w0.tape
 output:w.output=w0.output
 size:w0.heap.size<=w.heap.size
 frame:∀b,b<w0.heap.size->¬jW ρ0 H0 b->w.heap[b]? =w0.heap[b]?
 own:∀b,jW ρ H b->jW ρ0 H0 b\/w0.heap.size<=b
 ro:∀l esz els,H.get l=some (.row true esz els)->H0.get l=some (.row true esz els)
 fresh:∀l,H.next<=l->l<N->jI l=none->ρ l=none
 kH:∀l b,jI l=some b->H.next<=l/\l<N/\b.lB=true/\∃loc,ρ l=some loc/\ke ρ w loc b/\w0.heap.size<=loc.block/\¬jW ρ H loc.block
 sep:∀l l' b ct loc a,jI l=some b->jI l'=some ct->l≠l'->ρ l=some loc->ρ l'=some a->loc.block≠a.block
variable {ρ0:Env}{H0:af}{w0:World}{N:Nat}{jI:Nat->Option cb}
def fK.start(h:Rel ρ0 H0 w0)(c:Bl ρ0 H0.next N):fK ρ0 H0 w0 N (λ_=>C) ρ0 H0 w0:=
 ⟨h,ρ0.le_refl,bo _,λ_ _=>rfl,h,rfl,rfl,rfl,bo _,λ_ _ _=>rfl,λ_ h=> .inl h,λ_ _ _ h=>h,λl a b _=>c l a b,λ_ _ h=>by simp at h,λ_ _ _ _ _ _ h=>by simp at h⟩
def fK.done(m:fK ρ0 H0 w0 N jI ρ H w)(a:H.next=N):Step ρ0 H0 w0 ρ H w:=
 ⟨m.le,m.next,λl c=>m.a1 l (by rw[<-a];exact c),m.rel,m.os,m.tape,m.output,m.size,m.frame,m.own,m.ro⟩
def fK.step{z:Env}{H':af}{y:World}(m:fK ρ0 H0 w0 N jI ρ H w)(s:Step ρ H w z H' y)(B:H'.next<=N)(aF:∀l b,jI l=D b->H'.next<=l):fK ρ0 H0 w0 N jI z H' y where
 uz:=m.uz
 le:=Env.le_trans m.le s.le
 next:=Nat.le_trans m.next s.next
 a1:=λl o=>(s.a1 l (o.imp (λh=>Nat.lt_of_lt_of_le h m.next) (λh=>Nat.le_trans B h))).trans (m.a1 l o)
 rel:=s.rel
 os:=s.os.trans m.os
 tape:=s.tape.trans m.tape
 output:=s.output.trans m.output
 size:=Nat.le_trans m.size s.size
 frame:=λb i p=>by
  rw[s.frame b (Nat.lt_of_lt_of_le i m.size) (λd=>(m.own b d).elim p (λhle=>ae)),m.frame b i p]
 own:=λb i=>(s.own b i).elim (λd=>m.own b d) (λhle=> .inr (Nat.le_trans m.size hle))
 ro:=λl esz els e=>m.ro l esz els (s.ro l esz els e)
 fresh:=λl a b c=>by rw[s.a1 l (.inr a)];exact m.fresh l (Nat.le_trans s.next a) b c
 kH:=λl b h=>by
  obtain⟨P,G,q,loc,j,u,K,v⟩:=m.kH l b h;have E:=u.lt q;refine⟨aF l b h,G,q,loc,s.le _ _ j,u.frame s.le (s.frame _ E v),K,λd=> ?_⟩;rcases s.own _ d with h|h
  ·exact v h
  ·omega
 sep:=λl l' b ct loc L h a8 F e A=>by
  obtain⟨_,_,_,M,j,_⟩:=m.kH l b h;obtain⟨_,_,_,O,x,_⟩:=m.kH l' ct a8;have k:=s.le _ _ j;rw[e]at k;cases k;have n:=s.le _ _ x;rw[A]at n;cases n;exact m.sep l l' b ct _ _ h a8 F j x
def fK.early{q:Env}{p:World}{l:Nat}{b:cb}{loc:Loc}(m:fK ρ0 H0 w0 N jI ρ H w)(S:H.next<=l)(P:l<N)(aF:jI l=C)
  (hle:ρ.le q) (y:∀k,k≠l->q k=ρ k) (F:q l=D loc) (R:w.heap.size<=loc.block) (ab:b.lB=X) (Q:ke q p loc b) (V:p.os=w.os) (ae:p.tape=w.tape) (W:p.output=w.output)
  (ad:w.heap.size<=p.heap.size) (E:∀k,k<w.heap.size->p.heap[k]? =w.heap[k]?):fK ρ0 H0 w0 N (λk=>if k=l then D b else jI k) q H p:=by
 have hold:∀k i,H.live k->q k=D i->ρ k=D i:=λk i y e=>by
  obtain⟨M,o,_⟩:=m.rel.zp y;have:=hle _ _ o;rw[e]at this;cases this;exact o
 have K:∀k,jW q H k->jW ρ H k:=by
  rintro k ⟨l',i,a,c,n⟩;exact⟨l',i,a,hold _ _ a.live c,n⟩
 have aa:∀k,jW ρ H k->k<w.heap.size:=by
  rintro k ⟨l',i,a,c,n⟩;obtain⟨M,o,L⟩:=m.rel.zp a.live;rw[c]at o;cases o;rw[<-n];exact L
 refine⟨m.uz,Env.le_trans m.le hle,m.next,λk h=> ?_,m.rel.grow hle E,V.trans m.os,ae.trans m.tape,W.trans m.output,Nat.le_trans m.size ad,λk a c=> ?_,
  λk h=>m.own k (K k h),m.ro,λk a c n=> ?_,λk ct h=> ?_,λk v A B M ah h a8 T e x=> ?_⟩
 ·rw[y k (by have:=m.next;omega)];exact m.a1 k h
 ·rw[E k (Nat.lt_of_lt_of_le a m.size)];exact m.frame k a c
 ·by_cases d:k=l
  ·subst d;simp at n
  ·simp only[d,if_false]at n;rw[y k d];exact m.fresh k a c n
 ·by_cases d:k=l
  ·subst d;simp only[if_true,aZ]at h;subst h;exact⟨S,P,ab,loc,F,Q,Nat.le_trans m.size R,λG=>by have:=aa _ (K _ G);omega⟩
  ·simp only[d,if_false]at h;obtain⟨o,L,s,i,j,u,af,ag⟩:=m.kH k ct h;exact⟨o,L,s,i,hle _ _ j,u.frame hle (E _ (u.lt s)),af,λG=>ag (K _ G)⟩
 ·by_cases d:k=l
  ·by_cases z:v=l
   ·omega
   ·subst d;simp only[z,if_false]at a8;obtain⟨_,_,s,i,j,u,_,_⟩:=m.kH v B a8;have:=hle _ _ j;rw[x]at this;cases this;rw[F]at e;cases e;have:=u.lt s;omega
  ·by_cases z:v=l
   ·subst z;simp only[d,if_false]at h;obtain⟨_,_,s,i,j,u,_,_⟩:=m.kH k A h;have:=hle _ _ j;rw[e]at this;cases this;rw[F]at x;cases x;have:=u.lt s;omega
   ·simp only[d,if_false]at h;simp only[z,if_false]at a8;obtain⟨_,_,_,ai,j,_⟩:=m.kH k A h;obtain⟨_,_,_,aj,O,_⟩:=m.kH v B a8;have a:=hle _ _ j;rw[e]at a;cases a;have c:=hle _ _ O;rw[x]at c;cases c;exact m.sep k v A B _ _ h a8 T j O
def fK.Kx{b:cb}(m:fK ρ0 H0 w0 N jI ρ H w)(aF:jI H.next=D b):fK ρ0 H0 w0 N (λk=>if k=H.next then C else jI k) ρ (H.push b) w:=by
 obtain⟨_,W,P,loc,j,y,Q,R⟩:=m.kH _ _ aF;have z:∀k,(H.push b).rw k->k≠H.next->H.rw k:=λk h c=>by simpa [af.rw,af.dS c]using h
 have E:∀k,(H.push b).live k->k≠H.next->H.live k:=λk h c=>by simpa [af.live,af.dS c]using h
 have A:∀k d,H.live k->ρ k=D d->d.block≠loc.block:=by
  intro k d c e heq;by_cases x:H.rw k
  ·exact R ⟨k,d,x,e,heq⟩
  ·rcases c with⟨ro,esz,els,c⟩|c
   ·cases ro with
    |false=>exact x (.inl ⟨_,_,c⟩)
    |true=>
     have M:=m.ro _ _ _ c;obtain⟨aa,bb,F⟩:=m.uz.zp (.inl ⟨_,_,_,M⟩);have:=m.le _ _ bb;rw[e]at this;cases this;omega
   ·exact x (.inr c)
 have B:∀k,jW ρ (H.push b) k->jW ρ H k\/k=loc.block:=by
  rintro k ⟨l',d,u,o,p⟩;by_cases a:l'=H.next
  ·subst a;rw[j]at o;cases o;exact .inr p.symm
  ·exact .inl ⟨l',d,z _ u a,o,p⟩
 refine⟨m.uz,m.le,by have:=m.next;simp;omega,m.a1,⟨λl ro esz els h=> ?_,λl es h=> ?_,λl t esz els h=> ?_,λl l' q s h a8 v e n=> ?_⟩,m.os,m.tape,m.output,m.size,m.frame,
  λk h=> ?_,λl esz els h=>m.ro l esz els (af.Iy (cb.lB.ro P) l esz els h),λl u o p=> ?_,λl ct h=> ?_,λl l' K L q s h a8 v e n=> ?_⟩
 ·by_cases a:l=H.next
  ·subst a;rw[af.bY]at h;simp only[aZ]at h;subst h;exact⟨loc,j,y⟩
  ·rw[af.dS a]at h;exact m.rel.row _ _ _ _ h
 ·by_cases a:l=H.next
  ·subst a;rw[af.bY]at h;simp only[aZ]at h;subst h;exact⟨loc,j,y⟩
  ·rw[af.dS a]at h;exact m.rel.map _ _ h
 ·by_cases a:l=H.next
  ·subst a;rw[af.bY]at h;simp only[aZ]at h;subst h;exact⟨loc,j,y⟩
  ·rw[af.dS a]at h;exact m.rel.ck _ _ _ _ h
 ·by_cases a:l=H.next
  ·by_cases i:l'=H.next
   ·omega
   ·subst a;rw[j]at e;cases e;exactλheq=>A l' s (E _ a8 i) n heq.symm
  ·by_cases i:l'=H.next
   ·subst i;rw[j]at n;cases n;exact A l q (z _ h a).live e
   ·exact m.rel.apart l l' q s (z _ h a) (E _ a8 i) v e n
 ·rcases B k h with h|rfl
  ·exact m.own k h
  ·exact .inr Q
 ·simp only[af.ch]at u;have a:l≠H.next:=ae
  simp only[a,if_false]at p;exact m.fresh l ae o p
 ·by_cases a:l=H.next
  ·simp[a]at h
  ·simp only[a,if_false]at h;obtain⟨bb,F,S,d,G,T,V,iF⟩:=m.kH l ct h;refine⟨by simp;omega,F,S,d,G,T,V,λO=> ?_⟩;rcases B _ O with a8|a8
   ·exact iF a8
   ·exact m.sep l H.next ct b d loc h aF a G j a8
 ·by_cases a:l=H.next
  ·simp[a]at h
  ·by_cases i:l'=H.next
   ·simp[i]at a8
   ·simp only[a,if_false]at h;simp only[i,if_false]at a8;exact m.sep l l' K L q s h a8 v e n
end
def rB(P:Program)(H:af)(r:aa)(name:String):Option (Nat×aa):=
 match r with
 | .iface t v=>(match P.info? t with
  |some i=>(match i.methods.find? (·.name==name)with
   |some m=>(match m.path.toList,m.func,P.underlying t with
    |[],D (f,X),D (.pointer _)=>D (f,v)
    |[],D (f,U),D (.pointer e)=>(match v with
     | .ptr .. =>(ao P H e v).bind λu=>D (f,u)
     |_=>C)
    |_,_,_=>C)
   |none=>C)
  |none=>C)
 |_=>C
def IP{P:Program}{w:World}{n:Nat}{t:TypeId}{v:Value}{name:String}{i:TypeInfo}{m:Method}{f:FuncId}{a:Bool}(d:P.info? t=D i)(hm:i.methods.find? (·.name==name)=D m)(aF:m.path.toList=[])(c:m.func=D (f,a)){x:Value}
  (j:(receiverAt t (.val v) a (D ((name.splitOn ".").getLastD name))).run P w= .ok x w):(method (n+1) t v name).run P w= .ok (f,x) w:=by
 have e:m.path.isEmpty=true:=by simpa using aF
 have h:(typeInfo t).run P w= .ok i w:=by simp[typeInfo,d]
 unfold method;simp only[Sem.run_bind,h,Result.andThen_ok,hm,aF,follow,Sem.run_pure,c,e,if_true,j]
def LY{P:Program}{ρ:Env}{H:af}{w:World}(s:Rel ρ H w){r u:aa}{cL:Value}{name:String}{f:Nat}(h:rB P H r name=D (f,u))(y:bq ρ r cL)(args:Array Value):
  ∃o,bq ρ u o/\(callMethod cL name args).run P w=(callFunc f (#[o]++args)).run P w:=by
 unfold rB at h;split at h
 ·rename_i t v;cases y with|iface _ _ p d=>
  split at h
  ·rename_i i n;split at h
   ·rename_i m hm;have k:P.types.size+Made.depth=(P.types.size+99)+1:=rfl;split at h
    ·rename_i aF a hu;simp only[aZ,cj]at h;obtain⟨rfl,rfl⟩:=h;refine⟨p,d,?_⟩;simp only[callMethod,Sem.run_bind,run_program,Result.andThen_ok,k];rw[IP (x:=p) n hm aF a (by simp only[receiverAt,Sem.run_bind,run_underlying hu,Result.andThen_ok,Place.get,Sem.run_pure])];rfl
    ·rename_i e aF a hu;split at h
     ·rename_i l j c;simp only[dc,aZ,cj]at h;obtain⟨B,q,rfl,rfl⟩:=h;obtain⟨x,aq,aH⟩:=x9 s q d;cases d with|ptr _ _ _ loc A=>
      refine⟨x,aH,?_⟩;have bu:(loadVar e ⟨loc.block,loc.off+j*loc.esz+c,C⟩).run P w= .ok x w:=by simpa [Instr.loadAt,Instr.sureAddr]using aq
      have z:∀cC:String,(Builtin.ssaWrapNilChk_ #[t] t #[.pointer (D ⟨loc.block,loc.off+j*loc.esz+c,C⟩),strVal "",strVal cC]).run P w= .ok (.pointer (D ⟨loc.block,loc.off+j*loc.esz+c,C⟩)) w:=λcC=>rfl
      simp only[callMethod,Sem.run_bind,run_program,Result.andThen_ok,k];rw[IP (x:=x) n hm aF a (by simp only[receiverAt,Sem.run_bind,run_underlying hu,Result.andThen_ok,Place.get,Sem.run_pure,z,asAddr,bu])];rfl
     ·cases h
    ·cases h
   ·cases h
  ·cases h
 ·cases h
def nm(P:Program)(H:af)(ad:bl)(c:Call):Option (Nat×List aa):=
 match c.callee with
 | .value f=>match cu ad f with
  |some (.func (.func g) first captured)=>match ix ad c.args.toList with
   |some a=>D (g,first++a++captured)
   |none=>C
  |_=>C
 | .invoke r name=>match cu ad r with
  |some v=>match rB P H v name,ix ad c.args.toList with
   |some (g,u),D a=>D (g,u::a)
   |_,_=>C
  |none=>C
 |_=>C
inductive K where
 |skip
 |pure (v:aa)
 |read (v:aa)
 |new (v:aa) (b:cb)
 |eL (v:aa) (H:af)
def K.val:K->aa
 | .skip=> .tuple []
 | .pure v=>v
 | .read v=>v
 | .new v _=>v
 | .eL v _=>v
def K.heap(H:af):K->af
 | .new _ b=>H.push b
 | .eL _ H'=>H'
 |_=>H
def K.fF:K->Bool
 | .new _ _=>X
 | .eL _ _=>X
 |_=>U
abbrev aD:=Nat->List aa->af->Option (aa×af)
def y9:Option aa->Option K
 |some v=>D (.pure v)
 |none=>C
def r1:Option aa->Option K
 |some v=>D (.read v)
 |none=>C
def FP:Option (aa×cb)->Option K
 |some (v,b)=>D (.new v b)
 |none=>C
def rX(H:af):Option (aa×af)->Option K
 |some (v,H')=>if H.next<=H'.next then D (.eL v H')else C
 |none=>C
inductive K_ where
 |pure|read|both|new|write|call
def cls:Op->K_
 | .load .. => .read
 | .lookup .. => .read
 | .alloc _=> .new
 | .box .. => .new
 | .buildSlice .. => .new
 | .makeMap .. => .new
 | .makeSlice .. => .new
 | .store .. => .write
 | .mapUpdate .. => .write
 | .insert .. => .write
 | .convert .. => .both
 | .call c=>match c.callee with
  | .builtin .append=> .write
  | .builtin .clear=> .write
  | .builtin _=> .both
  |_=> .call
 |_=> .pure
def step1(P:Program)(call:aD)(o:Op)(ad:bl)(H:af):Option K:=
 match cls o with
 | .pure=>y9 (kj P o ad)
 | .read=>r1 (iw P o ad H)
 | .both=>match kj P o ad with
  |some v=>D (.pure v)
  |none=>r1 (iw P o ad H)
 | .new=>FP (kQ P o ad H.next)
 | .write=>rX H (l9 P o ad H)
 | .call=>match o with
  | .call c=>match nm P H ad c with
   |some (g,a)=>rX H (call g a H)
   |none=>C
  |_=>C
def qc(o:Op):Bool:=match cls o with
 | .new=>X
 | .write=>X
 | .call=>X
 |_=>U
def UF{P:Program}{call:aD}{o:Op}{ad:bl}{H:af}{k:K}(h:step1 P call o ad H=D k)(c:k.fF=X):qc o=true:=by
 unfold step1 at h;unfold qc;split at h
 ·unfold y9 at h;split at h
  ·simp only[aZ]at h;subst h;cases c
  ·cases h
 ·unfold r1 at h;split at h
  ·simp only[aZ]at h;subst h;cases c
  ·cases h
 ·split at h
  ·simp only[aZ]at h;subst h;cases c
  ·unfold r1 at h;split at h
   ·simp only[aZ]at h;subst h;cases c
   ·cases h
 ·rename_i a;rw[a]
 ·rename_i a;rw[a]
 ·rename_i a;rw[a]
def ng(P:Program)(call:aD)(o:Op)(ad:bl)(H:af):K->Prop
 | .skip=>False
 | .pure v=>kj P o ad=D v
 | .read v=>iw P o ad H=D v
 | .new v b=>kQ P o ad H.next=D (v,b)
 | .eL v H'=>H.next<=H'.next/\(l9 P o ad H=D (v,H')\/∃c g a,o= .call c/\nm P H ad c=D (g,a)/\call g a H=D (v,H'))
def UG{P:Program}{call:aD}{o:Op}{ad:bl}{H:af}{k:K}(h:step1 P call o ad H=D k):ng P call o ad H k:=by
 unfold step1 at h;split at h
 ·unfold y9 at h;split at h
  ·rename_i v a;simp only[aZ]at h;subst h;exact a
  ·cases h
 ·unfold r1 at h;split at h
  ·rename_i v a;simp only[aZ]at h;subst h;exact a
  ·cases h
 ·split at h
  ·rename_i v a;simp only[aZ]at h;subst h;exact a
  ·unfold r1 at h;split at h
   ·rename_i v a;simp only[aZ]at h;subst h;exact a
   ·cases h
 ·unfold FP at h;split at h
  ·rename_i v b a;simp only[aZ]at h;subst h;exact a
  ·cases h
 ·unfold rX at h;split at h
  ·rename_i v H' a;split at h
   ·rename_i d;simp only[aZ]at h;subst h;exact⟨d,.inl a⟩
   ·cases h
  ·cases h
 ·split at h
  ·rename_i c _;split at h
   ·rename_i g i e;unfold rX at h;split at h
    ·rename_i v H' a;split at h
     ·rename_i d;simp only[aZ]at h;subst h;exact⟨d,.inr ⟨c,g,i,rfl,e,a⟩⟩
     ·cases h
    ·cases h
   ·cases h
  ·cases h
section congr
variable {P:Program}{ad bj:bl}
def pU:∀{xs:List Operand},(∀x∈xs,cu ad x=cu bj x)->ix ad xs=ix bj xs
 |[],_=>rfl
 |x::xs,h=>by
  simp only[ix,h x (by simp),pU (xs:=xs) λy a=>h y (by simp[a])]
def yc:∀{xs:List (Nat×Operand)},(∀x∈xs.map (·.2),cu ad x=cu bj x)->ki ad xs=ki bj xs
 |[],_=>rfl
 |(i,x)::xs,h=>by
  simp only[ki,h x (by simp),yc (xs:=xs) λy a=>h y (by simp at a ⊢;exact .inr a)]
def ye{x:Option Operand}(h:∀y,x=D y->cu ad y=cu bj y):lq ad x=lq bj x:=by
 cases x with
 |none=>rfl
 |some x=>simp only[lq,h x rfl]
def Mf{o:Op}(h:∀x∈o.operands,cu ad x=cu bj x):kj P o ad=kj P o bj:=by
 cases o<;>simp only[kj,Op.operands]at h ⊢ <;>first
  |rfl
  |(simp at h;simp[h];done)
  |skip
 ·rename_i t k;rw[yc λx a=>h x (by simpa using a)]
 ·rename_i fn f c;rw[pU λx a=>h x (by simp at a ⊢;exact .inl a),pU (xs:=c.toList) λx a=>h x (by simp at a ⊢;exact .inr a)]
 ·rename_i t x lo i j;rw[h x (by simp),ye (x:=lo) λy d=>h y (by simp[d]),ye (x:=i) λy d=>h y (by simp[d]),ye (x:=j) λy d=>h y (by simp[d])]
 ·rename_i c;cases e:c.callee with
  |builtin b=>
   simp only[Call.operands,e]at h ⊢;rw[pU λx a=>h x (by simpa using a)]
  |value f=>rfl
  |invoke r m=>rfl
def B0{o:Op}{H:af}(h:∀x∈o.operands,cu ad x=cu bj x):iw P o ad H=iw P o bj H:=by
 cases o<;>simp only[iw,Op.operands]at h ⊢ <;>first
  |rfl
  |(simp at h;simp[h];done)
  |skip
 ·rename_i c;cases a:c.callee with
  |builtin b=>
   simp only[Call.operands,a]at h ⊢;rw[pU λx d=>h x (by simpa using d)]
  |value f=>rfl
  |invoke r m=>rfl
def L0{o:Op}{H:af}(h:∀x∈o.operands,cu ad x=cu bj x):pT P o ad H=pT P o bj H:=by
 cases o<;>simp only[pT,Op.operands]at h ⊢ <;>first
  |rfl
  |(simp at h;simp[h];done)
  |skip
 ·rename_i t n c;rw[yc λx a=>h x (by simpa using a)]
 ·rename_i t r;cases r<;>rfl
def L2{o:Op}{l:Nat}(h:∀x∈o.operands,cu ad x=cu bj x):kQ P o ad l=kQ P o bj l:=by
 unfold kQ;rw[L0 h]
def Mr{o:Op}{H:af}(h:∀x∈o.operands,cu ad x=cu bj x):l9 P o ad H=l9 P o bj H:=by
 cases o<;>simp only[l9,Op.operands]at h ⊢ <;>first
  |rfl
  |(simp at h;simp[h];done)
  |skip
 ·rename_i c;cases i:c.callee with
  |builtin b=>
   simp only[Call.operands,i]at h ⊢;cases d:c.args.toList with
   |nil=>cases b<;>rfl
   |cons s r=>
    cases r with
    |nil=>
     have a:s∈c.args.toList:=by simp[d]
     cases b<;>first
      |rfl
      |(simp only;rw[h s (by simpa using a)])
    |cons x r=>
     cases r with
     |nil=>
      have a:s∈c.args.toList:=by simp[d]
      have e:x∈c.args.toList:=by simp[d]
      cases b<;>first
       |rfl
       |(simp only;rw[h s (by simpa using a),h x (by simpa using e)])
     |cons y r=>cases b<;>rfl
  |value f=>rfl
  |invoke r m=>rfl
def Ls{c:Call}{H:af}(h:∀x∈c.operands,cu ad x=cu bj x):nm P H ad c=nm P H bj c:=by
 unfold nm;cases d:c.callee with
 |builtin b=>rfl
 |value f=>
  simp only[Call.operands,d]at h ⊢;rw[h f (by simp),pU λx a=>h x (by simp at a ⊢;exact .inr a)]
 |invoke r m=>
  simp only[Call.operands,d]at h ⊢;rw[h r (by simp),pU λx a=>h x (by simp at a ⊢;exact .inr a)]
def ng.congr{call:aD}{o:Op}{H:af}{k:K}(h:∀x∈o.operands,cu ad x=cu bj x)(a:ng P call o ad H k):ng P call o bj H k:=by
 cases k with
 |skip=>exact a
 |pure v=>exact(Mf h).symm.trans a
 |read v=>exact(B0 h).symm.trans a
 |new v b=>exact(L2 h).symm.trans a
 |eL v H'=>
  obtain⟨e,d|⟨c,g,j,rfl,d,i⟩⟩:=a
  ·exact⟨e,.inl ((Mr h).symm.trans d)⟩
  ·exact⟨e,.inr ⟨c,g,j,rfl,(Ls h).symm.trans d,i⟩⟩
end congr
def ov(P:Program)(m:Sem Next)(w:World)(next:Value->World->Prop):Prop:=
 match m.run P w with
 | .ok (.value x) a=>next x a
 | .ok (.enter f args) a=>Calls P f args a λ
  | .returned x,c=>next x c
  |_,_=>False
 |_=>False
def kf(E:Env)(P:Program)(g:Nat)(args:List aa)(H:af)(v:aa)(H':af):Prop:=∀(ρ:Env) (w:World) (xs:List Value),Rel ρ H w->jz E ρ H.next H'.next->bL ρ args xs->H.next<=H'.next->∀next:Value->World->Prop,(∀x a c,bq c v x->Step ρ H w c H' a->next x a)->ov P (callFunc g xs.toArray) w next
def kN(E:Env)(P:Program)(call:aD):Prop:=∀g args H v H',call g args H=D (v,H')->kf E P g args H v H'
section
variable {E:Env}{P:Program}{call:aD}{ρ:Env}{H H':af}{w:World}{ad:bl}{a:Act}{o:Oper}{v:aa}{l2:Act->World->Prop}{Q:Exit->Act->World->Prop}
def HX(h:kj P o.op ad=D v)(d:ey ρ ad a)(c:∀x,bq ρ v x->l2 (a.put o.dst x) w):o.wp P a w l2 Q:=by
 obtain⟨x,aq,aH⟩:=Mg h d w;unfold Oper.wp;rw[aq];exact c x aH
def Ik(c:Rel ρ H w)(h:iw P o.op ad H=D v)(e:ey ρ ad a)(d:∀x,bq ρ v x->l2 (a.put o.dst x) w):o.wp P a w l2 Q:=by
 obtain⟨x,aq,aH⟩:=Mh c h e;unfold Oper.wp;rw[aq];exact d x aH
def G6{l:Nat}{b:cb}(h:kQ P o.op ad l=D (v,b))(q:ey ρ ad a)(n:ρ l=C)
  (p:∀x c d loc,bq d v x->ρ.le d->(∀k,k≠l->d k=ρ k)->d l=D loc->w.heap.size<=loc.block->b.lB=X->ke d c loc b->
   c.os=w.os->c.tape=w.tape->c.output=w.output->w.heap.size<=c.heap.size->(∀k,k<w.heap.size->c.heap[k]? =w.heap[k]?)->l2 (a.put o.dst x) c):o.wp P a w l2 Q:=by
 obtain⟨x,c,d,loc,aq,aH,bu,cq,er,mc,p2,nr,ns,e,i,j,m⟩:=L3 h q n w;unfold Oper.wp;rw[aq];exact p x c d loc aH bu cq er mc p2 nr ns e i j m
def C4(R:kN E P call)(q:Rel ρ H w)(G:jz E ρ H.next H'.next)(h:ng P call o.op ad H (.eL v H'))(m:ey ρ ad a)
  (s:∀x i k,bq k v x->Step ρ H w k H' i->l2 (a.put o.dst x) i):o.wp P a w l2 Q:=by
 obtain⟨S,A|⟨c,g,af,O,d,N⟩⟩:=h
 ·obtain⟨n,x,i,k,aq,aH,bu,cq⟩:=Ms q A (G.new _ (bo _)) m;unfold Oper.wp;rw[aq];unfold Bk at aH;split at aH
  ·subst aH;exact s _ i k bu cq
  ·subst aH;exact s _ i k bu cq
  ·exact aH.elim
 ·unfold nm at d;split at d
  ·rename_i f F;split at d
   ·rename_i g' first captured V
    split at d
    ·rename_i ab L;simp only[aZ,cj]at d;obtain⟨rfl,rfl⟩:=d;have p:=dJ m V;have B:=pV m L;generalize he:a.eval f=z at p;cases p with|func _ _ _ ku c' bb M=>
     have j:=R _ _ _ _ _ N ρ w _ q G ((bb.append B).append M) S (λx i=>l2 (a.put o.dst x) i) (λx i k=>s x i k);have K:(execOp a.eval o).run P w=(callFunc g' ((ku++c.args.toList.map a.eval++c').toArray)).run P w:=by
      unfold execOp;rw[O];simp only[resolve,F,he,Deferred.ofValue,pure_bind,invoke]
      congr 2
      rw[map_toArray a.eval];simp
     unfold Oper.wp;rw[K];unfold ov at j;split at j
     ·rename_i e;rw[e];exact j
     ·rename_i e;rw[e];refine Calls.mono j λy ae l=> ?_
      cases y<;>first|exact l|exact l.elim
     ·exact j.elim
    ·cases d
   ·cases d
  ·rename_i bM name F;split at d
   ·rename_i v0 W;split at d
    ·rename_i g' u ab hm L;simp only[aZ,cj]at d;obtain⟨rfl,rfl⟩:=d;have p:=dJ m W;have B:=pV m L;obtain⟨aa,bb,M⟩:=LY q hm p (c.args.toList.map a.eval).toArray;have j:=R _ _ _ _ _ N ρ w _ q G (.cons _ _ _ _ bb B) S (λx i=>l2 (a.put o.dst x) i) (λx i k=>s x i k);have K:(execOp a.eval o).run P w=(callFunc g' ((aa::c.args.toList.map a.eval).toArray)).run P w:=by
      unfold execOp;rw[O];simp only[resolve,F,pure_bind,invoke];rw[map_toArray a.eval];have T:(#[a.eval bM]++(c.args.toList.map a.eval).toArray)[0]? =D (a.eval bM):=by simp
      have A:(#[a.eval bM]++(c.args.toList.map a.eval).toArray).extract 1 (#[a.eval bM]++(c.args.toList.map a.eval).toArray).size=(c.args.toList.map a.eval).toArray:=by
       apply Array.ext';simp;exact List.take_of_length_le (by simp)
      rw[T,A];simp only
      rw[M];simp
     unfold Oper.wp;rw[K];unfold ov at j;split at j
     ·rename_i e;rw[e];exact j
     ·rename_i e;rw[e];refine Calls.mono j λy ae l=> ?_
      cases y<;>first|exact l|exact l.elim
     ·exact j.elim
    ·cases d
   ·cases d
  ·cases d
end
def lu(acc:List Nat):List Edge->Nat
 |[]=>0
 |e::es=>if Region.binds .any e then 2^e.on|||(acc[e.on]?.getD 0|||lu acc es)else lu acc es
def nx:List Oper->List Nat->List Nat
 |[],acc=>acc
 |o::os,acc=>nx os (acc++[lu acc o.after.toList])
def ee(ops:Array Oper):List Nat:=nx ops.toList []
def dE(ms:List Nat)(j i:Nat):Bool:=(ms[i]?.getD 0).testBit j
def GP:∀(os pre:List Oper) (acc:List Nat),acc.length=pre.length->(∀i o,pre[i]? =D o->acc[i]? =D (lu (acc.take i) o.after.toList))->
  ∀i o,(pre++os)[i]? =D o->(nx os acc)[i]? =D (lu ((nx os acc).take i) o.after.toList)
 |[],pre,acc,c,h,i,o,d=>by simpa [nx]using h i o (by simpa using d)
 |p::os,pre,acc,c,h,i,o,d=>by
  unfold nx;refine GP os (pre++[p]) _ (by simp[c]) (λj q a=> ?_) i o (by simpa using d);rcases Nat.lt_or_ge j pre.length with k|e
  ·rw[List.getElem?_append_left k]at a;rw[List.getElem?_append_left ae,h j q a,List.take_append_of_le_length ae]
  ·rw[List.getElem?_append_right e]at a;have:j=pre.length:=by
    have:=(List.getElem?_eq_some_iff.1 a).1;simp at this;omega
   subst this;simp at a;subst a;rw[List.getElem?_append_right ae,<-c];simp
def GQ{ops:Array Oper}{i:Nat}{o:Oper}(h:ops[i]? =D o):(ee ops)[i]? =D (lu ((ee ops).take i) o.after.toList):=
 GP ops.toList [] [] rfl (by simp) i o (by simpa using h)
def yy{acc:List Nat}{e:Edge}:∀{es:List Edge},e∈es->Region.binds .any e=X->(lu acc es).testBit e.on=X
 |[],h,_=>by simp at h
 |d::es,h,a=>by
  unfold lu;rcases List.mem_cons.1 h with rfl|h
  ·rw[if_pos a];simp[Nat.testBit_two_pow_self]
  ·split
   ·simp[yy h a]
   ·exact yy h a
def yx{acc:List Nat}{j:Nat}:∀{es:List Edge},(lu acc es).testBit j=X->∃e∈es,Region.binds .any e=X/\(j=e.on\/(acc[e.on]?.getD 0).testBit j=X)
 |[],h=>by simp[lu]at h
 |d::es,h=>by
  unfold lu at h;split at h
  ·rename_i k;simp only[Nat.testBit_or,Bool.or_eq_true]at h;rcases h with h|h|h
   ·refine⟨d,by simp,k,.inl ?_⟩;rw[Nat.testBit_two_pow]at h;simpa using(of_decide_eq_true h).symm
   ·exact⟨d,by simp,k,.inr h⟩
   ·obtain⟨e,a,c,i⟩:=yx h;exact⟨e,by simp[a],c,i⟩
  ·obtain⟨e,a,c,i⟩:=yx h;exact⟨e,by simp[a],c,i⟩
def rr(L:Nat->Bool)(o:Oper):Prop:=∀e∈o.after,Region.binds .any e=X->L e.on=X
def ta(ops:Array Oper)(L:Nat->Bool):Prop:=∀i o,ops[i]? =D o->L i=X->rr L o
def l_{ops:Array Oper}{L:Nat->Bool}(q:ta ops L):∀(i:Nat) (o:Oper),ops[i]? =D o->rr L o->∀j,dE (ee ops) j i=X->L j=true:=by
 intro i
 induction i using Nat.strongRecOn with
 |_ i h=>
  intro o s hw j c;unfold dE at c;rw[GQ s]at c;simp only[Option.getD_some]at c;obtain⟨e,n,p,a⟩:=yx c;have k:=hw e (by simpa using n) p;rcases a with rfl|a
  ·exact k
  ·rcases Nat.lt_or_ge e.on i with l|x
   ·rw[List.getElem?_take_of_lt l]at a;cases d:ops[e.on]? with
    |none=>
     cases hm:(ee ops)[e.on]? with
     |none=>rw[hm]at a;simp at a
     |some m=>
      exfalso;have hlen:∀(os:List Oper) (acc:List Nat),(nx os acc).length=acc.length+os.length:=by
       intro os
       induction os with
       |nil=>intro acc;simp[nx]
       |cons o os h=>intro acc;simp[nx,h];omega
      have u:=(List.getElem?_eq_some_iff.1 hm).1;have v:(ee ops).length=ops.size:=by unfold ee;rw[hlen];simp
      have w:ops.size<=e.on:=by simpa using d
      omega
    |some sc=>exact h e.on l sc d (q _ _ d k) j a
   ·rw[List.getElem?_eq_none (by simp;omega)]at a;simp at a
def Mz{ops:Array Oper}{i:Nat}{o:Oper}(c:ops[i]? =D o){e:Edge}(he:e∈o.after)(a:Region.binds .any e=X):dE (ee ops) e.on i=true:=by
 unfold dE;rw[GQ c];exact yy (by simpa using he) a
def l8(ops:Array Oper)(ad:bl)(o:Oper):Bool:=
 match o.guard with
 |none=>X
 |some (j,want)=>match ops[j]? with
  |some q=>(match q.dst with
   |some d=>(match ad.get d with
    | .bool b=>b==want
    |_=>U)
   |none=>U)
  |none=>U
def B_{ρ:Env}{ops:Array Oper}{ad:bl}{a:Act}(i:ey ρ ad a)(o:Oper):Region.wanted o (yielded ops a.tmps)=l8 ops ad o:=by
 unfold Region.wanted l8;cases l:o.guard with
 |none=>rfl
 |some p=>
  obtain⟨j,want⟩:=p;simp only
  unfold yielded;cases m:ops[j]? with
  |none=>simp
  |some q=>
   cases e:q.dst with
   |none=>simp[e]
   |some d=>
    simp only[Option.bind_some,e];have c:=i.get d;rw[Array.getD_eq_getD_getElem?]at c;cases h:a.tmps[d]? with
    |none=>
     rw[h]at c;simp only[Option.getD_none]at c;generalize k:ad.get d=v at c;cases v<;>first|rfl|(exfalso;cases c)
    |some x=>
     rw[h]at c;simp only[Option.getD_some]at c;generalize k:ad.get d=v at c;cases c<;>first|rfl|(simp;done)
def Mq{ops:Array Oper}{ad bj:bl}{o:Oper}(h:∀d∈o.looksAt ops,ad.get d=bj.get d):l8 ops ad o=l8 ops bj o:=by
 unfold l8;cases c:o.guard with
 |none=>rfl
 |some p=>
  obtain⟨j,want⟩:=p;simp only
  cases e:ops[j]? with
  |none=>rfl
  |some q=>
   cases a:q.dst with
   |none=>simp[a]
   |some d=>
    simp only[a];rw[h d (by simp[Oper.looksAt,c,e,a])]
def Mp{ops:Array Oper}{ad bj:bl}{o:Oper}(h:∀d∈o.looksAt ops,ad.get d=bj.get d):∀x∈o.op.operands,cu ad x=cu bj x:=by
 intro x a;cases x with
 |tmp t=>
  simp only[cu];rw[h t ?_];unfold Oper.looksAt;refine List.mem_append.2 (.inl ?_);rw[List.mem_filterMap];exact⟨.tmp t,by simpa using a,rfl⟩
 |const v=>rfl
 |global g=>rfl
 |func f=>rfl
structure b1 where
 i:Nat
 o:Oper
 ad:bl
 k:K
def iU(P:Program)(call:aD)(ops:Array Oper)(o:Oper)(ad:bl)(H:af):Option K:=
 match l8 ops ad o with
 |true=>step1 P call o.op ad H
 |false=>D .skip
def canRun(P:Program)(call:aD)(ops:Array Oper):List Nat->bl->af->Option (List b1×bl×af)
 |[],ad,H=>D ([],ad,H)
 |i::is,ad,H=>match ops[i]? with
  |none=>C
  |some o=>match iU P call ops o ad H with
   |none=>C
   |some k=>match ad.put o.dst k.val with
    |none=>C
    |some bj=>match canRun P call ops is bj (k.heap H)with
     |none=>C
     |some (T,cU,b5)=>D (⟨i,o,ad,k⟩::T,cU,b5)
def cI:List b1->af->af
 |[],H=>H
 |t::ts,H=>cI ts (t.k.heap H)
def lz(A B:List b1)(H:af):cI (A++B) H=cI B (cI A H):=by
 induction A generalizing H with
 |nil=>rfl
 |cons t A a=>simp[cI,a]
def gO(L:Nat->Bool)(d:Nat):List b1->aa->aa
 |[],v=>v
 |t::ts,v=>gO L d ts (if L t.i=X/\t.o.dst=D d then t.k.val else v)
def Ad(L:Nat->Bool)(d:Nat)(A B:List b1)(v:aa):gO L d (A++B) v=gO L d B (gO L d A v):=by
 induction A generalizing v with
 |nil=>rfl
 |cons t A a=>simp[gO,a]
def uy{L L':Nat->Bool}{d:Nat}:∀{A:List b1} {v:aa},(∀t∈A,t.o.dst=D d->L t.i=L' t.i)->gO L d A v=gO L' d A v
 |[],_,_=>rfl
 |t::A,v,h=>by
  simp only[gO];have:(L t.i=X/\t.o.dst=D d)↔(L' t.i=X/\t.o.dst=D d):=by
   constructor
   ·rintro⟨c,a⟩;exact⟨by rw[<-h t (by simp) a];exact c,a⟩
   ·rintro⟨c,a⟩;exact⟨by rw[h t (by simp) a];exact c,a⟩
  simp only[this];exact uy λu hu=>h u (by simp[hu])
def wE{L:Nat->Bool}{d:Nat}:∀{A:List b1} {v:aa},(∀t∈A,t.o.dst=D d->L t.i=U)->gO L d A v=v
 |[],_,_=>rfl
 |t::A,v,h=>by
  simp only[gO];rw[if_neg (by rintro⟨a,c⟩;rw[h t (by simp) c]at a;cases a)];exact wE λu hu=>h u (by simp[hu])
def mb{P:Program}{call:aD}{ops:Array Oper}:∀{is:List Nat} {ad:bl} {H:af} {T:List b1} {cU:bl} {b5:af},canRun P call ops is ad H=D (T,cU,b5)->
  T.map (·.i)=is/\b5=cI T H/\cU.size=ad.size/\∀d,cU.get d=gO (λ_=>X) d T (ad.get d)
 |[],ad,H,T,cU,b5,h=>by
  simp only[canRun,aZ,cj]at h;obtain⟨rfl,rfl,rfl⟩:=h;exact⟨rfl,rfl,rfl,λ_=>rfl⟩
 |i::is,ad,H,T,cU,b5,h=>by
  simp only[canRun]at h;split at h
  ·cases h
  ·rename_i o m;split at h
   ·cases h
   ·rename_i k l;split at h
    ·cases h
    ·rename_i bj a;split at h
     ·cases h
     ·rename_i j e c a8;simp only[aZ,cj]at h;obtain⟨rfl,rfl,rfl⟩:=h;obtain⟨aq,aH,bu,cq⟩:=mb a8;refine⟨by simp[aq],aH,by rw[bu,bl.sU a],λd=> ?_⟩;rw[cq d,bl.tI a d];simp[gO]
def yn{P:Program}{call:aD}{ops:Array Oper}:∀{A:List b1} {is:List Nat} {ad:bl} {H:af} {t:b1} {B:List b1} {cU:bl} {b5:af},canRun P call ops is ad H=D (A++t::B,cU,b5)->
  ops[t.i]? =D t.o/\(∀d,t.ad.get d=gO (λ_=>X) d A (ad.get d))/\iU P call ops t.o t.ad (cI A H)=D t.k/\(∀d,t.o.dst=D d->d<ad.size)
 |A,[],ad,H,t,B,cU,b5,h=>by
  simp only[canRun,aZ,cj]at h;have:=h.1;simp at this
 |A,i::is,ad,H,t,B,cU,b5,h=>by
  simp only[canRun]at h;split at h
  ·cases h
  ·rename_i o l;split at h
   ·cases h
   ·rename_i k j;split at h
    ·cases h
    ·rename_i bj c;split at h
     ·cases h
     ·rename_i p n m a8;simp only[aZ,cj]at h;obtain⟨a,rfl,rfl⟩:=h;cases A with
      |nil=>
       simp only[List.nil_append,List.cons.injEq]at a;obtain⟨rfl,rfl⟩:=a;refine⟨l,λ_=>rfl,j,λd e=> ?_⟩;simp only at e;rw[e]at c;exact bl.H2 c
      |cons u A=>
       simp only[List.cons_append,List.cons.injEq]at a;obtain⟨rfl,rfl⟩:=a;obtain⟨aq,aH,bu,cq⟩:=yn a8;refine⟨aq,λd=> ?_,bu,λd e=>by rw[<-bl.sU c];exact cq d e⟩;rw[aH d,bl.tI c d];simp[gO]
def ff:af->List b1->Prop
 |_,[]=>True
 |H,t::ts=>H.next<=(t.k.heap H).next/\ff (t.k.heap H) ts
def ff.append:∀{A B:List b1} {H:af},ff H (A++B)->ff H A/\ff (cI A H) B
 |[],_,_,h=>⟨trivial,h⟩
 |_::A,_,_,h=>by
  obtain⟨a,c⟩:=h;obtain⟨d,e⟩:=ff.append (A:=A) c;exact⟨⟨a,d⟩,e⟩
def ff.le:∀{A:List b1} {H:af},ff H A->H.next<=(cI A H).next
 |[],_,_=>bo _
 |_::A,_,h=>Nat.le_trans h.1 (ff.le (A:=A) h.2)
def rZ{P:Program}{call:aD}{ops:Array Oper}{o:Oper}{ad:bl}{H:af}{k:K}(h:iU P call ops o ad H=D k):
  (l8 ops ad o=X/\ng P call o.op ad H k)\/(l8 ops ad o=U/\k= .skip):=by
 unfold iU at h;split at h
 ·rename_i hw;exact .inl ⟨hw,UG h⟩
 ·rename_i hw;simp only[aZ]at h;exact .inr ⟨hw,h.symm⟩
def FM{P:Program}{call:aD}{ops:Array Oper}{o:Oper}{ad:bl}{H:af}{k:K}(h:iU P call ops o ad H=D k)(a:k.fF=X):qc o.op=true:=by
 unfold iU at h;split at h
 ·exact UF h a
 ·simp only[aZ]at h;subst h;cases a
def y7{P:Program}{call:aD}{ops:Array Oper}{o:Oper}{ad:bl}{H:af}{k:K}(h:iU P call ops o ad H=D k):H.next<=(k.heap H).next:=by
 rcases rZ h with⟨_,h⟩|⟨_,rfl⟩
 ·cases k with
  |eL v H'=>exact h.1
  |new v b=>simp[K.heap]
  |_=>exact bo _
 ·exact bo _
def tt{P:Program}{call:aD}{ops:Array Oper}:∀{is:List Nat} {ad:bl} {H:af} {T:List b1} {cU:bl} {b5:af},canRun P call ops is ad H=D (T,cU,b5)->ff H T
 |[],ad,H,T,cU,b5,h=>by
  simp only[canRun,aZ,cj]at h;obtain⟨rfl,rfl,rfl⟩:=h;trivial
 |i::is,ad,H,T,cU,b5,h=>by
  simp only[canRun]at h;split at h
  ·cases h
  ·rename_i o j;split at h
   ·cases h
   ·rename_i k a;split at h
    ·cases h
    ·split at h
     ·cases h
     ·rename_i e d c a8;simp only[aZ,cj]at h;obtain⟨rfl,rfl,rfl⟩:=h;exact⟨y7 a,tt a8⟩
def eO(L:Nat->Bool):List b1->af->Nat->Option cb
 |[],_,_=>C
 |t::ts,H,l=>match t.k with
  | .new _ b=>if l=H.next then(if L t.i=X then D b else C)else eO L ts (H.push b) l
  |k=>eO L ts (k.heap H) l
def uj{L:Nat->Bool}:∀{T:List b1} {H:af} {l:Nat} {b:cb},ff H T->eO L T H l=D b->H.next<=l
 |[],_,_,_,_,h=>by cases h
 |t::ts,H,l,b,hm,h=>by
  unfold eO at h;split at h
  ·rename_i v ct a;split at h
   ·omega
   ·have:=uj (by have:=hm.2;rwa[a]at this) h;simp at this;omega
  ·have c:=hm.1;have:=uj hm.2 h;omega
def ui{L L':Nat->Bool}:∀{T:List b1} {H:af},(∀t∈T,∀v b,t.k= .new v b->L t.i=L' t.i)->eO L T H=eO L' T H
 |[],_,_=>rfl
 |t::ts,H,h=>by
  funext l
  unfold eO;split
  ·rename_i v b a;rw[h t (by simp) v b a,ui (T:=ts) (λu hu=>h u (by simp[hu]))]
  ·rw[ui (T:=ts) (λu hu=>h u (by simp[hu]))]
def uk{L:Nat->Bool}{t:b1}{ts:List b1}{H:af}(h:∀v b,t.k≠ .new v b):eO L (t::ts) H=eO L ts (t.k.heap H):=by
 funext l
 show(match t.k with
  | .new _ b=>if l=H.next then(if L t.i=X then D b else C)else eO L ts (H.push b) l
  |k=>eO L ts (k.heap H) l)=_
 split
 ·rename_i v b a;exact absurd a (h v b)
 ·rfl
def HK{L L':Nat->Bool}{t:b1}{v:aa}{b:cb}(m:t.k= .new v b)(l:L t.i=U)(o:L' t.i=X):∀{zC zD:List b1} {H:af},ff H (zC++t::zD)->
  (∀u∈zC,L u.i=L' u.i)->(∀u∈zD,L u.i=L' u.i)->
  eO L' (zC++t::zD) H=(λk=>if k=(cI zC H).next then D b else eO L (zC++t::zD) H k)/\eO L (zC++t::zD) H (cI zC H).next=C
 |[],zD,H,hm,e,j=>by
  constructor
  ·funext k
   simp only[List.nil_append,cI,eO,m,l,o,if_true,Bool.false_eq_true,if_false];rw[ui (T:=zD) λu hu _ _ _=>j u hu];split<;>rfl
  ·simp[eO,m,l,cI]
 |c::zC,zD,H,hm,e,j=>by
  obtain⟨w,n⟩:=hm;obtain⟨aq,aH⟩:=HK m l o (zC:=zC) (zD:=zD) n (λu hu=>e u (by simp[hu])) j;by_cases a:∃s ct,c.k= .new s ct
  ·obtain⟨s,ct,a⟩:=a;have hle:(c.k.heap H).next<=(cI zC (c.k.heap H)).next:=(ff.append n).1.le
   rw[a]at aq aH hle;simp only[K.heap,af.ch]at hle aq aH;constructor
   ·funext k
    simp only[List.cons_append,eO,a,cI,K.heap];rw[<-e c (by simp),aq];by_cases p:k=H.next
    ·subst p;simp only[if_true];by_cases d:H.next=(cI zC (H.push ct)).next
     ·omega
     ·simp only[d,if_false]
    ·simp only[p,if_false];by_cases d:k=(cI zC (H.push ct)).next
     ·simp only[d,if_true]
     ·simp only[d,if_false]
   ·simp only[List.cons_append,eO,a,cI,K.heap];rw[if_neg ae];exact aH
  ·have q:∀v b,c.k≠ .new v b:=λv b h=>a ⟨v,b,h⟩
   rw[List.cons_append,uk q,uk q,cI];exact⟨aq,aH⟩
section
mutual
def aa.beq:aa->aa->Bool
 | .bool a,.bool b=>a==b
 | .int k n,.int o m=>decide (k=o)&&decide (n=m)
 | .str s,.str t=>decide (s=t)
 | .ptr l i c,.ptr l' d c'=>decide (l=l')&&decide (i=d)&&decide (c=c')
 | .nilPtr,.nilPtr=>X
 | .aG l i n e c,.aG l' d p j c'=>decide (l=l')&&decide (i=d)&&decide (n=p)&&decide (e=j)&&decide (c=c')
 | .aA,.aA=>X
 | .map l,.map l'=>decide (l=l')
 | .jo,.jo=>X
 | .nilFunc,.nilFunc=>X
 | .iface t v,.iface q u=>decide (t=q)&&aa.beq v u
 | .nilIface,.nilIface=>X
 | .agg xs,.agg h=>hg.beq xs h
 | .tuple xs,.tuple h=>hg.beq xs h
 |_,_=>U
def hg.beq:List aa->List aa->Bool
  |[],[]=>X
  |x::xs,y::a=>aa.beq x y&&hg.beq xs a
  |_,_=>U
 end
mutual
def aa.beq_eq:∀{a b:aa},aa.beq a b=X->a=b:=by
 intro a b h;cases a<;>cases b<;>simp only[aa.beq]at h<;>first
  |(cases h;done)
  |rfl
  |(simp at h;simp[h];done)
  |skip
 ·simp only[Bool.and_eq_true,decide_eq_true_eq]at h;obtain⟨rfl,h⟩:=h;rw[aa.beq_eq h]
 ·rw[hg.beq_eq h]
 ·rw[hg.beq_eq h]
def hg.beq_eq:∀{a b:List aa},hg.beq a b=X->a=b:=by
  intro a b h;cases a with
  |nil=>cases b with
   |nil=>rfl
   |cons y c=>simp[hg.beq]at h
  |cons x xs=>cases b with
   |nil=>simp[hg.beq]at h
   |cons y c=>
    simp only[hg.beq,Bool.and_eq_true]at h;rw[aa.beq_eq h.1,hg.beq_eq h.2]
 end
def ug(ops:Array Oper)(ms:List Nat)(i j:Nat):Bool:=
 match ops[i]?,ops[j]? with
 |some o,D q=>(i != j)&&(!dE ms j i)&&(dE ms i j||o.apart ops q)
 |_,_=>U
def wo(ops:Array Oper)(ms:List Nat):List Nat->Bool
 |[]=>X
 |i::is=>is.all (ug ops ms i)&&wo ops ms is
def HC{ops:Array Oper}{ms:List Nat}:∀{is:List Nat},wo ops ms is=X->is.Pairwise λi j=>ug ops ms i j=X
 |[],_=> .nil
 |i::is,h=>by
  simp only[wo,Bool.and_eq_true,List.all_eq_true]at h;exact .cons h.1 (HC h.2)
def C2(n:Nat)(o:Oper):Bool:=o.after.toList.all λe=> !Region.binds .any e||decide (e.on<n)
def sh(ops:Array Oper)(ms ord:List Nat):Bool:=(List.range ops.size).all (λi=>ord.contains i)&&(ord.all (λi=> !dE ms i i)&&(ops.toList.all (C2 ops.size)&&wo ops ms ord))
def kq(ms:List Nat):List b1->List Nat->Bool
 |[],_=>X
 |t::ts,ids=>match t.k with
  | .eL _ _=>ids.all (λj=>dE ms j t.i)&&kq ms ts (t.i::ids)
  | .new _ _=>kq ms ts (t.i::ids)
  |_=>kq ms ts ids
def vq{ms:List Nat}:∀{A:List b1} {t:b1} {B:List b1} {ids:List Nat} {v:aa} {H:af},kq ms (A++t::B) ids=X->t.k= .eL v H->
  (∀j∈ids,dE ms j t.i=X)/\∀u∈A,u.k.fF=X->dE ms u.i t.i=X
 |[],t,B,ids,v,H,h,l=>by
  simp only[List.nil_append,kq,l,Bool.and_eq_true,List.all_eq_true]at h;exact⟨h.1,λu hu=>by simp at hu⟩
 |c::A,t,B,ids,v,H,h,l=>by
  simp only[List.cons_append,kq]at h;split at h
  ·simp only[Bool.and_eq_true]at h;obtain⟨a,e⟩:=vq h.2 l;refine⟨λj m=>a j (by simp[m]),λu hu d=> ?_⟩;rcases List.mem_cons.1 hu with rfl|hu
   ·exact a _ (by simp)
   ·exact e u hu d
  ·obtain⟨a,e⟩:=vq h l;refine⟨λj m=>a j (by simp[m]),λu hu d=> ?_⟩;rcases List.mem_cons.1 hu with rfl|hu
   ·exact a _ (by simp)
   ·exact e u hu d
  ·rename_i o p;obtain⟨a,e⟩:=vq h l;refine⟨a,λu hu d=> ?_⟩;rcases List.mem_cons.1 hu with rfl|hu
   ·exfalso;cases n:u.k with
    |new v b=>exact p v b n
    |eL v H=>exact o v H n
    |_=>rw[n]at d;cases d
   ·exact e u hu d
def lg(ms:List Nat)(rd:af->Bool)(i:Nat):List b1->af->Bool
 |[],H=>rd H
 |t::ts,H=>if t.k.fF then(dE ms t.i i||rd H)&&(dE ms i t.i||lg ms rd i ts (t.k.heap H))else lg ms rd i ts H
def vC{k:K}(h:k.fF=U)(H:af):k.heap H=H:=by
 cases k<;>first|rfl|cases h
def Bf{ms:List Nat}{rd:af->Bool}{i:Nat}:∀{A B:List b1} {H:af},lg ms rd i (A++B) H=X->(∀u∈A,u.k.fF=X->dE ms i u.i=U)->
  (∀u e,B=u::e->u.k.fF=X/\dE ms u.i i=U)->rd (cI A H)=X
 |[],[],H,h,_,_=>h
 |[],u::B,H,h,_,a=>by
  obtain⟨j,l⟩:=a u B rfl;simp only[List.nil_append,lg,j,if_true,Bool.and_eq_true,Bool.or_eq_true,l]at h;simpa [cI]using h.1
 |t::A,B,H,h,c,a=>by
  simp only[List.cons_append,lg]at h;split at h
  ·rename_i d;simp only[Bool.and_eq_true,Bool.or_eq_true,c t (by simp) d]at h;rw[cI];exact Bf (h.2.resolve_left (by simp)) (λu hu=>c u (by simp[hu])) a
  ·rename_i d;rw[cI,vC (by simpa using d)];exact Bf h (λu hu=>c u (by simp[hu])) a
def qx(P:Program)(o:Op)(ad:bl)(v:aa)(H:af):Bool:=
 match iw P o ad H with
 |some u=>aa.beq u v
 |none=>U
def Ij{P:Program}{o:Op}{ad:bl}{v:aa}{H:af}(h:qx P o ad v H=X):iw P o ad H=D v:=by
 unfold qx at h;split at h
 ·rename_i u hu;rw[hu,aa.beq_eq h]
 ·cases h
def af.only(H:af):af:=match H.get (H.next-1)with
 |some b=>⟨bF.put b H.next .leaf (H.next-1),H.next⟩
 |none=>⟨.leaf,H.next⟩
def af.uf{H:af}{b:cb}{l:Nat}{x:cb}(h:(H.push b).only.get l=D x):l=H.next/\x=b:=by
 have e:(H.push b).get ((H.push b).next-1)=D b:=af.bY H b;unfold af.only at h;rw[e]at h;simp only[af.get,af.ch,Nat.add_sub_cancel]at h;split at h
 ·by_cases a:H.next=l
  ·subst a;rw[bF.tK _ _ _ _ ae]at h;exact⟨rfl,by simpa using h.symm⟩
  ·rw[bF.tJ _ _ _ _ _ a]at h;rw[bF.tG]at h;cases h
 ·cases h
def oR(k:K):Bool:=match k with
 | .eL _ _=>U
 |_=>X
def pY(ms:List Nat)(i:Nat):List b1->Bool->Bool
 |[],_=>U
 |t::ts,s=>match t.k with
  | .new _ _=>(s&&dE ms t.i i&&ts.all λu=>oR u.k)||pY ms i ts (s|| !dE ms t.i i)
  | .eL _ _=>pY ms i ts (s|| !dE ms t.i i)
  |_=>pY ms i ts s
def lE(ms:List Nat)(rd:af->Bool)(i:Nat):List b1->af->Bool->Bool
 |[],_,_=>U
 |t::ts,H,s=>match t.k with
  | .new _ b=>bif s&&dE ms t.i i&&ts.all (λu=>oR u.k)then rd (H.push b).only||lE ms rd i ts (H.push b) (s|| !dE ms t.i i)else lE ms rd i ts (H.push b) (s|| !dE ms t.i i)
  | .eL _ H'=>lE ms rd i ts H' (s|| !dE ms t.i i)
  |_=>lE ms rd i ts H s
def G5{ms:List Nat}{rd:af->Bool}{i:Nat}:∀{T:List b1} {H:af} {s:Bool},lE ms rd i T H s=X->
  ∃A u B v b,T=A++u::B/\u.k= .new v b/\dE ms u.i i=X/\(∀x∈B,oR x.k=X)/\rd ((cI A H).push b).only=X
 |[],H,s,h=>by cases h
 |t::ts,H,s,h=>by
  have d:∀{H':af} {s':Bool},t.k.heap H=H'->lE ms rd i ts H' s'=X->∃A u B v b,t::ts=A++u::B/\u.k= .new v b/\dE ms u.i i=X/\(∀x∈B,oR x.k=X)/\rd ((cI A H).push b).only=true:=by
   intro H' s' e a8;obtain⟨A,u,B,v,b,aq,aH,bu,cq,er⟩:=G5 a8;exact⟨t::A,u,B,v,b,by rw[aq];rfl,aH,bu,cq,by rw[cI,e];exact er⟩
  unfold lE at h;split at h
  ·rename_i v b a;have j:t.k.heap H=H.push b:=by rw[a];rfl
   cases c:(s&&dE ms t.i i&&ts.all λu=>oR u.k)with
   |true=>
    rw[c,aS,Bool.or_eq_true]at h;simp only[Bool.and_eq_true,List.all_eq_true]at c;rcases h with h|h
    ·exact⟨[],t,ts,v,b,rfl,a,c.1.2,c.2,h⟩
    ·exact d j h
   |false=>rw[c,aN]at h;exact d j h
  ·rename_i v H' a;exact d (by rw[a];rfl) h
  ·rename_i l m;refine d (vC ?_ H) h;cases a:t.k with
   |new v b=>exact absurd a (l v b)
   |eL v H'=>exact absurd a (m v H')
   |_=>rfl
def sQ(ms:List Nat)(rd:af->Bool)(i:Nat)(T:List b1)(H:af):Bool:=bif pY ms i T U then lg ms rd i T H||lE ms rd i T H U else lg ms rd i T H
def T8{ms:List Nat}{rd:af->Bool}{i:Nat}{T:List b1}{H:af}(h:sQ ms rd i T H=X):lg ms rd i T H=X\/lE ms rd i T H U=true:=by
 unfold sQ at h;cases a:pY ms i T U with
 |true=>rw[a,aS,Bool.or_eq_true]at h;exact h
 |false=>rw[a,aN]at h;exact .inl h
def nc(P:Program)(ms:List Nat)(a:Nat->Bool)(T:List b1)(H:af):List b1->Bool
 |[]=>X
 |t::ts=>(match t.k with
  | .read v=>a t.i||sQ ms (qx P t.o.op t.ad v) t.i T H
  |_=>X)&&nc P ms a T H ts
def KS{P:Program}{ms:List Nat}{a:Nat->Bool}{T:List b1}{H:af}{t:b1}{v:aa}(c:t.k= .read v):∀{ts:List b1},nc P ms a T H ts=X->t∈ts->a t.i=X\/sQ ms (qx P t.o.op t.ad v) t.i T H=X
 |[],_,hm=>by simp at hm
 |u::ts,h,hm=>by
  simp only[nc,Bool.and_eq_true]at h;rcases List.mem_cons.1 hm with rfl|hm
  ·have:=h.1;rw[c]at this;simpa using this
  ·exact KS c h.2 hm
section
variable {P:Program}{call:aD}{ops:Array Oper}{ord:List Nat}{e_ cU:bl}{H0 b5:af}{T:List b1}{ρ0:Env}{w0:World}{Q:Exit->Act->World->Prop}
def dt(listed:Array Bool)(i:Nat):Bool:=listed.getD i U
def HA{i j:Nat}{o q:Oper}(a:ops[i]? =D o)(c:ops[j]? =D q)(h:ug ops (ee ops) i j=X):
  i≠j/\dE (ee ops) j i=U/\(dE (ee ops) i j=X\/o.apart ops q=X):=by
 unfold ug at h;rw[a,c]at h;simp only[Bool.and_eq_true,bne_iff_ne,ne_eq,Bool.not_eq_true',Bool.or_eq_true]at h;exact⟨h.1.1,h.1.2,h.2⟩
def tied(ops:Array Oper)(ms ord:List Nat)(i:Nat):Bool:=
 ord.all λj=>(j==i)||(match ops[j]? with|some o=> !qc o.op|none=>X)||dE ms j i||dE ms i j
def US{ms ord:List Nat}{i j:Nat}{o:Oper}(h:tied ops ms ord i=X)(c:j∈ord)(d:j≠i)(e:ops[j]? =D o)(a:qc o.op=X):dE ms j i=X\/dE ms i j=true:=by
 unfold tied at h;rw[List.all_eq_true]at h;have:=h j c;rw[e]at this;simpa [d,a]using this
structure Ctx(P:Program)(call:aD)(ops:Array Oper)(ord:List Nat)(e_:bl)(H0:af)(T:List b1)(cU:bl)(b5:af):Prop where
 ay:canRun P call ops ord e_ H0=some (T,cU,b5)
 z7:sh ops (ee ops) ord=true
 eL:kq (ee ops) T []=true
 Vm:nc P (ee ops) (tied ops (ee ops) ord) T H0 T=true
def Ctx.HB(c:Ctx P call ops ord e_ H0 T cU b5):T.Pairwise λt u=>ug ops (ee ops) t.i u.i=true:=by
 have h:=c.z7;simp only[sh,Bool.and_eq_true]at h;have a:=HC h.2.2.2;rw[<-(mb c.ay).1]at a;exact(List.pairwise_map.1 a)
def Ctx.at(c:Ctx P call ops ord e_ H0 T cU b5){A B:List b1}{t:b1}(h:T=A++t::B):
  ops[t.i]? =D t.o/\(∀d,t.ad.get d=gO (λ_=>X) d A (e_.get d))/\iU P call ops t.o t.ad (cI A H0)=D t.k/\(∀d,t.o.dst=D d->d<e_.size):=
 yn (by rw[<-h];exact c.ay)
def Ctx.mem(c:Ctx P call ops ord e_ H0 T cU b5){t:b1}(h:t∈T):ops[t.i]? =D t.o:=by
 obtain⟨A,B,h⟩:=List.append_of_mem h;exact(c.at h).1
def Ctx.before(c:Ctx P call ops ord e_ H0 T cU b5){A B:List b1}{t:b1}(h:T=A++t::B){u:b1}(hu:u∈A):
  u.i≠t.i/\dE (ee ops) t.i u.i=U/\(dE (ee ops) u.i t.i=X\/u.o.apart ops t.o=X):=by
 have aF:=c.HB;rw[h,List.pairwise_append]at aF;exact HA (c.mem (by rw[h];simp[hu])) (c.mem (by rw[h];simp)) (aF.2.2 u hu t (by simp))
def Ctx.after(c:Ctx P call ops ord e_ H0 T cU b5){A B:List b1}{t:b1}(h:T=A++t::B){u:b1}(hu:u∈B):
  t.i≠u.i/\dE (ee ops) u.i t.i=U/\(dE (ee ops) t.i u.i=X\/t.o.apart ops u.o=X):=by
 have aF:=c.HB;rw[h,List.pairwise_append,List.pairwise_cons]at aF;exact HA (c.mem (by rw[h];simp)) (c.mem (by rw[h];simp[hu])) (aF.2.1.1 u hu)
def Ctx.looks(c:Ctx P call ops ord e_ H0 T cU b5){A B:List b1}{t:b1}(h:T=A++t::B){L:Nat->Bool}(e:ta ops L)(hw:rr L t.o)(l:L t.i=U):
  ∀d∈t.o.looksAt ops,gO L d T (e_.get d)=t.ad.get d:=by
 intro d m;obtain⟨aq,aH,_,_⟩:=c.at h;rw[aH d,h,Ad,gO];rw[if_neg (by rintro⟨k,_⟩;rw[l]at k;cases k)];rw[wE (A:=B),uy (L':=λ_=>X)]
 ·intro u hu j;obtain⟨_,_,a⟩:=c.before h hu;rcases a with a|a
  ·exact l_ e _ _ aq hw _ a
  ·exact absurd m ((Oper.apart_spec a).1 d j)
 ·intro u hu j;obtain⟨_,_,a⟩:=c.after h hu;rcases a with a|a
  ·cases p:L u.i with
   |false=>rfl
   |true=>
    have n:=c.mem (t:=u) (by rw[h];simp[hu]);have:=l_ e _ _ n (e _ _ n p) _ a;rw[l]at this;cases this
  ·exact absurd m ((Oper.apart_spec a).2.2 d j)
def Ctx.fh(c:Ctx P call ops ord e_ H0 T cU b5){A B:List b1}{t:b1}(h:T=A++t::B){L L':Nat->Bool}(l:ta ops L)(q:L t.i=U)(s:L' t.i=X)(ar:∀j,j≠t.i->L' j=L j)(d:Nat)(v:aa):
  gO L' d T v=if t.o.dst=D d then t.k.val else gO L d T v:=by
 have n:∀u∈A,u.o.dst=D d->L' u.i=L u.i:=λu hu _=>ar _ (c.before h hu).1
 have p:∀u∈B,u.o.dst=D d->L' u.i=L u.i:=λu hu _=>ar _ (Ne.symm (c.after h hu).1)
 rw[h,Ad,Ad,uy n];simp only[gO];rw[uy p];by_cases a:t.o.dst=D d
 ·rw[if_pos ⟨s,a⟩,if_pos a];refine wE λu hu y=> ?_
  obtain⟨_,_,e⟩:=c.after h hu;rcases e with e|e
  ·cases w:L u.i with
   |false=>rfl
   |true=>
    have m:=c.mem (t:=u) (by rw[h];simp[hu]);have:=l_ l _ _ m (l _ _ m w) _ e;rw[q]at this;cases this
  ·exact absurd y ((Oper.apart_spec e).2.1 d a)
 ·rw[if_neg (λx=>a x.2),if_neg a,if_neg (λx=>a x.2)]
def fK.turns{N:Nat}{ρ:Env}{w:World}{L:Nat->Bool}:∀{zC zD:List b1} {H:af},ff H (zC++zD)->(∀u∈zC,u.k.fF=X->L u.i=X/\∃v b,u.k= .new v b)->
  fK ρ0 H0 w0 N (eO L (zC++zD) H) ρ H w->fK ρ0 H0 w0 N (eO L zD (cI zC H)) ρ (cI zC H) w
 |[],zD,H,_,_,m=>m
 |c::zC,zD,H,hm,e,m=>by
  by_cases a:c.k.fF=X
  ·obtain⟨o,v,b,d⟩:=e c (by simp) a;have aF:eO L (c::zC++zD) H H.next=D b:=by simp[eO,d,o]
   have m1:=m.Kx aF;have l:ff (H.push b) (zC++zD):=by have:=hm.2;rw[d]at this;exact this
   have heq:(λk=>if k=H.next then C else eO L (c::zC++zD) H k)=eO L (zC++zD) (H.push b):=by
    funext k
    by_cases j:k=H.next
    ·rw[if_pos j];cases q:eO L (zC++zD) (H.push b) k with
     |none=>rfl
     |some ct=>have:=uj l q;simp at this;omega
    ·rw[if_neg j];simp[eO,d,j]
   rw[heq]at m1;have:=fK.turns l (λu hu=>e u (by simp[hu])) m1;rw[cI,d];exact this
  ·have p:∀v b,c.k≠ .new v b:=λv b h=>by rw[h]at a;exact a rfl
   rw[List.cons_append,uk p]at m;have n:=vC (by simpa using a) H;rw[cI];rw[n]at m ⊢;refine fK.turns ?_ (λu hu=>e u (by simp[hu])) m;have:=hm.2;rwa[n]at this
structure Inv(ops:Array Oper)(e_:bl)(H0:af)(T:List b1)(N:Nat)(ρ0:Env)(w0:World)(listed:Array Bool)(a:Act)(w:World):Prop where
 size:listed.size=ops.size
 closed:ta ops (dt listed)
 mid:∃ρ T1 T2,T=T1++T2/\(∀t∈T1,t.k.fF=true->dt listed t.i=true)/\(∀t∈T2,(∃v H,t.k= .eL v H)->dt listed t.i=false)/\
  fK ρ0 H0 w0 N (eO (dt listed) T2 (cI T1 H0)) ρ (cI T1 H0) w/\∃c:bl,ey ρ c a/\c.size=e_.size/\∀d,c.get d=gO (dt listed) d T (e_.get d)
def Ctx.final(c:Ctx P call ops ord e_ H0 T cU b5){listed:Array Bool}{a:Act}{w:World}(q:Inv ops e_ H0 T b5.next ρ0 w0 listed a w)(j:∀t∈T,dt listed t.i=X):
  ∃ρ,ey ρ cU a/\Step ρ0 H0 w0 ρ b5 w:=by
 obtain⟨ρ,T1,T2,ay,B,p,m,A,h,y,z⟩:=q.mid;obtain⟨aq,aH,bu,cq⟩:=mb c.ay;have o:=tt c.ay;rw[ay]at o;have s:=(ff.append o).2;have m':=fK.turns (zC:=T2) (zD:=[]) (L:=dt listed) (by simpa using s) (λu hu l=>by
  have e:=j u (by rw[ay];simp[hu]);refine⟨e,?_⟩;cases n:u.k with
  |new v b=>exact⟨v,b,rfl⟩
  |eL v H=>rw[p u hu ⟨v,H,n⟩]at e;cases e
  |_=>rw[n]at l;cases l) (by simpa using m)
 rw[<-lz,<-ay,<-aH]at m';refine⟨ρ,⟨by rw[bu,<-y];exact h.size,λd=> ?_,h.none⟩,m'.done rfl⟩;have:=h.get d;rw[z d,uy (L':=λ_=>X) (λt x _=>j t x),<-cq d]at this;exact this
def Il{listed:Array Bool}{i:Nat}(h:i∈Region.ready .any ops listed)(ar:listed.size=ops.size):
  ∃o,ops[i]? =D o/\dt listed i=U/\rr (dt listed) o/\i<ops.size:=by
 unfold Region.ready at h;simp only[List.mem_filter,List.mem_range,Bool.and_eq_true,Bool.not_eq_true']at h;obtain⟨d,a,c⟩:=h;have j:ops[i]? =D ops[i]:=by simp[d]
 refine⟨ops[i],j,?_,?_,d⟩
 ·unfold dt;rw[Array.getD_eq_getD_getElem?]at a ⊢;have:i<listed.size:=ae;simp[this]at a ⊢;exact a
 ·rw[j]at c;simp only[Option.map_some,Option.getD_some,Array.all_eq_true']at c;intro e he k;have:=c e he;simpa [k,dt]using this
def QA{listed:Array Bool}{i:Nat}{o:Oper}(d:ops[i]? =D o)(a:dt listed i=U)(hw:rr (dt listed) o)(ar:listed.size=ops.size):i∈Region.ready .any ops listed:=by
 unfold Region.ready;have h:i<ops.size:=(Array.getElem?_eq_some_iff.1 d).1;simp only[List.mem_filter,List.mem_range,Bool.and_eq_true,Bool.not_eq_true'];refine⟨h,?_,?_⟩
 ·unfold dt at a;rw[Array.getD_eq_getD_getElem?]at a ⊢;have:i<listed.size:=ae;simp[this]at a ⊢;exact a
 ·rw[d];simp only[Option.map_some,Option.getD_some,Array.all_eq_true'];intro e he;by_cases c:Region.binds .any e=X
  ·have:=hw e he c;unfold dt at this;rw[this];simp
  ·simp[c]
def Ctx.LR(c:Ctx P call ops ord e_ H0 T cU b5){listed:Array Bool}(ar:listed.size=ops.size)(K:Region.ready .any ops listed=[]):∀t∈T,dt listed t.i=true:=by
 have w:=c.z7;simp only[sh,Bool.and_eq_true,List.all_eq_true,List.mem_range]at w;obtain⟨z,F,E,_⟩:=w;have s:=(mb c.ay).1;have key:∀(n:Nat) (A:List b1) (t:b1) (B:List b1),A.length=n->T=A++t::B->dt listed t.i=true:=by
  intro n
  induction n using Nat.strongRecOn with
  |_ n M=>
   intro A t B hlen h;have j:=(c.at h).1;cases G:dt listed t.i with
   |true=>rfl
   |false=>
    have:t.i∈Region.ready .any ops listed:=by
     refine QA j G (λe he q=> ?_) ar;have d:=Mz j he q;have H:e.on<ops.size:=by
      have a:=E t.o (by
       have:=(Array.getElem?_eq_some_iff.1 j);obtain⟨m,y⟩:=this;rw[<-y];simp)
      unfold C2 at a;rw[List.all_eq_true]at a;have m:=a e (by simpa using he);simpa [q]using m
     have v:=z e.on H;rw[List.contains_iff_mem,<-s,List.mem_map]at v;obtain⟨u,hu,k⟩:=v;rw[h]at hu;rcases List.mem_append.1 hu with hu|hu
     ·obtain⟨l,x,p⟩:=List.append_of_mem hu;rw[<-k];refine M l.length ?_ l u (x++t::B) rfl (by rw[h,p];simp);rw[<-hlen,p];simp
     ·rcases List.mem_cons.1 hu with rfl|hu
      ·exfalso;have a:=F u.i (by rw[<-s,List.mem_map];exact⟨u,by rw[h];simp,rfl⟩);rw[<-k]at d;rw[d]at a;cases a
      ·exfalso;have a:=(c.after h hu).2.1;rw[k,d]at a;cases a
    rw[K]at this;simp at this
 intro t L;obtain⟨A,B,h⟩:=List.append_of_mem L;exact key _ A t B rfl h
def CY{p q:Nat->Bool}{i:Nat}:∀{l:List Nat},i∈l->(∀j,q j=X->p j=X)->p i=X->q i=U->l.countP q<l.countP p
 |[],h,_,_,_=>by simp at h
 |j::l,h,himp,aF,a=>by
  have hle:∀l:List Nat,l.countP q<=l.countP p:=λl=>List.countP_mono_left λx _ d=>himp x d
  simp only[List.countP_cons];rcases List.mem_cons.1 h with rfl|h
  ·rw[aF,a];have:=hle l;simp;omega
  ·have:=CY h himp aF a;cases c:q j with
   |true=>rw[himp j c];simp;omega
   |false=>cases p j<;>simp<;>omega
def vW{listed:Array Bool}{i:Nat}(a:i<listed.size)(j:Nat):dt (listed.setIfInBounds i X) j=if j=i then X else dt listed j:=by
 unfold dt;rw[Array.getD_eq_getD_getElem?,Array.getD_eq_getD_getElem?,Array.getElem?_setIfInBounds];by_cases h:i=j
 ·subst h;simp[a]
 ·have a8:¬j=i:=λe=>h e.symm
  simp[h,a8]
