/-
  Texts of one proof, laid together: Hv11 Hv12 Hv13 Hv14 Hv15.
-/
import Derived.Test.YtghmbpmaafnodaaDoorMB
import Derived.Orders
set_option linter.unusedVariables false
set_option linter.unusedSimpArgs false
set_option linter.defProp false
open Option renaming some→D,none→C
open Bool renaming true→X,false→U
namespace Go.bs
structure bb where
 t:bp aa
 size:Nat
def bb.get(ae:bb)(d:Nat):aa:=match ae.t.get d with
 |some v=>v
 |none=> .tuple []
def bb.put(ae:bb)(dst:Option Nat)(v:aa):Option bb:=match dst with
 |none=>D ae
 |some d=>if d<ae.size then D {ae with t:=bp.put v (d+1) ae.t d}else C
structure dN(ρ:Env)(ae:bb)(a:Act):Prop where
 size:ae.size=a.tmps.size
 get:∀d,bg ρ (ae.get d) (a.tmps.getD d undef)
 none:a.defers=[]
def dN.mono{ρ c:Env}{ae:bb}{a:Act}(h:dN ρ ae a)(hle:ρ.le c):dN c ae a:=⟨h.size,λd=>(h.get d).mono hle,h.none⟩
def bb.rh{ae a_:bb}{dst:Option Nat}{v:aa}(h:ae.put dst v=D a_)(d:Nat):a_.get d=if dst=D d then v else ae.get d:=by
 cases dst with
 |none=>simp only[bb.put,aV]at h;subst h;simp
 |some e=>
  simp only[bb.put]at h;split at h
  ·simp only[aV]at h;subst h;by_cases he:e=d
   ·subst he;simp[bb.get,bp.rj v (e+1) ae.t e af]
   ·have:(D e=D d)=False:=by simp[he]
    simp[bb.get,bp.ri v (e+1) ae.t e d he,he]
  ·cases h
def bb.qm{ae a_:bb}{dst:Option Nat}{v:aa}(h:ae.put dst v=D a_):a_.size=ae.size:=by
 cases dst with
 |none=>simp only[bb.put,aV]at h;subst h;rfl
 |some e=>
  simp only[bb.put]at h;split at h
  ·simp only[aV]at h;subst h;rfl
  ·cases h
def bb.Em{ae a_:bb}{d:Nat}{v:aa}(h:ae.put (D d) v=D a_):d<ae.size:=by
 simp only[bb.put]at h;split at h
 ·assumption
 ·cases h
def dN.put{ρ:Env}{ae a_:bb}{a:Act}{dst:Option Nat}{v:aa}{x:Value}(h:dN ρ ae a)(aI:ae.put dst v=D a_)(i:bg ρ v x):dN ρ a_ (a.put dst x):=by
 refine⟨?_,λd=> ?_,?_⟩
 ·rw[bb.qm aI,h.size];cases dst<;>simp[Act.put]
 ·rw[bb.rh aI];cases dst with
  |none=>simpa [Act.put]using h.get d
  |some e=>
   have c:=bb.Em aI;rw[h.size]at c;by_cases he:e=d
   ·subst he;simpa [Act.put,c]using i
   ·have:=h.get d;simp only[aV,he,if_false,Act.put,Array.getD_eq_getD_getElem?,Array.getElem?_setIfInBounds];simpa using this
 ·cases dst<;>simpa [Act.put]using h.none
def ca(ae:bb):Operand->Option aa
 | .tmp t=>D (ae.get t)
 | .const v=>rH v
 | .global _=>C
 | .func f=>D (.func (.func f) [] [])
section
variable {P:Program}{ρ:Env}{H:ad}{w:World}{ae:bb}{a:Act}
def dq(d:dN ρ ae a){x:Operand}{v:aa}(h:ca ae x=D v):bg ρ v (a.eval x):=by
 cases x with
 |tmp t=>simp only[ca,aV]at h;subst h;exact d.get t
 |const c=>exact tr h ρ
 |global g=>cases h
 |func f=>simp only[ca,aV]at h;subst h;exact .func (.func f) [] [] [] [] .nil .nil
def hj(ae:bb):List Operand->Option (List aa)
 |[]=>D []
 |x::xs=>match ca ae x,hj ae xs with
  |some v,D a=>D (v::a)
  |_,_=>C
def nE(d:dN ρ ae a):∀{xs:List Operand} {c:List aa},hj ae xs=D c->bw ρ c (xs.map a.eval)
 |[],c,h=>by simp only[hj,aV]at h;subst h;exact .nil
 |x::xs,c,h=>by
  simp only[hj]at h;split at h
  ·rename_i v j e i;simp only[aV]at h;subst h;exact .cons _ _ _ _ (dq d e) (nE d i)
  ·cases h
def iT(ae:bb):List (Nat×Operand)->Option (List (Nat×aa))
 |[]=>D []
 |(i,x)::xs=>match ca ae x,iT ae xs with
  |some v,D a=>D ((i,v)::a)
  |_,_=>C
def vj(d:dN ρ ae a):∀{xs:List (Nat×Operand)} {c:List (Nat×aa)},iT ae xs=D c->o4 ρ c (xs.map λ(i,x)=>(i,a.eval x))
 |[],c,h=>by simp only[iT,aV]at h;subst h;exact trivial
 |(i,x)::xs,c,h=>by
  simp only[iT]at h;split at h
  ·rename_i v k e j;simp only[aV]at h;subst h;exact⟨rfl,dq d e,vj d j⟩
  ·cases h
def jY(ae:bb):Option Operand->Option (Option aa)
 |none=>D C
 |some x=>match ca ae x with
  |some v=>D (D v)
  |none=>C
def vl(c:dN ρ ae a){x:Option Operand}{v:Option aa}(h:jY ae x=D v):o3 ρ v (x.map a.eval):=by
 cases x with
 |none=>simp only[jY,aV]at h;subst h;exact .none
 |some x=>
  simp only[jY]at h;split at h
  ·rename_i u hu;simp only[aV]at h;subst h;exact .some _ _ (dq c hu)
  ·cases h
def b6:aa->Option aa
 | .ptr l i c=>D (.ptr l i c)
 | .iface t v=>D (.iface t v)
 | .func (.func f) x y=>D (.func (.func f) x y)
 |_=>C
def vb(P:Program)(t:TypeId)(v:aa):Option aa:=
 match P.underlying t with
 |some (.interface _)=>C
 |some _=>D (.iface t v)
 |none=>C
def b_(P:Program)(H:ad)(b:Builtin)(ts:List TypeId)(a:List aa):Option aa:=
 match b,ts,a with
 | .len,[t],[x]=>vc P H t x
 | .max,_,[x,y]=>sG x y
 | .min,_,[x,y]=>sH x y
 | .cap,[t],[x]=>u7 P t x
 |_,_,_=>C
def u6(P:Program)(t:TypeId)(ok:Bool)(v:aa):Option aa:=
 match v with
 | .iface d u=>if d=t/\ok=U then(match P.underlying t with|some (.interface _)=>C|some _=>D u|none=>C)else C
 |_=>C
def iU(P:Program)(o:Op)(ae:bb):Option aa:=
 match o with
 | .move x=>ca ae x
 | .assign x=>ca ae x
 | .pick c a b=>match ca ae c with
  |some (.bool t)=>if t then ca ae a else ca ae b
  |_=>C
 | .build t n=>(iT ae n.toList).bind (cy P t)
 | .nilCheck x=>(ca ae x).bind b6
 | .binOp op t x y _=>(ca ae x).bind λu=>(ca ae y).bind λv=>qL P op t x y u v
 | .unOp op _ x=>(ca ae x).bind (fq op)
 | .convert s d x=>(ca ae x).bind (mg P s d)
 | .makeInterface t x=>(ca ae x).bind (vb P t)
 | .makeFunc fn f c=>(hj ae f.toList).bind λe=>(hj ae c.toList).bind λcs=>D (.func fn e cs)
 | .slice t x lo j k=>(ca ae x).bind λv=>(jY ae lo).bind λl=>(jY ae j).bind λh=>(jY ae k).bind λm=>jX P t v l h m
 | .fieldAddr t x f=>(ca ae x).bind λv=>aH P t v f
 | .field t x f=>(ca ae x).bind λv=>cL P t v f
 | .indexAddr t x i=>(ca ae x).bind λu=>(ca ae i).bind λv=>cM P t u v
 | .index t x i=>(ca ae x).bind λu=>(ca ae i).bind λv=>eU P t u v
 | .extract x i=>(ca ae x).bind λv=>d_ v i
 | .typeAssert x _ t ok=>(ca ae x).bind (u6 P t ok)
 | .call c=>match c.callee with
  | .builtin b=>(hj ae c.args.toList).bind (b_ P .empty b c.argTypes.toList)
  |_=>C
 |_=>C
def e8{s:Sem Value}{x:Value}{w a:World}(h:s.run P w= .ok x a):(do pure (.value (<-s)):Sem Next).run P w= .ok (.value x) a:=by
 simp[h]
def xC{s:Sem Unit}{w a:World}(h:s.run P w= .ok () a):(do s;pure .skip:Sem Next).run P w= .ok .skip a:=by
 simp[h]
def Rel.empty(ρ:Env)(w:World)(n:Nat):Rel ρ ⟨.leaf,n⟩ w:=by
 have:∀l,(⟨.leaf,n⟩:ad).get l=none:=λl=>by unfold ad.get;split<;>first|exact bp.re _|rfl
 refine⟨λl _ _ _ h=> ?_,λl _ h=> ?_,λl _ _ _ h=> ?_,λl l' _ _ h=> ?_⟩
 ·rw[this]at h;cases h
 ·rw[this]at h;cases h
 ·rw[this]at h;cases h
 ·rcases h with⟨_,_,h⟩|⟨_,h⟩|⟨_,_,_,h⟩<;>(rw[this]at h;cases h)
def yF(k:Rel ρ H w){b:Builtin}{ts:List TypeId}{j:List aa}{v:aa}{xs:List Value}(h:b_ P H b ts j=D v)(d:bw ρ j xs)(ty:TypeId)(cs:Array Bool):
  ∃x,(builtin b ts.toArray ty cs xs.toArray).run P w= .ok (.value x) w/\bg ρ v x:=by
 unfold b_ at h;split at h
 ·cases d with|cons _ x _ _ a c=>
  cases c;obtain⟨r,an,aE⟩:=HL k ty h a;exact⟨r,e8 an,aE⟩
 ·cases d with|cons _ x _ _ a c=>
  cases c with|cons _ y _ _ e i=>
  cases i;obtain⟨r,an,aE⟩:=HT (P:=P) ts.toArray ty h a e w;exact⟨r,e8 an,aE⟩
 ·cases d with|cons _ x _ _ a c=>
  cases c with|cons _ y _ _ e i=>
  cases i;obtain⟨r,an,aE⟩:=HV (P:=P) ts.toArray ty h a e w;exact⟨r,e8 an,aE⟩
 ·cases d with|cons _ x _ _ a c=>
  cases c;obtain⟨r,an,aE⟩:=HA (P:=P) ty h a w;exact⟨r,e8 an,aE⟩
 ·cases h
def map_toArray{α β:Type}(f:α->β)(xs:Array α):xs.map f=(xs.toList.map f).toArray:=by cases xs;simp
def tL{o:Oper}{c:Call}{b:Builtin}(e:o.op= .call c)(d:c.callee= .builtin b)(w:World):
  (execOp a.eval o).run P w=(builtin b c.argTypes o.type (c.args.map λ | .const _=>X|_=>U) (c.args.map a.eval)).run P w:=by
 unfold execOp;rw[e];simp only[resolve,d];rfl
def Ih{o:Oper}{v:aa}(h:iU P o.op ae=D v)(p:dN ρ ae a)(w:World):∃x,(execOp a.eval o).run P w= .ok (.value x) w/\bg ρ v x:=by
 unfold iU at h;split at h
 ·rename_i x j;exact⟨_,by unfold execOp;rw[j];rfl,dq p h⟩
 ·rename_i x j;exact⟨_,by unfold execOp;rw[j];rfl,dq p h⟩
 ·rename_i c x y j;split at h
  ·rename_i t H;have n:=dq p H;have q:a.eval c= .bool t:=by
    generalize a.eval c=z at n;cases n;rfl
   cases t
   ·exact⟨_,by unfold execOp;rw[j];simp only[q];rfl,dq p h⟩
   ·exact⟨_,by unfold execOp;rw[j];simp only[q];rfl,dq p h⟩
  ·cases h
 ·rename_i t O j;simp only[cZ]at h;obtain⟨K,n,q⟩:=h;obtain⟨x,an,aE⟩:=Hx q (vj p n) w;refine⟨x,?_,aE⟩;unfold execOp;rw[j];rw[<-map_toArray]at an;exact e8 an
 ·rename_i x j;simp only[cZ]at h;obtain⟨u,n,q⟩:=h;have e:=dq p n;refine⟨a.eval x,?_,?_⟩
  ·unfold execOp;rw[j];simp only
   generalize a.eval x=z at e;unfold b6 at q;split at q
   ·cases e;rfl
   ·cases e;rfl
   ·cases e;rfl
   ·cases q
  ·unfold b6 at q;split at q<;>first|(simp only[aV]at q;subst q;exact e)|cases q
 ·rename_i op t x y S j;simp only[cZ]at h;obtain⟨u,n,z,q,e⟩:=h;obtain⟨r,an,aE⟩:=Hv e (dq p n) (dq p q) w;exact⟨r,by unfold execOp;rw[j];exact e8 an,aE⟩
 ·rename_i op t x j;simp only[cZ]at h;obtain⟨u,n,e⟩:=h;obtain⟨r,an,aE⟩:=Ip e (dq p n) w;exact⟨r,by unfold execOp;rw[j];exact e8 an,aE⟩
 ·rename_i s d x j;simp only[cZ]at h;obtain⟨u,n,e⟩:=h;obtain⟨r,an,aE⟩:=HC e (dq p n) w;exact⟨r,by unfold execOp;rw[j];exact e8 an,aE⟩
 ·rename_i t x j;simp only[cZ]at h;obtain⟨u,n,e⟩:=h;have A:=dq p n;unfold vb at e;split at e
  ·cases e
  ·rename_i d F hu;simp only[aV]at e;subst e;refine⟨.iface t (a.eval x),?_,.iface _ _ _ A⟩;unfold execOp;rw[j];refine e8 ?_;unfold Instr.makeInterface;simp only[Sem.run_bind,run_underlying hu,Result.andThen_ok];cases d<;>first|rfl|exact absurd rfl (F _)
  ·cases e
 ·rename_i fn f c j;simp only[cZ,aV]at h;obtain⟨G,n,cs,q,rfl⟩:=h;refine⟨_,?_,.func fn G cs _ _ (nE p n) (nE p q)⟩;unfold execOp;rw[j];rw[<-map_toArray,<-map_toArray];rfl
 ·rename_i t x lo M N j;simp only[cZ]at h;obtain⟨u,n,l,q,k,e,m,A,B⟩:=h;obtain⟨r,an,aE⟩:=Im B (dq p n) (vl p q) (vl p e) (vl p A) w;exact⟨r,by unfold execOp;rw[j];exact e8 an,aE⟩
 ·rename_i t x f j;simp only[cZ]at h;obtain⟨u,n,e⟩:=h;obtain⟨r,an,aE⟩:=HG e (dq p n) w;exact⟨r,by unfold execOp;rw[j];exact e8 an,aE⟩
 ·rename_i t x f j;simp only[cZ]at h;obtain⟨u,n,e⟩:=h;obtain⟨r,an,aE⟩:=HH e (dq p n) w;exact⟨r,by unfold execOp;rw[j];exact e8 an,aE⟩
 ·rename_i t x i j;simp only[cZ]at h;obtain⟨u,n,z,q,e⟩:=h;obtain⟨r,an,aE⟩:=HJ e (dq p n) (dq p q) w;exact⟨r,by unfold execOp;rw[j];exact e8 an,aE⟩
 ·rename_i t x i j;simp only[cZ]at h;obtain⟨u,n,z,q,e⟩:=h;obtain⟨r,an,aE⟩:=HK e (dq p n) (dq p q) w;exact⟨r,by unfold execOp;rw[j];exact e8 an,aE⟩
 ·rename_i x i j;simp only[cZ]at h;obtain⟨u,n,e⟩:=h;obtain⟨r,an,aE⟩:=HF e (dq p n) w;exact⟨r,by unfold execOp;rw[j];exact e8 an,aE⟩
 ·rename_i x R t ok j;simp only[cZ]at h;obtain⟨u,n,e⟩:=h;have A:=dq p n;unfold u6 at e;split at e
  ·rename_i d Q;split at e
   ·rename_i E;obtain⟨rfl,rfl⟩:=E;generalize he:a.eval x=z at A;cases A with|iface _ _ L B=>
    split at e
    ·cases e
    ·rename_i ld F hu;simp only[aV]at e;subst e;refine⟨L,?_,B⟩;unfold execOp;rw[j];refine e8 ?_;rw[he];unfold Instr.typeAssert;simp only[Sem.run_bind,run_underlying hu,Result.andThen_ok];cases ld<;>first|exact absurd rfl (F _)|simp
    ·cases e
   ·cases e
  ·cases e
 ·rename_i c j;split at h
  ·rename_i b E;simp only[cZ]at h;obtain⟨K,n,q⟩:=h;obtain⟨x,an,aE⟩:=yF (Rel.empty ρ w 0) q (nE p n) o.type (c.args.map λ | .const _=>X|_=>U);refine⟨x,?_,aE⟩;rw[tL j E,map_toArray a.eval];simpa using an
  ·cases h
 ·cases h
def hh(P:Program)(o:Op)(ae:bb)(H:ad):Option aa:=
 match o with
 | .load t x=>(ca ae x).bind (ak P H t)
 | .lookup t x k ok=>(ca ae x).bind λu=>(ca ae k).bind λv=>sE P H t u v ok
 | .convert s d x=>(ca ae x).bind (nA P H s d)
 | .call c=>match c.callee with
  | .builtin b=>(hj ae c.args.toList).bind (b_ P H b c.argTypes.toList)
  |_=>C
 |_=>C
def Ii(m:Rel ρ H w){o:Oper}{v:aa}(h:hh P o.op ae H=D v)(l:dN ρ ae a):∃x,(execOp a.eval o).run P w= .ok (.value x) w/\bg ρ v x:=by
 unfold hh at h;split at h
 ·rename_i t x i;simp only[cZ]at h;obtain⟨u,e,j⟩:=h;obtain⟨r,an,aE⟩:=ve m j (dq l e);exact⟨r,by unfold execOp;rw[i];exact e8 an,aE⟩
 ·rename_i t x k ok i;simp only[cZ]at h;obtain⟨u,e,z,n,j⟩:=h;obtain⟨r,an,aE⟩:=HP m j (dq l e) (dq l n);exact⟨r,by unfold execOp;rw[i];exact e8 an,aE⟩
 ·rename_i s d x i;simp only[cZ]at h;obtain⟨u,e,j⟩:=h;obtain⟨r,an,aE⟩:=Hy m j (dq l e);exact⟨r,by unfold execOp;rw[i];exact e8 an,aE⟩
 ·rename_i c i;split at h
  ·rename_i b p;simp only[cZ]at h;obtain⟨q,e,n⟩:=h;obtain⟨x,an,aE⟩:=yF m n (nE l e) o.type (c.args.map λ | .const _=>X|_=>U);refine⟨x,?_,aE⟩;rw[tL i p,map_toArray a.eval];simpa using an
  ·cases h
 ·cases h
def nC(P:Program)(o:Op)(ae:bb)(H:ad):Option (aa×ad):=
 match o with
 | .alloc t=>sC P H t
 | .box t x=>(ca ae x).bind (o9 (pK P t) H)
 | .buildSlice t n a=>(iT ae a.toList).bind (qM P H t n)
 | .makeMap _ C=>D (vf H)
 | .makeSlice t l c=>(ca ae l).bind λu=>(ca ae c).bind λv=>sF P H t u v
 |_=>C
def HX(m:Rel ρ H w)(p:ρ H.next=C){o:Oper}{v:aa}{H':ad}(h:nC P o.op ae H=D (v,H'))(q:dN ρ ae a):
  ∃x d e,(execOp a.eval o).run P w= .ok (.value x) d/\bg e v x/\Step ρ H w e H' d:=by
 unfold nC at h;split at h
 ·rename_i t i;obtain⟨r,d,e,an,aE,bn⟩:=Ht m p h;exact⟨r,d,e,by unfold execOp;rw[i];exact e8 an,aE,bn⟩
 ·rename_i t x i;simp only[cZ]at h;obtain⟨u,j,k⟩:=h;obtain⟨r,d,e,an,aE,bn⟩:=yE (P:=P) m p k (dq q j) t (λA h=>DI h);exact⟨r,d,e,by unfold execOp;rw[i];exact e8 an,aE,bn⟩
 ·rename_i t n y i;simp only[cZ]at h;obtain⟨u,j,k⟩:=h;obtain⟨r,d,e,an,aE,bn⟩:=Hw m p k (vj q j);refine⟨r,d,e,?_,aE,bn⟩;unfold execOp;rw[i];rw[<-map_toArray]at an;exact e8 an
 ·rename_i t i;simp only[aV]at h;obtain⟨r,d,e,an,aE,bn⟩:=HQ (P:=P) m p t;rw[h]at aE bn;exact⟨r,d,e,by unfold execOp;rw[i];exact e8 an,aE,bn⟩
 ·rename_i t l c i;simp only[cZ]at h;obtain⟨u,j,z,s,k⟩:=h;obtain⟨r,d,e,an,aE,bn⟩:=HS m p k (dq q j) (dq q s);exact⟨r,d,e,by unfold execOp;rw[i];exact e8 an,aE,bn⟩
 ·cases h
def bW.j7:bW->Bool
 | .row U _ _=>X
 | .map _=>X
 | .b1 _ _ _=>X
 |_=>U
def bW.j7.ro{b:bW}(h:b.j7=X):b.rl=false:=by
 cases b with
 |row ro e s=>cases ro<;>first|rfl|cases h
 |map es=>rfl
 |b1 t e s=>rfl
 |dead=>rfl
def n3(r:Option (aa×ad))(l:Nat):Option (aa×bW):=
 match r with
 |some (v,H')=>if H'.next=l+1 then(match H'.get l with
  |some b=>if b.j7 then D (v,b)else C
  |none=>C)else C
 |none=>C
def jt(P:Program)(o:Op)(ae:bb)(l:Nat):Option (aa×bW):=n3 (nC P o ae ⟨.leaf,l⟩) l
def kC(P:Program)(o:Op)(ae:bb)(H:ad):Option (aa×ad):=
 match o with
 | .store t x y=>(ca ae x).bind λu=>(ca ae y).bind λv=>(aU P H t u v).map λH'=>(.tuple [],H')
 | .mapUpdate t m k x=>(ca ae m).bind λu=>(ca ae k).bind λv=>(ca ae x).bind λz=>(pc P H t u v z).map λH'=>(.tuple [],H')
 | .insert t m k x=>(ca ae m).bind λu=>(ca ae k).bind λv=>(ca ae x).bind λz=>(pc P H t u v z).map λH'=>(.tuple [],H')
 | .call c=>match c.callee,c.args.toList with
  | .builtin .append,[s,x]=>(ca ae s).bind λu=>(ca ae x).bind λv=>c1 P H c.argTypes.toList u v
  | .builtin .clear,[x]=>(ca ae x).bind λu=>(sD P H c.argTypes.toList u).map λH'=>(.tuple [],H')
  |_,_=>C
 |_=>C
def yf(x:Value):Next->Prop
 | .value y=>y=x
 | .skip=>x=undef
 |_=>False
def It(q:Rel ρ H w){o:Oper}{v:aa}{H':ad}(h:kC P o.op ae H=D (v,H'))(G:H.next<H'.next->ρ H.next=C)(e:dN ρ ae a):
  ∃n x d A,(execOp a.eval o).run P w= .ok n d/\yf x n/\bg A v x/\Step ρ H w A H' d:=by
 unfold kC at h;split at h
 ·rename_i t x y l;simp only[cZ,Option.map_eq_some_iff,b4]at h;obtain⟨u,i,z,p,H1,j,rfl,rfl⟩:=h;obtain⟨d,an,aE⟩:=Io q j (dq e i) (dq e p);exact⟨.skip,undef,d,ρ,by unfold execOp;rw[l];exact xC an,rfl,.tuple [] [] .nil,aE⟩
 ·rename_i t m k x l;simp only[cZ,Option.map_eq_some_iff,b4]at h;obtain⟨u,i,z,p,y,B,H1,j,rfl,rfl⟩:=h;obtain⟨d,an,aE⟩:=yL q j (dq e i) (dq e p) (dq e B);exact⟨.skip,undef,d,ρ,by unfold execOp;rw[l];exact xC an,rfl,.tuple [] [] .nil,aE⟩
 ·rename_i t m k x l;simp only[cZ,Option.map_eq_some_iff,b4]at h;obtain⟨u,i,z,p,y,B,H1,j,rfl,rfl⟩:=h;obtain⟨d,an,aE⟩:=yL q j (dq e i) (dq e p) (dq e B);exact⟨.skip,undef,d,ρ,by unfold execOp;rw[l];exact xC an,rfl,.tuple [] [] .nil,aE⟩
 ·rename_i c l;split at h
  ·rename_i s x F E;simp only[cZ]at h;obtain⟨u,i,z,p,j⟩:=h;obtain⟨r,d,A,an,aE,bn⟩:=Hu q o.type j G (dq e i) (dq e p);refine⟨.value r,r,d,A,?_,rfl,aE,bn⟩;rw[tL l F,map_toArray a.eval,E];refine e8 (s:=Builtin.append_ c.argTypes o.type _) ?_;simpa using an
  ·rename_i x F E;simp only[cZ,Option.map_eq_some_iff,b4]at h;obtain⟨u,i,H1,j,rfl,rfl⟩:=h;obtain⟨d,an,aE⟩:=HB q o.type j (dq e i);refine⟨.value (.tuple #[]),.tuple #[],d,ρ,?_,rfl,.tuple [] [] .nil,aE⟩;rw[tL l F,map_toArray a.eval,E];refine e8 (s:=Builtin.clear_ c.argTypes o.type _) ?_;simpa using an
  ·cases h
 ·cases h
end
section
variable {P:Program}{ρ:Env}{H:ad}{w:World}{ae:bb}{a:Act}
def iP(ρ:Env)(w:World)(loc:Loc):bW->Prop
 | .row ro esz els=>fA ρ w loc ro esz els
 | .map es=>uW ρ w loc es
 | .b1 t esz els=>mc ρ w loc t esz els
 | .dead=>True
def iP.frame{n:Env}{m:World}{loc:Loc}{b:bW}(h:iP ρ w loc b)(hle:ρ.le n)(a:m.heap[loc.block]? =w.heap[loc.block]?):iP n m loc b:=by
 cases b with
 |row ro esz els=>
  obtain⟨d,c,t,o,k,l,q⟩:=h;refine⟨d,c,t,o,by rw[a];exact k,l,λi e he=> ?_⟩;obtain⟨a6,s⟩:=q i e he;refine⟨a6,λj v p=> ?_⟩;obtain⟨u,x,y,z⟩:=s j v p;exact⟨u,x,y,z.mono hle⟩
 |map es=>
  obtain⟨ents,clock,d,k,l⟩:=h;exact⟨ents,clock,by rw[a];exact d,k.mono hle,l.mono hle⟩
 |b1 t esz els=>exact mc.frame h hle a
 |dead=>trivial
def iP.lt{loc:Loc}{b:bW}(h:iP ρ w loc b)(a:b.j7=X):loc.block<w.heap.size:=by
 cases b with
 |row ro esz els=>obtain⟨_,c,t,i,e,_⟩:=h;exact jy e
 |map es=>obtain⟨ents,clock,d,_⟩:=h;exact jy d
 |b1 t esz els=>exact h.1.lt
 |dead=>cases a
def Rel.grow{o:Env}{u:World}(h:Rel ρ H w)(hle:ρ.le o)(m:∀b,b<w.heap.size->u.heap[b]? =w.heap[b]?):Rel o H u:=by
 refine⟨λl ro esz els e=> ?_,λl es e=> ?_,λl t esz els e=> ?_,λl l' loc j p q v an aE=> ?_⟩
 ·obtain⟨loc,a,d⟩:=h.row l ro esz els e;refine⟨loc,hle _ _ a,?_⟩;have:=d;obtain⟨_,c,t,x,n,_⟩:=this;exact iP.frame (b:= .row ro esz els) d hle (m _ (jy n))
 ·obtain⟨loc,a,d⟩:=h.map l es e;refine⟨loc,hle _ _ a,?_⟩;have:=d;obtain⟨_,_,n,_⟩:=this;exact iP.frame (b:= .map es) d hle (m _ (jy n))
 ·obtain⟨loc,a,d⟩:=h.b1 l t esz els e;exact⟨loc,hle _ _ a,d.frame hle (m _ d.1.lt)⟩
 ·have s:∀k loc,H.live k->o k=D loc->ρ k=D loc:=λk loc i e=>by
   rcases i with⟨ro,esz,els,i⟩|⟨es,i⟩|⟨t,esz,els,i⟩
   ·obtain⟨j,a,_⟩:=h.row _ _ _ _ i;rw[hle _ _ a]at e;rw[a];exact e
   ·obtain⟨j,a,_⟩:=h.map _ _ i;rw[hle _ _ a]at e;rw[a];exact e
   ·obtain⟨j,a,_⟩:=h.b1 _ _ _ _ i;rw[hle _ _ a]at e;rw[a];exact e
  exact h.apart l l' loc j p q v (s _ _ p.live an) (s _ _ q aE)
def Rel.wN(h:Rel ρ H w){l:Nat}(i:H.live l):∃loc,ρ l=D loc/\loc.block<w.heap.size:=by
 rcases i with⟨ro,esz,els,a⟩|⟨es,a⟩|⟨t,esz,els,a⟩
 ·obtain⟨loc,d,_,c,t,k,e,_⟩:=h.row _ _ _ _ a;exact⟨loc,d,jy e⟩
 ·obtain⟨loc,d,_,_,e,_⟩:=h.map _ _ a;exact⟨loc,d,jy e⟩
 ·obtain⟨loc,d,j⟩:=h.b1 _ _ _ _ a;exact⟨loc,d,j.1.lt⟩
def HZ{o:Oper}{l:Nat}{v:aa}{b:bW}(h:jt P o.op ae l=D (v,b))(B:dN ρ ae a)(u:ρ l=C)(w:World):
  ∃x c d loc,(execOp a.eval o).run P w= .ok (.value x) c/\bg d v x/\ρ.le d/\(∀k,k≠l->d k=ρ k)/\d l=D loc/\w.heap.size<=loc.block/\b.j7=X/\iP d c loc b/\
   c.os=w.os/\c.tape=w.tape/\c.output=w.output/\w.heap.size<=c.heap.size/\∀k,k<w.heap.size->c.heap[k]? =w.heap[k]? :=by
 unfold jt n3 at h;split at h
 ·rename_i F H' q;split at h
  ·rename_i A;split at h
   ·rename_i cl e;split at h
    ·rename_i i;simp only[aV,b4]at h;obtain⟨rfl,rfl⟩:=h;obtain⟨x,c,d,an,aE,bn⟩:=HX (Rel.empty ρ w l) u q B;have m:∀k,¬iy ρ ⟨.leaf,l⟩ k:=by
      rintro k ⟨l',loc,p,_,_⟩;have y:(⟨.leaf,l⟩:ad).get l'=none:=by unfold ad.get;split<;>first|exact bp.re _|rfl
      rcases p with⟨_,_,h⟩|⟨_,h⟩|⟨_,_,_,h⟩<;>(rw[y]at h;cases h)
     have z:H'.rw l:=by
      cases cl with
      |row ro esz els=>cases ro with
       |true=>cases i
       |false=>exact .inl ⟨_,_,e⟩
      |map es=>exact .inr (.inl ⟨_,e⟩)
      |b1 t esz els=>exact .inr (.inr ⟨_,_,_,e⟩)
      |dead=>cases i
     have s:∃loc,d l=D loc/\iP d c loc cl:=by
      cases cl with
      |row ro esz els=>exact bn.rel.row _ _ _ _ e
      |map es=>exact bn.rel.map _ _ e
      |b1 t esz els=>exact bn.rel.b1 _ _ _ _ e
      |dead=>cases i
     obtain⟨loc,n,E⟩:=s;refine⟨x,c,d,loc,an,aE,bn.le,λk j=>bn.a1 k ?_,n,?_,i,E,bn.os,bn.tape,bn.output,bn.size,λk j=>bn.frame k j (m k)⟩
     ·rw[A];show k<l\/_;omega
     ·exact(bn.own loc.block ⟨l,loc,z,n,rfl⟩).resolve_left (m _)
    ·cases h
   ·cases h
  ·cases h
 ·cases h
structure e0(ρ0:Env)(H0:ad)(w0:World)(N:Nat)(ie:Nat->Option bW)(ρ:Env)(H:ad)(w:World):Prop where
 rW:Rel ρ0 H0 w0
 le:ρ0.le ρ
 next:H0.next<=H.next
 a1:∀l,l<H0.next\/N<=l->ρ l=ρ0 l
 rel:Rel ρ H w
 os:w.os=w0.os
 tape:w.tape=w0.tape
 output:w.output=w0.output
 size:w0.heap.size<=w.heap.size
 frame:∀b,b<w0.heap.size->¬iy ρ0 H0 b->w.heap[b]? =w0.heap[b]?
 own:∀b,iy ρ H b->iy ρ0 H0 b\/w0.heap.size<=b
 ro:∀l esz els,H.get l=some (.row true esz els)->H0.get l=some (.row true esz els)
 fresh:∀l,H.next<=l->l<N->ie l=none->ρ l=none
 jh:∀l b,ie l=some b->H.next<=l/\l<N/\b.j7=true/\∃loc,ρ l=some loc/\iP ρ w loc b/\w0.heap.size<=loc.block/\¬iy ρ H loc.block
 sep:∀l l' b cl loc a,ie l=some b->ie l'=some cl->l≠l'->ρ l=some loc->ρ l'=some a->loc.block≠a.block
variable {ρ0:Env}{H0:ad}{w0:World}{N:Nat}{ie:Nat->Option bW}
def e0.start(h:Rel ρ0 H0 w0)(c:yh ρ0 H0.next N):e0 ρ0 H0 w0 N (λ_=>C) ρ0 H0 w0:=
 ⟨h,ρ0.le_refl,bj _,λ_ _=>rfl,h,rfl,rfl,rfl,bj _,λ_ _ _=>rfl,λ_ h=> .inl h,λ_ _ _ h=>h,λl a b _=>c l a b,λ_ _ h=>by simp at h,λ_ _ _ _ _ _ h=>by simp at h⟩
def e0.done(m:e0 ρ0 H0 w0 N ie ρ H w)(a:H.next=N):Step ρ0 H0 w0 ρ H w:=
 ⟨m.le,m.next,λl c=>m.a1 l (by rw[<-a];exact c),m.rel,m.os,m.tape,m.output,m.size,m.frame,m.own,m.ro⟩
def e0.step{z:Env}{H':ad}{y:World}(m:e0 ρ0 H0 w0 N ie ρ H w)(s:Step ρ H w z H' y)(B:H'.next<=N)(aI:∀l b,ie l=D b->H'.next<=l):e0 ρ0 H0 w0 N ie z H' y where
 rW:=m.rW
 le:=Env.le_trans m.le s.le
 next:=Nat.le_trans m.next s.next
 a1:=λl o=>(s.a1 l (o.imp (λh=>Nat.lt_of_lt_of_le h m.next) (λh=>Nat.le_trans B h))).trans (m.a1 l o)
 rel:=s.rel
 os:=s.os.trans m.os
 tape:=s.tape.trans m.tape
 output:=s.output.trans m.output
 size:=Nat.le_trans m.size s.size
 frame:=λb i p=>by
  rw[s.frame b (Nat.lt_of_lt_of_le i m.size) (λd=>(m.own b d).elim p (λhle=>af)),m.frame b i p]
 own:=λb i=>(s.own b i).elim (λd=>m.own b d) (λhle=> .inr (Nat.le_trans m.size hle))
 ro:=λl esz els e=>m.ro l esz els (s.ro l esz els e)
 fresh:=λl a b c=>by rw[s.a1 l (.inr a)];exact m.fresh l (Nat.le_trans s.next a) b c
 jh:=λl b h=>by
  obtain⟨P,G,q,loc,j,u,K,v⟩:=m.jh l b h;have E:=u.lt q;refine⟨aI l b h,G,q,loc,s.le _ _ j,u.frame s.le (s.frame _ E v),K,λd=> ?_⟩;rcases s.own _ d with h|h
  ·exact v h
  ·omega
 sep:=λl l' b cl loc L h aZ F e A=>by
  obtain⟨_,_,_,M,j,_⟩:=m.jh l b h;obtain⟨_,_,_,O,x,_⟩:=m.jh l' cl aZ;have k:=s.le _ _ j;rw[e]at k;cases k;have n:=s.le _ _ x;rw[A]at n;cases n;exact m.sep l l' b cl _ _ h aZ F j x
def e0.early{q:Env}{p:World}{l:Nat}{b:bW}{loc:Loc}(m:e0 ρ0 H0 w0 N ie ρ H w)(S:H.next<=l)(P:l<N)(aI:ie l=C)
  (hle:ρ.le q) (y:∀k,k≠l->q k=ρ k) (F:q l=D loc) (R:w.heap.size<=loc.block) (ab:b.j7=X) (Q:iP q p loc b) (V:p.os=w.os) (ae:p.tape=w.tape) (W:p.output=w.output)
  (ad:w.heap.size<=p.heap.size) (E:∀k,k<w.heap.size->p.heap[k]? =w.heap[k]?):e0 ρ0 H0 w0 N (λk=>if k=l then D b else ie k) q H p:=by
 have hold:∀k i,H.live k->q k=D i->ρ k=D i:=λk i y e=>by
  obtain⟨M,o,_⟩:=m.rel.wN y;have:=hle _ _ o;rw[e]at this;cases this;exact o
 have K:∀k,iy q H k->iy ρ H k:=by
  rintro k ⟨l',i,a,c,n⟩;exact⟨l',i,a,hold _ _ a.live c,n⟩
 have aa:∀k,iy ρ H k->k<w.heap.size:=by
  rintro k ⟨l',i,a,c,n⟩;obtain⟨M,o,L⟩:=m.rel.wN a.live;rw[c]at o;cases o;rw[<-n];exact L
 refine⟨m.rW,Env.le_trans m.le hle,m.next,λk h=> ?_,m.rel.grow hle E,V.trans m.os,ae.trans m.tape,W.trans m.output,Nat.le_trans m.size ad,λk a c=> ?_,
  λk h=>m.own k (K k h),m.ro,λk a c n=> ?_,λk cl h=> ?_,λk v A B M ah h aZ T e x=> ?_⟩
 ·rw[y k (by have:=m.next;omega)];exact m.a1 k h
 ·rw[E k (Nat.lt_of_lt_of_le a m.size)];exact m.frame k a c
 ·by_cases d:k=l
  ·subst d;simp at n
  ·simp only[d,if_false]at n;rw[y k d];exact m.fresh k a c n
 ·by_cases d:k=l
  ·subst d;simp only[if_true,aV]at h;subst h;exact⟨S,P,ab,loc,F,Q,Nat.le_trans m.size R,λG=>by have:=aa _ (K _ G);omega⟩
  ·simp only[d,if_false]at h;obtain⟨o,L,s,i,j,u,af,ag⟩:=m.jh k cl h;exact⟨o,L,s,i,hle _ _ j,u.frame hle (E _ (u.lt s)),af,λG=>ag (K _ G)⟩
 ·by_cases d:k=l
  ·by_cases z:v=l
   ·omega
   ·subst d;simp only[z,if_false]at aZ;obtain⟨_,_,s,i,j,u,_,_⟩:=m.jh v B aZ;have:=hle _ _ j;rw[x]at this;cases this;rw[F]at e;cases e;have:=u.lt s;omega
  ·by_cases z:v=l
   ·subst z;simp only[d,if_false]at h;obtain⟨_,_,s,i,j,u,_,_⟩:=m.jh k A h;have:=hle _ _ j;rw[e]at this;cases this;rw[F]at x;cases x;have:=u.lt s;omega
   ·simp only[d,if_false]at h;simp only[z,if_false]at aZ;obtain⟨_,_,_,ai,j,_⟩:=m.jh k A h;obtain⟨_,_,_,aj,O,_⟩:=m.jh v B aZ;have a:=hle _ _ j;rw[e]at a;cases a;have c:=hle _ _ O;rw[x]at c;cases c;exact m.sep k v A B _ _ h aZ T j O
def e0.GK{b:bW}(m:e0 ρ0 H0 w0 N ie ρ H w)(aI:ie H.next=D b):e0 ρ0 H0 w0 N (λk=>if k=H.next then C else ie k) ρ (H.push b) w:=by
 obtain⟨_,W,P,loc,j,y,Q,R⟩:=m.jh _ _ aI;have z:∀k,(H.push b).rw k->k≠H.next->H.rw k:=λk h c=>by simpa [ad.rw,ad.dw c]using h
 have E:∀k,(H.push b).live k->k≠H.next->H.live k:=λk h c=>by simpa [ad.live,ad.dw c]using h
 have A:∀k d,H.live k->ρ k=D d->d.block≠loc.block:=by
  intro k d c e heq;by_cases x:H.rw k
  ·exact R ⟨k,d,x,e,heq⟩
  ·rcases c with⟨ro,esz,els,c⟩|c
   ·cases ro with
    |false=>exact x (.inl ⟨_,_,c⟩)
    |true=>
     have M:=m.ro _ _ _ c;obtain⟨aa,a6,F⟩:=m.rW.wN (.inl ⟨_,_,_,M⟩);have:=m.le _ _ a6;rw[e]at this;cases this;omega
   ·exact x (.inr c)
 have B:∀k,iy ρ (H.push b) k->iy ρ H k\/k=loc.block:=by
  rintro k ⟨l',d,u,o,p⟩;by_cases a:l'=H.next
  ·subst a;rw[j]at o;cases o;exact .inr p.symm
  ·exact .inl ⟨l',d,z _ u a,o,p⟩
 refine⟨m.rW,m.le,by have:=m.next;simp;omega,m.a1,⟨λl ro esz els h=> ?_,λl es h=> ?_,λl t esz els h=> ?_,λl l' q s h aZ v e n=> ?_⟩,m.os,m.tape,m.output,m.size,m.frame,
  λk h=> ?_,λl esz els h=>m.ro l esz els (ad.ES (bW.j7.ro P) l esz els h),λl u o p=> ?_,λl cl h=> ?_,λl l' K L q s h aZ v e n=> ?_⟩
 ·by_cases a:l=H.next
  ·subst a;rw[ad.bI]at h;simp only[aV]at h;subst h;exact⟨loc,j,y⟩
  ·rw[ad.dw a]at h;exact m.rel.row _ _ _ _ h
 ·by_cases a:l=H.next
  ·subst a;rw[ad.bI]at h;simp only[aV]at h;subst h;exact⟨loc,j,y⟩
  ·rw[ad.dw a]at h;exact m.rel.map _ _ h
 ·by_cases a:l=H.next
  ·subst a;rw[ad.bI]at h;simp only[aV]at h;subst h;exact⟨loc,j,y⟩
  ·rw[ad.dw a]at h;exact m.rel.b1 _ _ _ _ h
 ·by_cases a:l=H.next
  ·by_cases i:l'=H.next
   ·omega
   ·subst a;rw[j]at e;cases e;exactλheq=>A l' s (E _ aZ i) n heq.symm
  ·by_cases i:l'=H.next
   ·subst i;rw[j]at n;cases n;exact A l q (z _ h a).live e
   ·exact m.rel.apart l l' q s (z _ h a) (E _ aZ i) v e n
 ·rcases B k h with h|rfl
  ·exact m.own k h
  ·exact .inr Q
 ·simp only[ad.bX]at u;have a:l≠H.next:=af
  simp only[a,if_false]at p;exact m.fresh l af o p
 ·by_cases a:l=H.next
  ·simp[a]at h
  ·simp only[a,if_false]at h;obtain⟨a6,F,S,d,G,T,V,fH⟩:=m.jh l cl h;refine⟨by simp;omega,F,S,d,G,T,V,λO=> ?_⟩;rcases B _ O with aZ|aZ
   ·exact fH aZ
   ·exact m.sep l H.next cl b d loc h aI a G j aZ
 ·by_cases a:l=H.next
  ·simp[a]at h
  ·by_cases i:l'=H.next
   ·simp[i]at aZ
   ·simp only[a,if_false]at h;simp only[i,if_false]at aZ;exact m.sep l l' K L q s h aZ v e n
end
def pd(P:Program)(H:ad)(r:aa)(name:String):Option (Nat×aa):=
 match r with
 | .iface t v=>(match P.info? t with
  |some i=>(match i.methods.find? (·.name==name)with
   |some m=>(match m.path.toList,m.func,P.underlying t with
    |[],D (f,X),D (.pointer _)=>D (f,v)
    |[],D (f,U),D (.pointer e)=>(match v with
     | .ptr .. =>(ak P H e v).bind λu=>D (f,u)
     |_=>C)
    |_,_,_=>C)
   |none=>C)
  |none=>C)
 |_=>C
def E8{P:Program}{w:World}{n:Nat}{t:TypeId}{v:Value}{name:String}{i:TypeInfo}{m:Method}{f:FuncId}{a:Bool}(d:P.info? t=D i)(hm:i.methods.find? (·.name==name)=D m)(aI:m.path.toList=[])(c:m.func=D (f,a)){x:Value}
  (j:(receiverAt t (.val v) a (D ((name.splitOn ".").getLastD name))).run P w= .ok x w):(method (n+1) t v name).run P w= .ok (f,x) w:=by
 have e:m.path.isEmpty=true:=by simpa using aI
 have h:(typeInfo t).run P w= .ok i w:=by simp[typeInfo,d]
 unfold method;simp only[Sem.run_bind,h,Result.andThen_ok,hm,aI,follow,Sem.run_pure,c,e,if_true,j]
def HU{P:Program}{ρ:Env}{H:ad}{w:World}(s:Rel ρ H w){r u:aa}{cx:Value}{name:String}{f:Nat}(h:pd P H r name=D (f,u))(y:bg ρ r cx)(args:Array Value):
  ∃o,bg ρ u o/\(callMethod cx name args).run P w=(callFunc f (#[o]++args)).run P w:=by
 unfold pd at h;split at h
 ·rename_i t v;cases y with|iface _ _ p d=>
  split at h
  ·rename_i i n;split at h
   ·rename_i m hm;have k:P.types.size+Made.depth=(P.types.size+99)+1:=rfl;split at h
    ·rename_i aI a hu;simp only[aV,b4]at h;obtain⟨rfl,rfl⟩:=h;refine⟨p,d,?_⟩;simp only[callMethod,Sem.run_bind,run_program,Result.andThen_ok,k];rw[E8 (x:=p) n hm aI a (by simp only[receiverAt,Sem.run_bind,run_underlying hu,Result.andThen_ok,Place.get,Sem.run_pure])];rfl
    ·rename_i e aI a hu;split at h
     ·rename_i l j c;simp only[cZ,aV,b4]at h;obtain⟨B,q,rfl,rfl⟩:=h;obtain⟨x,an,aE⟩:=ve s q d;cases d with|ptr _ _ _ loc A=>
      refine⟨x,aE,?_⟩;have bn:(loadVar e ⟨loc.block,loc.off+j*loc.esz+c,C⟩).run P w= .ok x w:=by simpa [Instr.loadAt,Instr.sureAddr]using an
      have z:∀cp:String,(Builtin.ssaWrapNilChk_ #[t] t #[.pointer (D ⟨loc.block,loc.off+j*loc.esz+c,C⟩),strVal "",strVal cp]).run P w= .ok (.pointer (D ⟨loc.block,loc.off+j*loc.esz+c,C⟩)) w:=λcp=>rfl
      simp only[callMethod,Sem.run_bind,run_program,Result.andThen_ok,k];rw[E8 (x:=x) n hm aI a (by simp only[receiverAt,Sem.run_bind,run_underlying hu,Result.andThen_ok,Place.get,Sem.run_pure,z,asAddr,bn])];rfl
     ·cases h
    ·cases h
   ·cases h
  ·cases h
 ·cases h
def lp(P:Program)(H:ad)(ae:bb)(c:Call):Option (Nat×List aa):=
 match c.callee with
 | .value f=>match ca ae f with
  |some (.func (.func g) first captured)=>match hj ae c.args.toList with
   |some a=>D (g,first++a++captured)
   |none=>C
  |_=>C
 | .invoke r name=>match ca ae r with
  |some v=>match pd P H v name,hj ae c.args.toList with
   |some (g,u),D a=>D (g,u::a)
   |_,_=>C
  |none=>C
 |_=>C
inductive K where
 |skip
 |pure (v:aa)
 |read (v:aa)
 |new (v:aa) (b:bW)
 |ea (v:aa) (H:ad)
def K.val:K->aa
 | .skip=> .tuple []
 | .pure v=>v
 | .read v=>v
 | .new v _=>v
 | .ea v _=>v
def K.heap(H:ad):K->ad
 | .new _ b=>H.push b
 | .ea _ H'=>H'
 |_=>H
def K.fb:K->Bool
 | .new _ _=>X
 | .ea _ _=>X
 |_=>U
abbrev az:=Nat->List aa->ad->Option (aa×ad)
def wu:Option aa->Option K
 |some v=>D (.pure v)
 |none=>C
def pB:Option aa->Option K
 |some v=>D (.read v)
 |none=>C
def CC:Option (aa×bW)->Option K
 |some (v,b)=>D (.new v b)
 |none=>C
def py(H:ad):Option (aa×ad)->Option K
 |some (v,H')=>if H.next<=H'.next then D (.ea v H')else C
 |none=>C
inductive Hl where
 |pure|read|both|new|write|call
def cls:Op->Hl
 | .load .. => .read
 | .lookup .. => .read
 | .alloc _=> .new
 | .box .. => .new
 | .buildSlice .. => .new
 | .makeMap .. => .new
 | .makeSlice .. => .new
 | .store .. => .write
 | .mapUpdate .. => .write
 | .insert .. => .write
 | .convert .. => .both
 | .call c=>match c.callee with
  | .builtin .append=> .write
  | .builtin .clear=> .write
  | .builtin _=> .both
  |_=> .call
 |_=> .pure
def step1(P:Program)(call:az)(o:Op)(ae:bb)(H:ad):Option K:=
 match cls o with
 | .pure=>wu (iU P o ae)
 | .read=>pB (hh P o ae H)
 | .both=>match iU P o ae with
  |some v=>D (.pure v)
  |none=>pB (hh P o ae H)
 | .new=>CC (jt P o ae H.next)
 | .write=>py H (kC P o ae H)
 | .call=>match o with
  | .call c=>match lp P H ae c with
   |some (g,a)=>py H (call g a H)
   |none=>C
  |_=>C
def nT(o:Op):Bool:=match cls o with
 | .new=>X
 | .write=>X
 | .call=>X
 |_=>U
def Pf{P:Program}{call:az}{o:Op}{ae:bb}{H:ad}{k:K}(h:step1 P call o ae H=D k)(c:k.fb=X):nT o=true:=by
 unfold step1 at h;unfold nT;split at h
 ·unfold wu at h;split at h
  ·simp only[aV]at h;subst h;cases c
  ·cases h
 ·unfold pB at h;split at h
  ·simp only[aV]at h;subst h;cases c
  ·cases h
 ·split at h
  ·simp only[aV]at h;subst h;cases c
  ·unfold pB at h;split at h
   ·simp only[aV]at h;subst h;cases c
   ·cases h
 ·rename_i a;rw[a]
 ·rename_i a;rw[a]
 ·rename_i a;rw[a]
def lj(P:Program)(call:az)(o:Op)(ae:bb)(H:ad):K->Prop
 | .skip=>False
 | .pure v=>iU P o ae=D v
 | .read v=>hh P o ae H=D v
 | .new v b=>jt P o ae H.next=D (v,b)
 | .ea v H'=>H.next<=H'.next/\(kC P o ae H=D (v,H')\/∃c g a,o= .call c/\lp P H ae c=D (g,a)/\call g a H=D (v,H'))
def Pg{P:Program}{call:az}{o:Op}{ae:bb}{H:ad}{k:K}(h:step1 P call o ae H=D k):lj P call o ae H k:=by
 unfold step1 at h;split at h
 ·unfold wu at h;split at h
  ·rename_i v a;simp only[aV]at h;subst h;exact a
  ·cases h
 ·unfold pB at h;split at h
  ·rename_i v a;simp only[aV]at h;subst h;exact a
  ·cases h
 ·split at h
  ·rename_i v a;simp only[aV]at h;subst h;exact a
  ·unfold pB at h;split at h
   ·rename_i v a;simp only[aV]at h;subst h;exact a
   ·cases h
 ·unfold CC at h;split at h
  ·rename_i v b a;simp only[aV]at h;subst h;exact a
  ·cases h
 ·unfold py at h;split at h
  ·rename_i v H' a;split at h
   ·rename_i d;simp only[aV]at h;subst h;exact⟨d,.inl a⟩
   ·cases h
  ·cases h
 ·split at h
  ·rename_i c _;split at h
   ·rename_i g i e;unfold py at h;split at h
    ·rename_i v H' a;split at h
     ·rename_i d;simp only[aV]at h;subst h;exact⟨d,.inr ⟨c,g,i,rfl,e,a⟩⟩
     ·cases h
    ·cases h
   ·cases h
  ·cases h
section congr
variable {P:Program}{ae a_:bb}
def nD:∀{xs:List Operand},(∀x∈xs,ca ae x=ca a_ x)->hj ae xs=hj a_ xs
 |[],_=>rfl
 |x::xs,h=>by
  simp only[hj,h x (by simp),nD (xs:=xs) λy a=>h y (by simp[a])]
def vi:∀{xs:List (Nat×Operand)},(∀x∈xs.map (·.2),ca ae x=ca a_ x)->iT ae xs=iT a_ xs
 |[],_=>rfl
 |(i,x)::xs,h=>by
  simp only[iT,h x (by simp),vi (xs:=xs) λy a=>h y (by simp at a ⊢;exact .inr a)]
def vk{x:Option Operand}(h:∀y,x=D y->ca ae y=ca a_ y):jY ae x=jY a_ x:=by
 cases x with
 |none=>rfl
 |some x=>simp only[jY,h x rfl]
def Ig{o:Op}(h:∀x∈o.operands,ca ae x=ca a_ x):iU P o ae=iU P o a_:=by
 cases o<;>simp only[iU,Op.operands]at h ⊢ <;>first
  |rfl
  |(simp at h;simp[h];done)
  |skip
 ·rename_i t k;rw[vi λx a=>h x (by simpa using a)]
 ·rename_i fn f c;rw[nD λx a=>h x (by simp at a ⊢;exact .inl a),nD (xs:=c.toList) λx a=>h x (by simp at a ⊢;exact .inr a)]
 ·rename_i t x lo i j;rw[h x (by simp),vk (x:=lo) λy d=>h y (by simp[d]),vk (x:=i) λy d=>h y (by simp[d]),vk (x:=j) λy d=>h y (by simp[d])]
 ·rename_i c;cases e:c.callee with
  |builtin b=>
   simp only[Call.operands,e]at h ⊢;rw[nD λx a=>h x (by simpa using a)]
  |value f=>rfl
  |invoke r m=>rfl
def yP{o:Op}{H:ad}(h:∀x∈o.operands,ca ae x=ca a_ x):hh P o ae H=hh P o a_ H:=by
 cases o<;>simp only[hh,Op.operands]at h ⊢ <;>first
  |rfl
  |(simp at h;simp[h];done)
  |skip
 ·rename_i c;cases a:c.callee with
  |builtin b=>
   simp only[Call.operands,a]at h ⊢;rw[nD λx d=>h x (by simpa using d)]
  |value f=>rfl
  |invoke r m=>rfl
def HW{o:Op}{H:ad}(h:∀x∈o.operands,ca ae x=ca a_ x):nC P o ae H=nC P o a_ H:=by
 cases o<;>simp only[nC,Op.operands]at h ⊢ <;>first
  |rfl
  |(simp at h;simp[h];done)
  |skip
 ·rename_i t n c;rw[vi λx a=>h x (by simpa using a)]
 ·rename_i t r;cases r<;>rfl
def HY{o:Op}{l:Nat}(h:∀x∈o.operands,ca ae x=ca a_ x):jt P o ae l=jt P o a_ l:=by
 unfold jt;rw[HW h]
def Is{o:Op}{H:ad}(h:∀x∈o.operands,ca ae x=ca a_ x):kC P o ae H=kC P o a_ H:=by
 cases o<;>simp only[kC,Op.operands]at h ⊢ <;>first
  |rfl
  |(simp at h;simp[h];done)
  |skip
 ·rename_i c;cases i:c.callee with
  |builtin b=>
   simp only[Call.operands,i]at h ⊢;cases d:c.args.toList with
   |nil=>cases b<;>rfl
   |cons s r=>
    cases r with
    |nil=>
     have a:s∈c.args.toList:=by simp[d]
     cases b<;>first
      |rfl
      |(simp only;rw[h s (by simpa using a)])
    |cons x r=>
     cases r with
     |nil=>
      have a:s∈c.args.toList:=by simp[d]
      have e:x∈c.args.toList:=by simp[d]
      cases b<;>first
       |rfl
       |(simp only;rw[h s (by simpa using a),h x (by simpa using e)])
     |cons y r=>cases b<;>rfl
  |value f=>rfl
  |invoke r m=>rfl
def Hz{c:Call}{H:ad}(h:∀x∈c.operands,ca ae x=ca a_ x):lp P H ae c=lp P H a_ c:=by
 unfold lp;cases d:c.callee with
 |builtin b=>rfl
 |value f=>
  simp only[Call.operands,d]at h ⊢;rw[h f (by simp),nD λx a=>h x (by simp at a ⊢;exact .inr a)]
 |invoke r m=>
  simp only[Call.operands,d]at h ⊢;rw[h r (by simp),nD λx a=>h x (by simp at a ⊢;exact .inr a)]
def lj.congr{call:az}{o:Op}{H:ad}{k:K}(h:∀x∈o.operands,ca ae x=ca a_ x)(a:lj P call o ae H k):lj P call o a_ H k:=by
 cases k with
 |skip=>exact a
 |pure v=>exact(Ig h).symm.trans a
 |read v=>exact(yP h).symm.trans a
 |new v b=>exact(HY h).symm.trans a
 |ea v H'=>
  obtain⟨e,d|⟨c,g,j,rfl,d,i⟩⟩:=a
  ·exact⟨e,.inl ((Is h).symm.trans d)⟩
  ·exact⟨e,.inr ⟨c,g,j,rfl,(Hz h).symm.trans d,i⟩⟩
end congr
def me(P:Program)(m:Sem Next)(w:World)(next:Value->World->Prop):Prop:=
 match m.run P w with
 | .ok (.value x) a=>next x a
 | .ok (.enter f args) a=>Calls P f args a λ
  | .returned x,c=>next x c
  |_,_=>False
 |_=>False
def iQ(E:Env)(P:Program)(g:Nat)(args:List aa)(H:ad)(v:aa)(H':ad):Prop:=∀(ρ:Env) (w:World) (xs:List Value),Rel ρ H w->h3 E ρ H.next H'.next->bw ρ args xs->H.next<=H'.next->∀next:Value->World->Prop,(∀x a c,bg c v x->Step ρ H w c H' a->next x a)->me P (callFunc g xs.toArray) w next
def jn(E:Env)(P:Program)(call:az):Prop:=∀g args H v H',call g args H=D (v,H')->iQ E P g args H v H'
section
variable {E:Env}{P:Program}{call:az}{ρ:Env}{H H':ad}{w:World}{ae:bb}{a:Act}{o:Oper}{v:aa}{kt:Act->World->Prop}{Q:Exit->Act->World->Prop}
def Ej(h:iU P o.op ae=D v)(d:dN ρ ae a)(c:∀x,bg ρ v x->kt (a.put o.dst x) w):o.wp P a w kt Q:=by
 obtain⟨x,an,aE⟩:=Ih h d w;unfold Oper.wp;rw[an];exact c x aE
def ED(c:Rel ρ H w)(h:hh P o.op ae H=D v)(e:dN ρ ae a)(d:∀x,bg ρ v x->kt (a.put o.dst x) w):o.wp P a w kt Q:=by
 obtain⟨x,an,aE⟩:=Ii c h e;unfold Oper.wp;rw[an];exact d x aE
def DH{l:Nat}{b:bW}(h:jt P o.op ae l=D (v,b))(q:dN ρ ae a)(n:ρ l=C)
  (p:∀x c d loc,bg d v x->ρ.le d->(∀k,k≠l->d k=ρ k)->d l=D loc->w.heap.size<=loc.block->b.j7=X->iP d c loc b->
   c.os=w.os->c.tape=w.tape->c.output=w.output->w.heap.size<=c.heap.size->(∀k,k<w.heap.size->c.heap[k]? =w.heap[k]?)->kt (a.put o.dst x) c):o.wp P a w kt Q:=by
 obtain⟨x,c,d,loc,an,aE,bn,b8,dK,kG,nK,lu,q3,e,i,j,m⟩:=HZ h q n w;unfold Oper.wp;rw[an];exact p x c d loc aE bn b8 dK kG nK lu q3 e i j m
def zU(R:jn E P call)(q:Rel ρ H w)(G:h3 E ρ H.next H'.next)(h:lj P call o.op ae H (.ea v H'))(m:dN ρ ae a)
  (s:∀x i k,bg k v x->Step ρ H w k H' i->kt (a.put o.dst x) i):o.wp P a w kt Q:=by
 obtain⟨S,A|⟨c,g,af,O,d,N⟩⟩:=h
 ·obtain⟨n,x,i,k,an,aE,bn,b8⟩:=It q A (G.new _ (bj _)) m;unfold Oper.wp;rw[an];unfold yf at aE;split at aE
  ·subst aE;exact s _ i k bn b8
  ·subst aE;exact s _ i k bn b8
  ·exact aE.elim
 ·unfold lp at d;split at d
  ·rename_i f F;split at d
   ·rename_i hn first captured V
    split at d
    ·rename_i ab L;simp only[aV,b4]at d;obtain⟨rfl,rfl⟩:=d;have p:=dq m V;have B:=nE m L;generalize he:a.eval f=z at p;cases p with|func _ _ _ hB c' a6 M=>
     have j:=R _ _ _ _ _ N ρ w _ q G ((a6.append B).append M) S (λx i=>kt (a.put o.dst x) i) (λx i k=>s x i k);have K:(execOp a.eval o).run P w=(callFunc hn ((hB++c.args.toList.map a.eval++c').toArray)).run P w:=by
      unfold execOp;rw[O];simp only[resolve,F,he,Deferred.ofValue,pure_bind,invoke]
      congr 2
      rw[map_toArray a.eval];simp
     unfold Oper.wp;rw[K];unfold me at j;split at j
     ·rename_i e;rw[e];exact j
     ·rename_i e;rw[e];refine Calls.mono j λy ad l=> ?_
      cases y<;>first|exact l|exact l.elim
     ·exact j.elim
    ·cases d
   ·cases d
  ·rename_i bL name F;split at d
   ·rename_i v0 W;split at d
    ·rename_i hn u ab hm L;simp only[aV,b4]at d;obtain⟨rfl,rfl⟩:=d;have p:=dq m W;have B:=nE m L;obtain⟨aa,a6,M⟩:=HU q hm p (c.args.toList.map a.eval).toArray;have j:=R _ _ _ _ _ N ρ w _ q G (.cons _ _ _ _ a6 B) S (λx i=>kt (a.put o.dst x) i) (λx i k=>s x i k);have K:(execOp a.eval o).run P w=(callFunc hn ((aa::c.args.toList.map a.eval).toArray)).run P w:=by
      unfold execOp;rw[O];simp only[resolve,F,pure_bind,invoke];rw[map_toArray a.eval];have T:(#[a.eval bL]++(c.args.toList.map a.eval).toArray)[0]? =D (a.eval bL):=by simp
      have A:(#[a.eval bL]++(c.args.toList.map a.eval).toArray).extract 1 (#[a.eval bL]++(c.args.toList.map a.eval).toArray).size=(c.args.toList.map a.eval).toArray:=by
       apply Array.ext';simp;exact List.take_of_length_le (by simp)
      rw[T,A];simp only
      rw[M];simp
     unfold Oper.wp;rw[K];unfold me at j;split at j
     ·rename_i e;rw[e];exact j
     ·rename_i e;rw[e];refine Calls.mono j λy ad l=> ?_
      cases y<;>first|exact l|exact l.elim
     ·exact j.elim
    ·cases d
   ·cases d
  ·cases d
end
def j1(acc:List Nat):List Edge->Nat
 |[]=>0
 |e::es=>if Region.binds .any e then 2^e.on|||(acc[e.on]?.getD 0|||j1 acc es)else j1 acc es
def lC:List Oper->List Nat->List Nat
 |[],acc=>acc
 |o::os,acc=>lC os (acc++[j1 acc o.after.toList])
def dF(ops:Array Oper):List Nat:=lC ops.toList []
def di(ms:List Nat)(j i:Nat):Bool:=(ms[i]?.getD 0).testBit j
def Du:∀(os pre:List Oper) (acc:List Nat),acc.length=pre.length->(∀i o,pre[i]? =D o->acc[i]? =D (j1 (acc.take i) o.after.toList))->
  ∀i o,(pre++os)[i]? =D o->(lC os acc)[i]? =D (j1 ((lC os acc).take i) o.after.toList)
 |[],pre,acc,c,h,i,o,d=>by simpa [lC]using h i o (by simpa using d)
 |p::os,pre,acc,c,h,i,o,d=>by
  unfold lC;refine Du os (pre++[p]) _ (by simp[c]) (λj q a=> ?_) i o (by simpa using d);rcases Nat.lt_or_ge j pre.length with k|e
  ·rw[List.getElem?_append_left k]at a;rw[List.getElem?_append_left af,h j q a,List.take_append_of_le_length af]
  ·rw[List.getElem?_append_right e]at a;have:j=pre.length:=by
    have:=(List.getElem?_eq_some_iff.1 a).1;simp at this;omega
   subst this;simp at a;subst a;rw[List.getElem?_append_right af,<-c];simp
def Dv{ops:Array Oper}{i:Nat}{o:Oper}(h:ops[i]? =D o):(dF ops)[i]? =D (j1 ((dF ops).take i) o.after.toList):=
 Du ops.toList [] [] rfl (by simp) i o (by simpa using h)
def vE{acc:List Nat}{e:Edge}:∀{es:List Edge},e∈es->Region.binds .any e=X->(j1 acc es).testBit e.on=X
 |[],h,_=>by simp at h
 |d::es,h,a=>by
  unfold j1;rcases List.mem_cons.1 h with rfl|h
  ·rw[if_pos a];simp[Nat.testBit_two_pow_self]
  ·split
   ·simp[vE h a]
   ·exact vE h a
def vD{acc:List Nat}{j:Nat}:∀{es:List Edge},(j1 acc es).testBit j=X->∃e∈es,Region.binds .any e=X/\(j=e.on\/(acc[e.on]?.getD 0).testBit j=X)
 |[],h=>by simp[j1]at h
 |d::es,h=>by
  unfold j1 at h;split at h
  ·rename_i k;simp only[Nat.testBit_or,Bool.or_eq_true]at h;rcases h with h|h|h
   ·refine⟨d,by simp,k,.inl ?_⟩;rw[Nat.testBit_two_pow]at h;simpa using(of_decide_eq_true h).symm
   ·exact⟨d,by simp,k,.inr h⟩
   ·obtain⟨e,a,c,i⟩:=vD h;exact⟨e,by simp[a],c,i⟩
  ·obtain⟨e,a,c,i⟩:=vD h;exact⟨e,by simp[a],c,i⟩
def o8(L:Nat->Bool)(o:Oper):Prop:=∀e∈o.after,Region.binds .any e=X->L e.on=X
def qE(ops:Array Oper)(L:Nat->Bool):Prop:=∀i o,ops[i]? =D o->L i=X->o8 L o
def kD{ops:Array Oper}{L:Nat->Bool}(q:qE ops L):∀(i:Nat) (o:Oper),ops[i]? =D o->o8 L o->∀j,di (dF ops) j i=X->L j=true:=by
 intro i
 induction i using Nat.strongRecOn with
 |_ i h=>
  intro o s hw j c;unfold di at c;rw[Dv s]at c;simp only[Option.getD_some]at c;obtain⟨e,n,p,a⟩:=vD c;have k:=hw e (by simpa using n) p;rcases a with rfl|a
  ·exact k
  ·rcases Nat.lt_or_ge e.on i with l|x
   ·rw[List.getElem?_take_of_lt l]at a;cases d:ops[e.on]? with
    |none=>
     cases hm:(dF ops)[e.on]? with
     |none=>rw[hm]at a;simp at a
     |some m=>
      exfalso;have hlen:∀(os:List Oper) (acc:List Nat),(lC os acc).length=acc.length+os.length:=by
       intro os
       induction os with
       |nil=>intro acc;simp[lC]
       |cons o os h=>intro acc;simp[lC,h];omega
      have u:=(List.getElem?_eq_some_iff.1 hm).1;have v:(dF ops).length=ops.size:=by unfold dF;rw[hlen];simp
      have w:ops.size<=e.on:=by simpa using d
      omega
    |some pL=>exact h e.on l pL d (q _ _ d k) j a
   ·rw[List.getElem?_eq_none (by simp;omega)]at a;simp at a
def Iz{ops:Array Oper}{i:Nat}{o:Oper}(c:ops[i]? =D o){e:Edge}(he:e∈o.after)(a:Region.binds .any e=X):di (dF ops) e.on i=true:=by
 unfold di;rw[Dv c];exact vE (by simpa using he) a
def kB(ops:Array Oper)(ae:bb)(o:Oper):Bool:=
 match o.guard with
 |none=>X
 |some (j,want)=>match ops[j]? with
  |some q=>(match q.dst with
   |some d=>(match ae.get d with
    | .bool b=>b==want
    |_=>U)
   |none=>U)
  |none=>U
def yZ{ρ:Env}{ops:Array Oper}{ae:bb}{a:Act}(i:dN ρ ae a)(o:Oper):Region.wanted o (yielded ops a.tmps)=kB ops ae o:=by
 unfold Region.wanted kB;cases l:o.guard with
 |none=>rfl
 |some p=>
  obtain⟨j,want⟩:=p;simp only
  unfold yielded;cases m:ops[j]? with
  |none=>simp
  |some q=>
   cases e:q.dst with
   |none=>simp[e]
   |some d=>
    simp only[Option.bind_some,e];have c:=i.get d;rw[Array.getD_eq_getD_getElem?]at c;cases h:a.tmps[d]? with
    |none=>
     rw[h]at c;simp only[Option.getD_none]at c;generalize k:ae.get d=v at c;cases v<;>first|rfl|(exfalso;cases c)
    |some x=>
     rw[h]at c;simp only[Option.getD_some]at c;generalize k:ae.get d=v at c;cases c<;>first|rfl|(simp;done)
def Ir{ops:Array Oper}{ae a_:bb}{o:Oper}(h:∀d∈o.looksAt ops,ae.get d=a_.get d):kB ops ae o=kB ops a_ o:=by
 unfold kB;cases c:o.guard with
 |none=>rfl
 |some p=>
  obtain⟨j,want⟩:=p;simp only
  cases e:ops[j]? with
  |none=>rfl
  |some q=>
   cases a:q.dst with
   |none=>simp[a]
   |some d=>
    simp only[a];rw[h d (by simp[Oper.looksAt,c,e,a])]
def Iq{ops:Array Oper}{ae a_:bb}{o:Oper}(h:∀d∈o.looksAt ops,ae.get d=a_.get d):∀x∈o.op.operands,ca ae x=ca a_ x:=by
 intro x a;cases x with
 |tmp t=>
  simp only[ca];rw[h t ?_];unfold Oper.looksAt;refine List.mem_append.2 (.inl ?_);rw[List.mem_filterMap];exact⟨.tmp t,by simpa using a,rfl⟩
 |const v=>rfl
 |global g=>rfl
 |func f=>rfl
structure bN where
 i:Nat
 o:Oper
 ae:bb
 k:K
def hD(P:Program)(call:az)(ops:Array Oper)(o:Oper)(ae:bb)(H:ad):Option K:=
 match kB ops ae o with
 |true=>step1 P call o.op ae H
 |false=>D .skip
def canRun(P:Program)(call:az)(ops:Array Oper):List Nat->bb->ad->Option (List bN×bb×ad)
 |[],ae,H=>D ([],ae,H)
 |i::is,ae,H=>match ops[i]? with
  |none=>C
  |some o=>match hD P call ops o ae H with
   |none=>C
   |some k=>match ae.put o.dst k.val with
    |none=>C
    |some a_=>match canRun P call ops is a_ (k.heap H)with
     |none=>C
     |some (T,cD,bR)=>D (⟨i,o,ae,k⟩::T,cD,bR)
def cr:List bN->ad->ad
 |[],H=>H
 |t::ts,H=>cr ts (t.k.heap H)
def j4(A B:List bN)(H:ad):cr (A++B) H=cr B (cr A H):=by
 induction A generalizing H with
 |nil=>rfl
 |cons t A a=>simp[cr,a]
def fI(L:Nat->Bool)(d:Nat):List bN->aa->aa
 |[],v=>v
 |t::ts,v=>fI L d ts (if L t.i=X/\t.o.dst=D d then t.k.val else v)
def xl(L:Nat->Bool)(d:Nat)(A B:List bN)(v:aa):fI L d (A++B) v=fI L d B (fI L d A v):=by
 induction A generalizing v with
 |nil=>rfl
 |cons t A a=>simp[fI,a]
def rV{L L':Nat->Bool}{d:Nat}:∀{A:List bN} {v:aa},(∀t∈A,t.o.dst=D d->L t.i=L' t.i)->fI L d A v=fI L' d A v
 |[],_,_=>rfl
 |t::A,v,h=>by
  simp only[fI];have:(L t.i=X/\t.o.dst=D d)↔(L' t.i=X/\t.o.dst=D d):=by
   constructor
   ·rintro⟨c,a⟩;exact⟨by rw[<-h t (by simp) a];exact c,a⟩
   ·rintro⟨c,a⟩;exact⟨by rw[h t (by simp) a];exact c,a⟩
  simp only[this];exact rV λu hu=>h u (by simp[hu])
def tH{L:Nat->Bool}{d:Nat}:∀{A:List bN} {v:aa},(∀t∈A,t.o.dst=D d->L t.i=U)->fI L d A v=v
 |[],_,_=>rfl
 |t::A,v,h=>by
  simp only[fI];rw[if_neg (by rintro⟨a,c⟩;rw[h t (by simp) c]at a;cases a)];exact tH λu hu=>h u (by simp[hu])
def kF{P:Program}{call:az}{ops:Array Oper}:∀{is:List Nat} {ae:bb} {H:ad} {T:List bN} {cD:bb} {bR:ad},canRun P call ops is ae H=D (T,cD,bR)->
  T.map (·.i)=is/\bR=cr T H/\cD.size=ae.size/\∀d,cD.get d=fI (λ_=>X) d T (ae.get d)
 |[],ae,H,T,cD,bR,h=>by
  simp only[canRun,aV,b4]at h;obtain⟨rfl,rfl,rfl⟩:=h;exact⟨rfl,rfl,rfl,λ_=>rfl⟩
 |i::is,ae,H,T,cD,bR,h=>by
  simp only[canRun]at h;split at h
  ·cases h
  ·rename_i o m;split at h
   ·cases h
   ·rename_i k l;split at h
    ·cases h
    ·rename_i a_ a;split at h
     ·cases h
     ·rename_i j e c aZ;simp only[aV,b4]at h;obtain⟨rfl,rfl,rfl⟩:=h;obtain⟨an,aE,bn,b8⟩:=kF aZ;refine⟨by simp[an],aE,by rw[bn,bb.qm a],λd=> ?_⟩;rw[b8 d,bb.rh a d];simp[fI]
def vt{P:Program}{call:az}{ops:Array Oper}:∀{A:List bN} {is:List Nat} {ae:bb} {H:ad} {t:bN} {B:List bN} {cD:bb} {bR:ad},canRun P call ops is ae H=D (A++t::B,cD,bR)->
  ops[t.i]? =D t.o/\(∀d,t.ae.get d=fI (λ_=>X) d A (ae.get d))/\hD P call ops t.o t.ae (cr A H)=D t.k/\(∀d,t.o.dst=D d->d<ae.size)
 |A,[],ae,H,t,B,cD,bR,h=>by
  simp only[canRun,aV,b4]at h;have:=h.1;simp at this
 |A,i::is,ae,H,t,B,cD,bR,h=>by
  simp only[canRun]at h;split at h
  ·cases h
  ·rename_i o l;split at h
   ·cases h
   ·rename_i k j;split at h
    ·cases h
    ·rename_i a_ c;split at h
     ·cases h
     ·rename_i p n m aZ;simp only[aV,b4]at h;obtain⟨a,rfl,rfl⟩:=h;cases A with
      |nil=>
       simp only[List.nil_append,List.cons.injEq]at a;obtain⟨rfl,rfl⟩:=a;refine⟨l,λ_=>rfl,j,λd e=> ?_⟩;simp only at e;rw[e]at c;exact bb.Em c
      |cons u A=>
       simp only[List.cons_append,List.cons.injEq]at a;obtain⟨rfl,rfl⟩:=a;obtain⟨an,aE,bn,b8⟩:=vt aZ;refine⟨an,λd=> ?_,bn,λd e=>by rw[<-bb.qm c];exact b8 d e⟩;rw[aE d,bb.rh c d];simp[fI]
def eC:ad->List bN->Prop
 |_,[]=>True
 |H,t::ts=>H.next<=(t.k.heap H).next/\eC (t.k.heap H) ts
def eC.append:∀{A B:List bN} {H:ad},eC H (A++B)->eC H A/\eC (cr A H) B
 |[],_,_,h=>⟨trivial,h⟩
 |_::A,_,_,h=>by
  obtain⟨a,c⟩:=h;obtain⟨d,e⟩:=eC.append (A:=A) c;exact⟨⟨a,d⟩,e⟩
def eC.le:∀{A:List bN} {H:ad},eC H A->H.next<=(cr A H).next
 |[],_,_=>bj _
 |_::A,_,h=>Nat.le_trans h.1 (eC.le (A:=A) h.2)
def pA{P:Program}{call:az}{ops:Array Oper}{o:Oper}{ae:bb}{H:ad}{k:K}(h:hD P call ops o ae H=D k):
  (kB ops ae o=X/\lj P call o.op ae H k)\/(kB ops ae o=U/\k= .skip):=by
 unfold hD at h;split at h
 ·rename_i hw;exact .inl ⟨hw,Pg h⟩
 ·rename_i hw;simp only[aV]at h;exact .inr ⟨hw,h.symm⟩
def Cz{P:Program}{call:az}{ops:Array Oper}{o:Oper}{ae:bb}{H:ad}{k:K}(h:hD P call ops o ae H=D k)(a:k.fb=X):nT o.op=true:=by
 unfold hD at h;split at h
 ·exact Pf h a
 ·simp only[aV]at h;subst h;cases a
def wm{P:Program}{call:az}{ops:Array Oper}{o:Oper}{ae:bb}{H:ad}{k:K}(h:hD P call ops o ae H=D k):H.next<=(k.heap H).next:=by
 rcases pA h with⟨_,h⟩|⟨_,rfl⟩
 ·cases k with
  |ea v H'=>exact h.1
  |new v b=>simp[K.heap]
  |_=>exact bj _
 ·exact bj _
def qV{P:Program}{call:az}{ops:Array Oper}:∀{is:List Nat} {ae:bb} {H:ad} {T:List bN} {cD:bb} {bR:ad},canRun P call ops is ae H=D (T,cD,bR)->eC H T
 |[],ae,H,T,cD,bR,h=>by
  simp only[canRun,aV,b4]at h;obtain⟨rfl,rfl,rfl⟩:=h;trivial
 |i::is,ae,H,T,cD,bR,h=>by
  simp only[canRun]at h;split at h
  ·cases h
  ·rename_i o j;split at h
   ·cases h
   ·rename_i k a;split at h
    ·cases h
    ·split at h
     ·cases h
     ·rename_i e d c aZ;simp only[aV,b4]at h;obtain⟨rfl,rfl,rfl⟩:=h;exact⟨wm a,qV aZ⟩
def eb(L:Nat->Bool):List bN->ad->Nat->Option bW
 |[],_,_=>C
 |t::ts,H,l=>match t.k with
  | .new _ b=>if l=H.next then(if L t.i=X then D b else C)else eb L ts (H.push b) l
  |k=>eb L ts (k.heap H) l
def rN{L:Nat->Bool}:∀{T:List bN} {H:ad} {l:Nat} {b:bW},eC H T->eb L T H l=D b->H.next<=l
 |[],_,_,_,_,h=>by cases h
 |t::ts,H,l,b,hm,h=>by
  unfold eb at h;split at h
  ·rename_i v cl a;split at h
   ·omega
   ·have:=rN (by have:=hm.2;rwa[a]at this) h;simp at this;omega
  ·have c:=hm.1;have:=rN hm.2 h;omega
def rM{L L':Nat->Bool}:∀{T:List bN} {H:ad},(∀t∈T,∀v b,t.k= .new v b->L t.i=L' t.i)->eb L T H=eb L' T H
 |[],_,_=>rfl
 |t::ts,H,h=>by
  funext l
  unfold eb;split
  ·rename_i v b a;rw[h t (by simp) v b a,rM (T:=ts) (λu hu=>h u (by simp[hu]))]
  ·rw[rM (T:=ts) (λu hu=>h u (by simp[hu]))]
def rO{L:Nat->Bool}{t:bN}{ts:List bN}{H:ad}(h:∀v b,t.k≠ .new v b):eb L (t::ts) H=eb L ts (t.k.heap H):=by
 funext l
 show(match t.k with
  | .new _ b=>if l=H.next then(if L t.i=X then D b else C)else eb L ts (H.push b) l
  |k=>eb L ts (k.heap H) l)=_
 split
 ·rename_i v b a;exact absurd a (h v b)
 ·rfl
def Ec{L L':Nat->Bool}{t:bN}{v:aa}{b:bW}(m:t.k= .new v b)(l:L t.i=U)(o:L' t.i=X):∀{zC zD:List bN} {H:ad},eC H (zC++t::zD)->
  (∀u∈zC,L u.i=L' u.i)->(∀u∈zD,L u.i=L' u.i)->
  eb L' (zC++t::zD) H=(λk=>if k=(cr zC H).next then D b else eb L (zC++t::zD) H k)/\eb L (zC++t::zD) H (cr zC H).next=C
 |[],zD,H,hm,e,j=>by
  constructor
  ·funext k
   simp only[List.nil_append,cr,eb,m,l,o,if_true,Bool.false_eq_true,if_false];rw[rM (T:=zD) λu hu _ _ _=>j u hu];split<;>rfl
  ·simp[eb,m,l,cr]
 |c::zC,zD,H,hm,e,j=>by
  obtain⟨w,n⟩:=hm;obtain⟨an,aE⟩:=Ec m l o (zC:=zC) (zD:=zD) n (λu hu=>e u (by simp[hu])) j;by_cases a:∃s cl,c.k= .new s cl
  ·obtain⟨s,cl,a⟩:=a;have hle:(c.k.heap H).next<=(cr zC (c.k.heap H)).next:=(eC.append n).1.le
   rw[a]at an aE hle;simp only[K.heap,ad.bX]at hle an aE;constructor
   ·funext k
    simp only[List.cons_append,eb,a,cr,K.heap];rw[<-e c (by simp),an];by_cases p:k=H.next
    ·subst p;simp only[if_true];by_cases d:H.next=(cr zC (H.push cl)).next
     ·omega
     ·simp only[d,if_false]
    ·simp only[p,if_false];by_cases d:k=(cr zC (H.push cl)).next
     ·simp only[d,if_true]
     ·simp only[d,if_false]
   ·simp only[List.cons_append,eb,a,cr,K.heap];rw[if_neg af];exact aE
  ·have q:∀v b,c.k≠ .new v b:=λv b h=>a ⟨v,b,h⟩
   rw[List.cons_append,rO q,rO q,cr];exact⟨an,aE⟩
section
mutual
def aa.beq:aa->aa->Bool
 | .bool a,.bool b=>a==b
 | .int k n,.int o m=>decide (k=o)&&decide (n=m)
 | .str s,.str t=>decide (s=t)
 | .ptr l i c,.ptr l' d c'=>decide (l=l')&&decide (i=d)&&decide (c=c')
 | .nilPtr,.nilPtr=>X
 | .aB l i n e c,.aB l' d p j c'=>decide (l=l')&&decide (i=d)&&decide (n=p)&&decide (e=j)&&decide (c=c')
 | .ar,.ar=>X
 | .map l,.map l'=>decide (l=l')
 | .hV,.hV=>X
 | .nilFunc,.nilFunc=>X
 | .iface t v,.iface q u=>decide (t=q)&&aa.beq v u
 | .nilIface,.nilIface=>X
 | .agg xs,.agg h=>fV.beq xs h
 | .tuple xs,.tuple h=>fV.beq xs h
 |_,_=>U
def fV.beq:List aa->List aa->Bool
  |[],[]=>X
  |x::xs,y::a=>aa.beq x y&&fV.beq xs a
  |_,_=>U
 end
mutual
def aa.beq_eq:∀{a b:aa},aa.beq a b=X->a=b:=by
 intro a b h;cases a<;>cases b<;>simp only[aa.beq]at h<;>first
  |(cases h;done)
  |rfl
  |(simp at h;simp[h];done)
  |skip
 ·simp only[Bool.and_eq_true,decide_eq_true_eq]at h;obtain⟨rfl,h⟩:=h;rw[aa.beq_eq h]
 ·rw[fV.beq_eq h]
 ·rw[fV.beq_eq h]
def fV.beq_eq:∀{a b:List aa},fV.beq a b=X->a=b:=by
  intro a b h;cases a with
  |nil=>cases b with
   |nil=>rfl
   |cons y c=>simp[fV.beq]at h
  |cons x xs=>cases b with
   |nil=>simp[fV.beq]at h
   |cons y c=>
    simp only[fV.beq,Bool.and_eq_true]at h;rw[aa.beq_eq h.1,fV.beq_eq h.2]
 end
def rL(ops:Array Oper)(ms:List Nat)(i j:Nat):Bool:=
 match ops[i]?,ops[j]? with
 |some o,D q=>(i != j)&&(!di ms j i)&&(di ms i j||o.apart ops q)
 |_,_=>U
def tz(ops:Array Oper)(ms:List Nat):List Nat->Bool
 |[]=>X
 |i::is=>is.all (rL ops ms i)&&tz ops ms is
def D9{ops:Array Oper}{ms:List Nat}:∀{is:List Nat},tz ops ms is=X->is.Pairwise λi j=>rL ops ms i j=X
 |[],_=> .nil
 |i::is,h=>by
  simp only[tz,Bool.and_eq_true,List.all_eq_true]at h;exact .cons h.1 (D9 h.2)
def zS(n:Nat)(o:Oper):Bool:=o.after.toList.all λe=> !Region.binds .any e||decide (e.on<n)
def pS(ops:Array Oper)(ms ord:List Nat):Bool:=(List.range ops.size).all (λi=>ord.contains i)&&(ord.all (λi=> !di ms i i)&&(ops.toList.all (zS ops.size)&&tz ops ms ord))
def iY(ms:List Nat):List bN->List Nat->Bool
 |[],_=>X
 |t::ts,ids=>match t.k with
  | .ea _ _=>ids.all (λj=>di ms j t.i)&&iY ms ts (t.i::ids)
  | .new _ _=>iY ms ts (t.i::ids)
  |_=>iY ms ts ids
def sN{ms:List Nat}:∀{A:List bN} {t:bN} {B:List bN} {ids:List Nat} {v:aa} {H:ad},iY ms (A++t::B) ids=X->t.k= .ea v H->
  (∀j∈ids,di ms j t.i=X)/\∀u∈A,u.k.fb=X->di ms u.i t.i=X
 |[],t,B,ids,v,H,h,l=>by
  simp only[List.nil_append,iY,l,Bool.and_eq_true,List.all_eq_true]at h;exact⟨h.1,λu hu=>by simp at hu⟩
 |c::A,t,B,ids,v,H,h,l=>by
  simp only[List.cons_append,iY]at h;split at h
  ·simp only[Bool.and_eq_true]at h;obtain⟨a,e⟩:=sN h.2 l;refine⟨λj m=>a j (by simp[m]),λu hu d=> ?_⟩;rcases List.mem_cons.1 hu with rfl|hu
   ·exact a _ (by simp)
   ·exact e u hu d
  ·obtain⟨a,e⟩:=sN h l;refine⟨λj m=>a j (by simp[m]),λu hu d=> ?_⟩;rcases List.mem_cons.1 hu with rfl|hu
   ·exact a _ (by simp)
   ·exact e u hu d
  ·rename_i o p;obtain⟨a,e⟩:=sN h l;refine⟨a,λu hu d=> ?_⟩;rcases List.mem_cons.1 hu with rfl|hu
   ·exfalso;cases n:u.k with
    |new v b=>exact p v b n
    |ea v H=>exact o v H n
    |_=>rw[n]at d;cases d
   ·exact e u hu d
def jO(ms:List Nat)(rd:ad->Bool)(i:Nat):List bN->ad->Bool
 |[],H=>rd H
 |t::ts,H=>if t.k.fb then(di ms t.i i||rd H)&&(di ms i t.i||jO ms rd i ts (t.k.heap H))else jO ms rd i ts H
def s3{k:K}(h:k.fb=U)(H:ad):k.heap H=H:=by
 cases k<;>first|rfl|cases h
def ya{ms:List Nat}{rd:ad->Bool}{i:Nat}:∀{A B:List bN} {H:ad},jO ms rd i (A++B) H=X->(∀u∈A,u.k.fb=X->di ms i u.i=U)->
  (∀u e,B=u::e->u.k.fb=X/\di ms u.i i=U)->rd (cr A H)=X
 |[],[],H,h,_,_=>h
 |[],u::B,H,h,_,a=>by
  obtain⟨j,l⟩:=a u B rfl;simp only[List.nil_append,jO,j,if_true,Bool.and_eq_true,Bool.or_eq_true,l]at h;simpa [cr]using h.1
 |t::A,B,H,h,c,a=>by
  simp only[List.cons_append,jO]at h;split at h
  ·rename_i d;simp only[Bool.and_eq_true,Bool.or_eq_true,c t (by simp) d]at h;rw[cr];exact ya (h.2.resolve_left (by simp)) (λu hu=>c u (by simp[hu])) a
  ·rename_i d;rw[cr,s3 (by simpa using d)];exact ya h (λu hu=>c u (by simp[hu])) a
def oa(P:Program)(o:Op)(ae:bb)(v:aa)(H:ad):Bool:=
 match hh P o ae H with
 |some u=>aa.beq u v
 |none=>U
def EC{P:Program}{o:Op}{ae:bb}{v:aa}{H:ad}(h:oa P o ae v H=X):hh P o ae H=D v:=by
 unfold oa at h;split at h
 ·rename_i u hu;rw[hu,aa.beq_eq h]
 ·cases h
def ad.only(H:ad):ad:=match H.get (H.next-1)with
 |some b=>⟨bp.put b H.next .leaf (H.next-1),H.next⟩
 |none=>⟨.leaf,H.next⟩
def ad.rJ{H:ad}{b:bW}{l:Nat}{x:bW}(h:(H.push b).only.get l=D x):l=H.next/\x=b:=by
 have e:(H.push b).get ((H.push b).next-1)=D b:=ad.bI H b;unfold ad.only at h;rw[e]at h;simp only[ad.get,ad.bX,Nat.add_sub_cancel]at h;split at h
 ·by_cases a:H.next=l
  ·subst a;rw[bp.rj _ _ _ _ af]at h;exact⟨rfl,by simpa using h.symm⟩
  ·rw[bp.ri _ _ _ _ _ a]at h;rw[bp.re]at h;cases h
 ·cases h
def mB(k:K):Bool:=match k with
 | .ea _ _=>U
 |_=>X
def nG(ms:List Nat)(i:Nat):List bN->Bool->Bool
 |[],_=>U
 |t::ts,s=>match t.k with
  | .new _ _=>(s&&di ms t.i i&&ts.all λu=>mB u.k)||nG ms i ts (s|| !di ms t.i i)
  | .ea _ _=>nG ms i ts (s|| !di ms t.i i)
  |_=>nG ms i ts s
def j_(ms:List Nat)(rd:ad->Bool)(i:Nat):List bN->ad->Bool->Bool
 |[],_,_=>U
 |t::ts,H,s=>match t.k with
  | .new _ b=>bif s&&di ms t.i i&&ts.all (λu=>mB u.k)then rd (H.push b).only||j_ ms rd i ts (H.push b) (s|| !di ms t.i i)else j_ ms rd i ts (H.push b) (s|| !di ms t.i i)
  | .ea _ H'=>j_ ms rd i ts H' (s|| !di ms t.i i)
  |_=>j_ ms rd i ts H s
def DG{ms:List Nat}{rd:ad->Bool}{i:Nat}:∀{T:List bN} {H:ad} {s:Bool},j_ ms rd i T H s=X->
  ∃A u B v b,T=A++u::B/\u.k= .new v b/\di ms u.i i=X/\(∀x∈B,mB x.k=X)/\rd ((cr A H).push b).only=X
 |[],H,s,h=>by cases h
 |t::ts,H,s,h=>by
  have d:∀{H':ad} {s':Bool},t.k.heap H=H'->j_ ms rd i ts H' s'=X->∃A u B v b,t::ts=A++u::B/\u.k= .new v b/\di ms u.i i=X/\(∀x∈B,mB x.k=X)/\rd ((cr A H).push b).only=true:=by
   intro H' s' e aZ;obtain⟨A,u,B,v,b,an,aE,bn,b8,dK⟩:=DG aZ;exact⟨t::A,u,B,v,b,by rw[an];rfl,aE,bn,b8,by rw[cr,e];exact dK⟩
  unfold j_ at h;split at h
  ·rename_i v b a;have j:t.k.heap H=H.push b:=by rw[a];rfl
   cases c:(s&&di ms t.i i&&ts.all λu=>mB u.k)with
   |true=>
    rw[c,aW,Bool.or_eq_true]at h;simp only[Bool.and_eq_true,List.all_eq_true]at c;rcases h with h|h
    ·exact⟨[],t,ts,v,b,rfl,a,c.1.2,c.2,h⟩
    ·exact d j h
   |false=>rw[c,aR]at h;exact d j h
  ·rename_i v H' a;exact d (by rw[a];rfl) h
  ·rename_i l m;refine d (s3 ?_ H) h;cases a:t.k with
   |new v b=>exact absurd a (l v b)
   |ea v H'=>exact absurd a (m v H')
   |_=>rfl
def qk(ms:List Nat)(rd:ad->Bool)(i:Nat)(T:List bN)(H:ad):Bool:=bif nG ms i T U then jO ms rd i T H||j_ ms rd i T H U else jO ms rd i T H
def OO{ms:List Nat}{rd:ad->Bool}{i:Nat}{T:List bN}{H:ad}(h:qk ms rd i T H=X):jO ms rd i T H=X\/j_ ms rd i T H U=true:=by
 unfold qk at h;cases a:nG ms i T U with
 |true=>rw[a,aW,Bool.or_eq_true]at h;exact h
 |false=>rw[a,aR]at h;exact .inl h
def lf(P:Program)(ms:List Nat)(a:Nat->Bool)(T:List bN)(H:ad):List bN->Bool
 |[]=>X
 |t::ts=>(match t.k with
  | .read v=>a t.i||qk ms (oa P t.o.op t.ae v) t.i T H
  |_=>X)&&lf P ms a T H ts
def G3{P:Program}{ms:List Nat}{a:Nat->Bool}{T:List bN}{H:ad}{t:bN}{v:aa}(c:t.k= .read v):∀{ts:List bN},lf P ms a T H ts=X->t∈ts->a t.i=X\/qk ms (oa P t.o.op t.ae v) t.i T H=X
 |[],_,hm=>by simp at hm
 |u::ts,h,hm=>by
  simp only[lf,Bool.and_eq_true]at h;rcases List.mem_cons.1 hm with rfl|hm
  ·have:=h.1;rw[c]at this;simpa using this
  ·exact G3 c h.2 hm
section
variable {P:Program}{call:az}{ops:Array Oper}{ord:List Nat}{ev cD:bb}{H0 bR:ad}{T:List bN}{ρ0:Env}{w0:World}{Q:Exit->Act->World->Prop}
def c6(listed:Array Bool)(i:Nat):Bool:=listed.getD i U
def D7{i j:Nat}{o q:Oper}(a:ops[i]? =D o)(c:ops[j]? =D q)(h:rL ops (dF ops) i j=X):
  i≠j/\di (dF ops) j i=U/\(di (dF ops) i j=X\/o.apart ops q=X):=by
 unfold rL at h;rw[a,c]at h;simp only[Bool.and_eq_true,bne_iff_ne,ne_eq,Bool.not_eq_true',Bool.or_eq_true]at h;exact⟨h.1.1,h.1.2,h.2⟩
def tied(ops:Array Oper)(ms ord:List Nat)(i:Nat):Bool:=
 ord.all λj=>(j==i)||(match ops[j]? with|some o=> !nT o.op|none=>X)||di ms j i||di ms i j
def Ps{ms ord:List Nat}{i j:Nat}{o:Oper}(h:tied ops ms ord i=X)(c:j∈ord)(d:j≠i)(e:ops[j]? =D o)(a:nT o.op=X):di ms j i=X\/di ms i j=true:=by
 unfold tied at h;rw[List.all_eq_true]at h;have:=h j c;rw[e]at this;simpa [d,a]using this
structure Ctx(P:Program)(call:az)(ops:Array Oper)(ord:List Nat)(ev:bb)(H0:ad)(T:List bN)(cD:bb)(bR:ad):Prop where
 aK:canRun P call ops ord ev H0=some (T,cD,bR)
 xf:pS ops (dF ops) ord=true
 ea:iY (dF ops) T []=true
 PY:lf P (dF ops) (tied ops (dF ops) ord) T H0 T=true
def Ctx.D8(c:Ctx P call ops ord ev H0 T cD bR):T.Pairwise λt u=>rL ops (dF ops) t.i u.i=true:=by
 have h:=c.xf;simp only[pS,Bool.and_eq_true]at h;have a:=D9 h.2.2.2;rw[<-(kF c.aK).1]at a;exact(List.pairwise_map.1 a)
def Ctx.at(c:Ctx P call ops ord ev H0 T cD bR){A B:List bN}{t:bN}(h:T=A++t::B):
  ops[t.i]? =D t.o/\(∀d,t.ae.get d=fI (λ_=>X) d A (ev.get d))/\hD P call ops t.o t.ae (cr A H0)=D t.k/\(∀d,t.o.dst=D d->d<ev.size):=
 vt (by rw[<-h];exact c.aK)
def Ctx.mem(c:Ctx P call ops ord ev H0 T cD bR){t:bN}(h:t∈T):ops[t.i]? =D t.o:=by
 obtain⟨A,B,h⟩:=List.append_of_mem h;exact(c.at h).1
def Ctx.before(c:Ctx P call ops ord ev H0 T cD bR){A B:List bN}{t:bN}(h:T=A++t::B){u:bN}(hu:u∈A):
  u.i≠t.i/\di (dF ops) t.i u.i=U/\(di (dF ops) u.i t.i=X\/u.o.apart ops t.o=X):=by
 have aI:=c.D8;rw[h,List.pairwise_append]at aI;exact D7 (c.mem (by rw[h];simp[hu])) (c.mem (by rw[h];simp)) (aI.2.2 u hu t (by simp))
def Ctx.after(c:Ctx P call ops ord ev H0 T cD bR){A B:List bN}{t:bN}(h:T=A++t::B){u:bN}(hu:u∈B):
  t.i≠u.i/\di (dF ops) u.i t.i=U/\(di (dF ops) t.i u.i=X\/t.o.apart ops u.o=X):=by
 have aI:=c.D8;rw[h,List.pairwise_append,List.pairwise_cons]at aI;exact D7 (c.mem (by rw[h];simp)) (c.mem (by rw[h];simp[hu])) (aI.2.1.1 u hu)
def Ctx.looks(c:Ctx P call ops ord ev H0 T cD bR){A B:List bN}{t:bN}(h:T=A++t::B){L:Nat->Bool}(e:qE ops L)(hw:o8 L t.o)(l:L t.i=U):
  ∀d∈t.o.looksAt ops,fI L d T (ev.get d)=t.ae.get d:=by
 intro d m;obtain⟨an,aE,_,_⟩:=c.at h;rw[aE d,h,xl,fI];rw[if_neg (by rintro⟨k,_⟩;rw[l]at k;cases k)];rw[tH (A:=B),rV (L':=λ_=>X)]
 ·intro u hu j;obtain⟨_,_,a⟩:=c.before h hu;rcases a with a|a
  ·exact kD e _ _ an hw _ a
  ·exact absurd m ((Oper.apart_spec a).1 d j)
 ·intro u hu j;obtain⟨_,_,a⟩:=c.after h hu;rcases a with a|a
  ·cases p:L u.i with
   |false=>rfl
   |true=>
    have n:=c.mem (t:=u) (by rw[h];simp[hu]);have:=kD e _ _ n (e _ _ n p) _ a;rw[l]at this;cases this
  ·exact absurd m ((Oper.apart_spec a).2.2 d j)
def Ctx.u9(c:Ctx P call ops ord ev H0 T cD bR){A B:List bN}{t:bN}(h:T=A++t::B){L L':Nat->Bool}(l:qE ops L)(q:L t.i=U)(s:L' t.i=X)(ax:∀j,j≠t.i->L' j=L j)(d:Nat)(v:aa):
  fI L' d T v=if t.o.dst=D d then t.k.val else fI L d T v:=by
 have n:∀u∈A,u.o.dst=D d->L' u.i=L u.i:=λu hu _=>ax _ (c.before h hu).1
 have p:∀u∈B,u.o.dst=D d->L' u.i=L u.i:=λu hu _=>ax _ (Ne.symm (c.after h hu).1)
 rw[h,xl,xl,rV n];simp only[fI];rw[rV p];by_cases a:t.o.dst=D d
 ·rw[if_pos ⟨s,a⟩,if_pos a];refine tH λu hu y=> ?_
  obtain⟨_,_,e⟩:=c.after h hu;rcases e with e|e
  ·cases w:L u.i with
   |false=>rfl
   |true=>
    have m:=c.mem (t:=u) (by rw[h];simp[hu]);have:=kD l _ _ m (l _ _ m w) _ e;rw[q]at this;cases this
  ·exact absurd y ((Oper.apart_spec e).2.1 d a)
 ·rw[if_neg (λx=>a x.2),if_neg a,if_neg (λx=>a x.2)]
def e0.turns{N:Nat}{ρ:Env}{w:World}{L:Nat->Bool}:∀{zC zD:List bN} {H:ad},eC H (zC++zD)->(∀u∈zC,u.k.fb=X->L u.i=X/\∃v b,u.k= .new v b)->
  e0 ρ0 H0 w0 N (eb L (zC++zD) H) ρ H w->e0 ρ0 H0 w0 N (eb L zD (cr zC H)) ρ (cr zC H) w
 |[],zD,H,_,_,m=>m
 |c::zC,zD,H,hm,e,m=>by
  by_cases a:c.k.fb=X
  ·obtain⟨o,v,b,d⟩:=e c (by simp) a;have aI:eb L (c::zC++zD) H H.next=D b:=by simp[eb,d,o]
   have m1:=m.GK aI;have l:eC (H.push b) (zC++zD):=by have:=hm.2;rw[d]at this;exact this
   have heq:(λk=>if k=H.next then C else eb L (c::zC++zD) H k)=eb L (zC++zD) (H.push b):=by
    funext k
    by_cases j:k=H.next
    ·rw[if_pos j];cases q:eb L (zC++zD) (H.push b) k with
     |none=>rfl
     |some cl=>have:=rN l q;simp at this;omega
    ·rw[if_neg j];simp[eb,d,j]
   rw[heq]at m1;have:=e0.turns l (λu hu=>e u (by simp[hu])) m1;rw[cr,d];exact this
  ·have p:∀v b,c.k≠ .new v b:=λv b h=>by rw[h]at a;exact a rfl
   rw[List.cons_append,rO p]at m;have n:=s3 (by simpa using a) H;rw[cr];rw[n]at m ⊢;refine e0.turns ?_ (λu hu=>e u (by simp[hu])) m;have:=hm.2;rwa[n]at this
structure Inv(ops:Array Oper)(ev:bb)(H0:ad)(T:List bN)(N:Nat)(ρ0:Env)(w0:World)(listed:Array Bool)(a:Act)(w:World):Prop where
 size:listed.size=ops.size
 closed:qE ops (c6 listed)
 mid:∃ρ T1 T2,T=T1++T2/\(∀t∈T1,t.k.fb=true->c6 listed t.i=true)/\(∀t∈T2,(∃v H,t.k= .ea v H)->c6 listed t.i=false)/\
  e0 ρ0 H0 w0 N (eb (c6 listed) T2 (cr T1 H0)) ρ (cr T1 H0) w/\∃c:bb,dN ρ c a/\c.size=ev.size/\∀d,c.get d=fI (c6 listed) d T (ev.get d)
def Ctx.final(c:Ctx P call ops ord ev H0 T cD bR){listed:Array Bool}{a:Act}{w:World}(q:Inv ops ev H0 T bR.next ρ0 w0 listed a w)(j:∀t∈T,c6 listed t.i=X):
  ∃ρ,dN ρ cD a/\Step ρ0 H0 w0 ρ bR w:=by
 obtain⟨ρ,T1,T2,aK,B,p,m,A,h,y,z⟩:=q.mid;obtain⟨an,aE,bn,b8⟩:=kF c.aK;have o:=qV c.aK;rw[aK]at o;have s:=(eC.append o).2;have m':=e0.turns (zC:=T2) (zD:=[]) (L:=c6 listed) (by simpa using s) (λu hu l=>by
  have e:=j u (by rw[aK];simp[hu]);refine⟨e,?_⟩;cases n:u.k with
  |new v b=>exact⟨v,b,rfl⟩
  |ea v H=>rw[p u hu ⟨v,H,n⟩]at e;cases e
  |_=>rw[n]at l;cases l) (by simpa using m)
 rw[<-j4,<-aK,<-aE]at m';refine⟨ρ,⟨by rw[bn,<-y];exact h.size,λd=> ?_,h.none⟩,m'.done rfl⟩;have:=h.get d;rw[z d,rV (L':=λ_=>X) (λt x _=>j t x),<-b8 d]at this;exact this
def EE{listed:Array Bool}{i:Nat}(h:i∈Region.ready .any ops listed)(ax:listed.size=ops.size):
  ∃o,ops[i]? =D o/\c6 listed i=U/\o8 (c6 listed) o/\i<ops.size:=by
 unfold Region.ready at h;simp only[List.mem_filter,List.mem_range,Bool.and_eq_true,Bool.not_eq_true']at h;obtain⟨d,a,c⟩:=h;have j:ops[i]? =D ops[i]:=by simp[d]
 refine⟨ops[i],j,?_,?_,d⟩
 ·unfold c6;rw[Array.getD_eq_getD_getElem?]at a ⊢;have:i<listed.size:=af;simp[this]at a ⊢;exact a
 ·rw[j]at c;simp only[Option.map_some,Option.getD_some,Array.all_eq_true']at c;intro e he k;have:=c e he;simpa [k,c6]using this
def LH{listed:Array Bool}{i:Nat}{o:Oper}(d:ops[i]? =D o)(a:c6 listed i=U)(hw:o8 (c6 listed) o)(ax:listed.size=ops.size):i∈Region.ready .any ops listed:=by
 unfold Region.ready;have h:i<ops.size:=(Array.getElem?_eq_some_iff.1 d).1;simp only[List.mem_filter,List.mem_range,Bool.and_eq_true,Bool.not_eq_true'];refine⟨h,?_,?_⟩
 ·unfold c6 at a;rw[Array.getD_eq_getD_getElem?]at a ⊢;have:i<listed.size:=af;simp[this]at a ⊢;exact a
 ·rw[d];simp only[Option.map_some,Option.getD_some,Array.all_eq_true'];intro e he;by_cases c:Region.binds .any e=X
  ·have:=hw e he c;unfold c6 at this;rw[this];simp
  ·simp[c]
def Ctx.HO(c:Ctx P call ops ord ev H0 T cD bR){listed:Array Bool}(ax:listed.size=ops.size)(K:Region.ready .any ops listed=[]):∀t∈T,c6 listed t.i=true:=by
 have w:=c.xf;simp only[pS,Bool.and_eq_true,List.all_eq_true,List.mem_range]at w;obtain⟨z,F,E,_⟩:=w;have s:=(kF c.aK).1;have key:∀(n:Nat) (A:List bN) (t:bN) (B:List bN),A.length=n->T=A++t::B->c6 listed t.i=true:=by
  intro n
  induction n using Nat.strongRecOn with
  |_ n M=>
   intro A t B hlen h;have j:=(c.at h).1;cases G:c6 listed t.i with
   |true=>rfl
   |false=>
    have:t.i∈Region.ready .any ops listed:=by
     refine LH j G (λe he q=> ?_) ax;have d:=Iz j he q;have H:e.on<ops.size:=by
      have a:=E t.o (by
       have:=(Array.getElem?_eq_some_iff.1 j);obtain⟨m,y⟩:=this;rw[<-y];simp)
      unfold zS at a;rw[List.all_eq_true]at a;have m:=a e (by simpa using he);simpa [q]using m
     have v:=z e.on H;rw[List.contains_iff_mem,<-s,List.mem_map]at v;obtain⟨u,hu,k⟩:=v;rw[h]at hu;rcases List.mem_append.1 hu with hu|hu
     ·obtain⟨l,x,p⟩:=List.append_of_mem hu;rw[<-k];refine M l.length ?_ l u (x++t::B) rfl (by rw[h,p];simp);rw[<-hlen,p];simp
     ·rcases List.mem_cons.1 hu with rfl|hu
      ·exfalso;have a:=F u.i (by rw[<-s,List.mem_map];exact⟨u,by rw[h];simp,rfl⟩);rw[<-k]at d;rw[d]at a;cases a
      ·exfalso;have a:=(c.after h hu).2.1;rw[k,d]at a;cases a
    rw[K]at this;simp at this
 intro t L;obtain⟨A,B,h⟩:=List.append_of_mem L;exact key _ A t B rfl h
def zP{p q:Nat->Bool}{i:Nat}:∀{l:List Nat},i∈l->(∀j,q j=X->p j=X)->p i=X->q i=U->l.countP q<l.countP p
 |[],h,_,_,_=>by simp at h
 |j::l,h,himp,aI,a=>by
  have hle:∀l:List Nat,l.countP q<=l.countP p:=λl=>List.countP_mono_left λx _ d=>himp x d
  simp only[List.countP_cons];rcases List.mem_cons.1 h with rfl|h
  ·rw[aI,a];have:=hle l;simp;omega
  ·have:=zP h himp aI a;cases c:q j with
   |true=>rw[himp j c];simp;omega
   |false=>cases p j<;>simp<;>omega
def tj{listed:Array Bool}{i:Nat}(a:i<listed.size)(j:Nat):c6 (listed.setIfInBounds i X) j=if j=i then X else c6 listed j:=by
 unfold c6;rw[Array.getD_eq_getD_getElem?,Array.getD_eq_getD_getElem?,Array.getElem?_setIfInBounds];by_cases h:i=j
 ·subst h;simp[a]
 ·have aZ:¬j=i:=λe=>h e.symm
  simp[h,aZ]
