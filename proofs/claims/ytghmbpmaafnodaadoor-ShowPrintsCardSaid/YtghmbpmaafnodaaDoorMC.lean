/-
  Texts of one proof, laid together: Hv11 Hv12 Hv13 Hv14 Hv15.
-/
import Derived.Test.YtghmbpmaafnodaaDoorMB
import Derived.Orders
set_option linter.unusedVariables false
set_option linter.unusedSimpArgs false
set_option linter.defProp false
open Option renaming some→D,none→Z
open Bool renaming true→X,false→U
namespace Go.cn
structure a7 where
 t:bt ad
 size:Nat
def a7.get(aa:a7)(d:Nat):ad:=match aa.t.get d with
 |some v=>v
 |none=> .tuple []
def a7.put(aa:a7)(dst:Option Nat)(v:ad):Option a7:=match dst with
 |none=>D aa
 |some d=>if d<aa.size then D {aa with t:=bt.put v (d+1) aa.t d}else Z
structure dT(ρ:Env)(aa:a7)(a:Act):Prop where
 size:aa.size=a.tmps.size
 get:∀d,bj ρ (aa.get d) (a.tmps.getD d undef)
 none:a.defers=[]
def dT.mono{ρ c:Env}{aa:a7}{a:Act}(h:dT ρ aa a)(hle:ρ.le c):dT c aa a:=⟨h.size,λd=>(h.get d).mono hle,h.none⟩
def a7.rC{aa a6:a7}{dst:Option Nat}{v:ad}(h:aa.put dst v=D a6)(d:Nat):a6.get d=if dst=D d then v else aa.get d:=by
 cases dst with
 |none=>simp only[a7.put,aS]at h;subst h;simp
 |some e=>
  simp only[a7.put]at h;split at h
  ·simp only[aS]at h;subst h;by_cases he:e=d
   ·subst he;simp[a7.get,bt.rE v (e+1) aa.t e af]
   ·have:(D e=D d)=False:=by simp[he]
    simp[a7.get,bt.rD v (e+1) aa.t e d he,he]
  ·cases h
def a7.qN{aa a6:a7}{dst:Option Nat}{v:ad}(h:aa.put dst v=D a6):a6.size=aa.size:=by
 cases dst with
 |none=>simp only[a7.put,aS]at h;subst h;rfl
 |some e=>
  simp only[a7.put]at h;split at h
  ·simp only[aS]at h;subst h;rfl
  ·cases h
def a7.EB{aa a6:a7}{d:Nat}{v:ad}(h:aa.put (D d) v=D a6):d<aa.size:=by
 simp only[a7.put]at h;split at h
 ·assumption
 ·cases h
def dT.put{ρ:Env}{aa a6:a7}{a:Act}{dst:Option Nat}{v:ad}{x:Value}(h:dT ρ aa a)(aC:aa.put dst v=D a6)(i:bj ρ v x):dT ρ a6 (a.put dst x):=by
 refine⟨?_,λd=> ?_,?_⟩
 ·rw[a7.qN aC,h.size];cases dst<;>simp[Act.put]
 ·rw[a7.rC aC];cases dst with
  |none=>simpa [Act.put]using h.get d
  |some e=>
   have c:=a7.EB aC;rw[h.size]at c;by_cases he:e=d
   ·subst he;simpa [Act.put,c]using i
   ·have:=h.get d;simp only[aS,he,if_false,Act.put,Array.getD_eq_getD_getElem?,Array.getElem?_setIfInBounds];simpa using this
 ·cases dst<;>simpa [Act.put]using h.none
def b_(aa:a7):Operand->Option ad
 | .tmp t=>D (aa.get t)
 | .const v=>rY v
 | .global _=>Z
 | .func f=>D (.func (.func f) [] [])
section
variable {P:Program}{ρ:Env}{H:ae}{w:World}{aa:a7}{a:Act}
def dx(d:dT ρ aa a){x:Operand}{v:ad}(h:b_ aa x=D v):bj ρ v (a.eval x):=by
 cases x with
 |tmp t=>simp only[b_,aS]at h;subst h;exact d.get t
 |const c=>exact tO h ρ
 |global g=>cases h
 |func f=>simp only[b_,aS]at h;subst h;exact .func (.func f) [] [] [] [] .nil .nil
def hh(aa:a7):List Operand->Option (List ad)
 |[]=>D []
 |x::xs=>match b_ aa x,hh aa xs with
  |some v,D a=>D (v::a)
  |_,_=>Z
def oc(d:dT ρ aa a):∀{xs:List Operand} {c:List ad},hh aa xs=D c->bB ρ c (xs.map a.eval)
 |[],c,h=>by simp only[hh,aS]at h;subst h;exact .nil
 |x::xs,c,h=>by
  simp only[hh]at h;split at h
  ·rename_i v j e i;simp only[aS]at h;subst h;exact .cons _ _ _ _ (dx d e) (oc d i)
  ·cases h
def jc(aa:a7):List (Nat×Operand)->Option (List (Nat×ad))
 |[]=>D []
 |(i,x)::xs=>match b_ aa x,jc aa xs with
  |some v,D a=>D ((i,v)::a)
  |_,_=>Z
def vP(d:dT ρ aa a):∀{xs:List (Nat×Operand)} {c:List (Nat×ad)},jc aa xs=D c->px ρ c (xs.map λ(i,x)=>(i,a.eval x))
 |[],c,h=>by simp only[jc,aS]at h;subst h;exact trivial
 |(i,x)::xs,c,h=>by
  simp only[jc]at h;split at h
  ·rename_i v k e j;simp only[aS]at h;subst h;exact⟨rfl,dx d e,vP d j⟩
  ·cases h
def ke(aa:a7):Option Operand->Option (Option ad)
 |none=>D Z
 |some x=>match b_ aa x with
  |some v=>D (D v)
  |none=>Z
def vR(c:dT ρ aa a){x:Option Operand}{v:Option ad}(h:ke aa x=D v):pw ρ v (x.map a.eval):=by
 cases x with
 |none=>simp only[ke,aS]at h;subst h;exact .none
 |some x=>
  simp only[ke]at h;split at h
  ·rename_i u hu;simp only[aS]at h;subst h;exact .some _ _ (dx c hu)
  ·cases h
def b7:ad->Option ad
 | .ptr l i c=>D (.ptr l i c)
 | .iface t v=>D (.iface t v)
 | .func (.func f) x y=>D (.func (.func f) x y)
 |_=>Z
def vJ(P:Program)(t:TypeId)(v:ad):Option ad:=
 match P.underlying t with
 |some (.interface _)=>Z
 |some _=>D (.iface t v)
 |none=>Z
def cg(P:Program)(H:ae)(b:Builtin)(ts:List TypeId)(a:List ad):Option ad:=
 match b,ts,a with
 | .len,[t],[x]=>vK P H t x
 | .max,_,[x,y]=>s4 x y
 | .min,_,[x,y]=>s5 x y
 | .cap,[t],[x]=>vC P t x
 |_,_,_=>Z
def vB(P:Program)(t:TypeId)(ok:Bool)(v:ad):Option ad:=
 match v with
 | .iface d u=>if d=t/\ok=U then(match P.underlying t with|some (.interface _)=>Z|some _=>D u|none=>Z)else Z
 |_=>Z
def jd(P:Program)(o:Op)(aa:a7):Option ad:=
 match o with
 | .move x=>b_ aa x
 | .assign x=>b_ aa x
 | .pick c a b=>match b_ aa c with
  |some (.bool t)=>if t then b_ aa a else b_ aa b
  |_=>Z
 | .build t n=>(jc aa n.toList).bind (cC P t)
 | .nilCheck x=>(b_ aa x).bind b7
 | .binOp op t x y _=>(b_ aa x).bind λu=>(b_ aa y).bind λv=>q8 P op t x y u v
 | .unOp op _ x=>(b_ aa x).bind (fZ op)
 | .convert s d x=>(b_ aa x).bind (mG P s d)
 | .makeInterface t x=>(b_ aa x).bind (vJ P t)
 | .makeFunc fn f c=>(hh aa f.toList).bind λe=>(hh aa c.toList).bind λcs=>D (.func fn e cs)
 | .slice t x lo j k=>(b_ aa x).bind λv=>(ke aa lo).bind λl=>(ke aa j).bind λh=>(ke aa k).bind λm=>kd P t v l h m
 | .fieldAddr t x f=>(b_ aa x).bind λv=>aH P t v f
 | .field t x f=>(b_ aa x).bind λv=>cN P t v f
 | .indexAddr t x i=>(b_ aa x).bind λu=>(b_ aa i).bind λv=>cl P t u v
 | .index t x i=>(b_ aa x).bind λu=>(b_ aa i).bind λv=>eT P t u v
 | .extract x i=>(b_ aa x).bind λv=>ic v i
 | .typeAssert x _ t ok=>(b_ aa x).bind (vB P t ok)
 | .call c=>match c.callee with
  | .builtin b=>(hh aa c.args.toList).bind (cg P .empty b c.argTypes.toList)
  |_=>Z
 |_=>Z
def e7{s:Sem Value}{x:Value}{w a:World}(h:s.run P w= .ok x a):(do pure (.value (<-s)):Sem Next).run P w= .ok (.value x) a:=by
 simp[h]
def x0{s:Sem Unit}{w a:World}(h:s.run P w= .ok () a):(do s;pure .skip:Sem Next).run P w= .ok .skip a:=by
 simp[h]
def Rel.empty(ρ:Env)(w:World)(n:Nat):Rel ρ ⟨.leaf,n⟩ w:=by
 have:∀l,(⟨.leaf,n⟩:ae).get l=none:=λl=>by unfold ae.get;split<;>first|exact bt.rA _|rfl
 refine⟨λl _ _ _ h=> ?_,λl _ h=> ?_,λl _ _ _ h=> ?_,λl l' _ _ h=> ?_⟩
 ·rw[this]at h;cases h
 ·rw[this]at h;cases h
 ·rw[this]at h;cases h
 ·rcases h with⟨_,_,h⟩|⟨_,h⟩|⟨_,_,_,h⟩<;>(rw[this]at h;cases h)
def yX(m:Rel ρ H w){b:Builtin}{ts:List TypeId}{l:List ad}{v:ad}{xs:List Value}(h:cg P H b ts l=D v)(i:bB ρ l xs)(ty:TypeId)(cs:Array Bool):
  ∃x,(builtin b ts.toArray ty cs xs.toArray).run P w= .ok (.value x) w/\bj ρ v x:=by
 unfold cg at h;split at h
 ·cases i with|cons _ x _ _ d e=>
  cases e;obtain⟨r,a,c⟩:=H6 m ty h d;exact⟨r,e7 a,c⟩
 ·cases i with|cons _ x _ _ d e=>
  cases e with|cons _ y _ _ j k=>
  cases k;obtain⟨r,a,c⟩:=Ie (P:=P) ts.toArray ty h d j w;exact⟨r,e7 a,c⟩
 ·cases i with|cons _ x _ _ d e=>
  cases e with|cons _ y _ _ j k=>
  cases k;obtain⟨r,a,c⟩:=Ih (P:=P) ts.toArray ty h d j w;exact⟨r,e7 a,c⟩
 ·cases i with|cons _ x _ _ d e=>
  cases e;obtain⟨r,a,c⟩:=HM (P:=P) ty h d w;exact⟨r,e7 a,c⟩
 ·cases h
def map_toArray{α β:Type}(f:α->β)(xs:Array α):xs.map f=(xs.toList.map f).toArray:=by cases xs;simp
def ui{o:Oper}{c:Call}{b:Builtin}(e:o.op= .call c)(d:c.callee= .builtin b)(w:World):
  (execOp a.eval o).run P w=(builtin b c.argTypes o.type (c.args.map λ | .const _=>X|_=>U) (c.args.map a.eval)).run P w:=by
 unfold execOp;rw[e];simp only[resolve,d];rfl
def IA{o:Oper}{v:ad}(h:jd P o.op aa=D v)(p:dT ρ aa a)(w:World):∃x,(execOp a.eval o).run P w= .ok (.value x) w/\bj ρ v x:=by
 unfold jd at h;split at h
 ·rename_i x j;exact⟨_,by unfold execOp;rw[j];rfl,dx p h⟩
 ·rename_i x j;exact⟨_,by unfold execOp;rw[j];rfl,dx p h⟩
 ·rename_i c x y j;split at h
  ·rename_i t L;have n:=dx p L;have q:a.eval c= .bool t:=by
    generalize a.eval c=z at n;cases n;rfl
   cases t
   ·exact⟨_,by unfold execOp;rw[j];simp only[q];rfl,dx p h⟩
   ·exact⟨_,by unfold execOp;rw[j];simp only[q];rfl,dx p h⟩
  ·cases h
 ·rename_i t R j;simp only[c1]at h;obtain⟨M,n,q⟩:=h;obtain⟨x,A,B⟩:=HJ q (vP p n) w;refine⟨x,?_,B⟩;unfold execOp;rw[j];rw[<-map_toArray]at A;exact e7 A
 ·rename_i x j;simp only[c1]at h;obtain⟨u,n,q⟩:=h;have e:=dx p n;refine⟨a.eval x,?_,?_⟩
  ·unfold execOp;rw[j];simp only
   generalize a.eval x=z at e;unfold b7 at q;split at q
   ·cases e;rfl
   ·cases e;rfl
   ·cases e;rfl
   ·cases q
  ·unfold b7 at q;split at q<;>first|(simp only[aS]at q;subst q;exact e)|cases q
 ·rename_i op t x y V j;simp only[c1]at h;obtain⟨u,n,z,q,e⟩:=h;obtain⟨r,A,B⟩:=HG e (dx p n) (dx p q) w;exact⟨r,by unfold execOp;rw[j];exact e7 A,B⟩
 ·rename_i op t x j;simp only[c1]at h;obtain⟨u,n,e⟩:=h;obtain⟨r,A,B⟩:=IH e (dx p n) w;exact⟨r,by unfold execOp;rw[j];exact e7 A,B⟩
 ·rename_i s d x j;simp only[c1]at h;obtain⟨u,n,e⟩:=h;obtain⟨r,A,B⟩:=HO e (dx p n) w;exact⟨r,by unfold execOp;rw[j];exact e7 A,B⟩
 ·rename_i t x j;simp only[c1]at h;obtain⟨u,n,e⟩:=h;have E:=dx p n;unfold vJ at e;split at e
  ·cases e
  ·rename_i d H hu;simp only[aS]at e;subst e;refine⟨.iface t (a.eval x),?_,.iface _ _ _ E⟩;unfold execOp;rw[j];refine e7 ?_;unfold Instr.makeInterface;simp only[Sem.run_bind,run_underlying hu,Result.andThen_ok];cases d<;>first|rfl|exact absurd rfl (H _)
  ·cases e
 ·rename_i fn f c j;simp only[c1,aS]at h;obtain⟨K,n,cs,q,rfl⟩:=h;refine⟨_,?_,.func fn K cs _ _ (oc p n) (oc p q)⟩;unfold execOp;rw[j];rw[<-map_toArray,<-map_toArray];rfl
 ·rename_i t x lo O Q j;simp only[c1]at h;obtain⟨u,n,l,q,k,e,m,E,F⟩:=h;obtain⟨r,A,B⟩:=IF F (dx p n) (vR p q) (vR p e) (vR p E) w;exact⟨r,by unfold execOp;rw[j];exact e7 A,B⟩
 ·rename_i t x f j;simp only[c1]at h;obtain⟨u,n,e⟩:=h;obtain⟨r,A,B⟩:=HS e (dx p n) w;exact⟨r,by unfold execOp;rw[j];exact e7 A,B⟩
 ·rename_i t x f j;simp only[c1]at h;obtain⟨u,n,e⟩:=h;obtain⟨r,A,B⟩:=HT e (dx p n) w;exact⟨r,by unfold execOp;rw[j];exact e7 A,B⟩
 ·rename_i t x i j;simp only[c1]at h;obtain⟨u,n,z,q,e⟩:=h;obtain⟨r,A,B⟩:=H4 e (dx p n) (dx p q) w;exact⟨r,by unfold execOp;rw[j];exact e7 A,B⟩
 ·rename_i t x i j;simp only[c1]at h;obtain⟨u,n,z,q,e⟩:=h;obtain⟨r,A,B⟩:=H5 e (dx p n) (dx p q) w;exact⟨r,by unfold execOp;rw[j];exact e7 A,B⟩
 ·rename_i x i j;simp only[c1]at h;obtain⟨u,n,e⟩:=h;obtain⟨r,A,B⟩:=HR e (dx p n) w;exact⟨r,by unfold execOp;rw[j];exact e7 A,B⟩
 ·rename_i x T t ok j;simp only[c1]at h;obtain⟨u,n,e⟩:=h;have E:=dx p n;unfold vB at e;split at e
  ·rename_i d S;split at e
   ·rename_i G;obtain⟨rfl,rfl⟩:=G;generalize he:a.eval x=z at E;cases E with|iface _ _ N F=>
    split at e
    ·cases e
    ·rename_i qO H hu;simp only[aS]at e;subst e;refine⟨N,?_,F⟩;unfold execOp;rw[j];refine e7 ?_;rw[he];unfold Instr.typeAssert;simp only[Sem.run_bind,run_underlying hu,Result.andThen_ok];cases qO<;>first|exact absurd rfl (H _)|simp
    ·cases e
   ·cases e
  ·cases e
 ·rename_i c j;split at h
  ·rename_i b G;simp only[c1]at h;obtain⟨M,n,q⟩:=h;obtain⟨x,A,B⟩:=yX (Rel.empty ρ w 0) q (oc p n) o.type (c.args.map λ | .const _=>X|_=>U);refine⟨x,?_,B⟩;rw[ui j G,map_toArray a.eval];simpa using A
  ·cases h
 ·cases h
def hg(P:Program)(o:Op)(aa:a7)(H:ae):Option ad:=
 match o with
 | .load t x=>(b_ aa x).bind (aq P H t)
 | .lookup t x k ok=>(b_ aa x).bind λu=>(b_ aa k).bind λv=>sZ P H t u v ok
 | .convert s d x=>(b_ aa x).bind (n7 P H s d)
 | .call c=>match c.callee with
  | .builtin b=>(hh aa c.args.toList).bind (cg P H b c.argTypes.toList)
  |_=>Z
 |_=>Z
def IB(p:Rel ρ H w){o:Oper}{v:ad}(h:hg P o.op aa H=D v)(n:dT ρ aa a):∃x,(execOp a.eval o).run P w= .ok (.value x) w/\bj ρ v x:=by
 unfold hg at h;split at h
 ·rename_i t x l;simp only[c1]at h;obtain⟨u,j,m⟩:=h;obtain⟨r,e,i⟩:=vL p m (dx n j);exact⟨r,by unfold execOp;rw[l];exact e7 e,i⟩
 ·rename_i t x k ok l;simp only[c1]at h;obtain⟨u,j,z,q,m⟩:=h;obtain⟨r,e,i⟩:=H_ p m (dx n j) (dx n q);exact⟨r,by unfold execOp;rw[l];exact e7 e,i⟩
 ·rename_i s d x l;simp only[c1]at h;obtain⟨u,j,m⟩:=h;obtain⟨r,e,i⟩:=HK p m (dx n j);exact⟨r,by unfold execOp;rw[l];exact e7 e,i⟩
 ·rename_i c l;split at h
  ·rename_i b y;simp only[c1]at h;obtain⟨A,j,q⟩:=h;obtain⟨x,e,i⟩:=yX p q (oc n j) o.type (c.args.map λ | .const _=>X|_=>U);refine⟨x,?_,i⟩;rw[ui l y,map_toArray a.eval];simpa using e
  ·cases h
 ·cases h
def oa(P:Program)(o:Op)(aa:a7)(H:ae):Option (ad×ae):=
 match o with
 | .alloc t=>sW P H t
 | .box t x=>(b_ aa x).bind (pC (p8 P t) H)
 | .buildSlice t n a=>(jc aa a.toList).bind (q9 P H t n)
 | .makeMap _ Z=>D (vM H)
 | .makeSlice t l c=>(b_ aa l).bind λu=>(b_ aa c).bind λv=>s3 P H t u v
 |_=>Z
def Ij(s:Rel ρ H w)(y:ρ H.next=Z){o:Oper}{v:ad}{H':ae}(h:oa P o.op aa H=D (v,H'))(A:dT ρ aa a):
  ∃x d e,(execOp a.eval o).run P w= .ok (.value x) d/\bj e v x/\Step ρ H w e H' d:=by
 unfold oa at h;split at h
 ·rename_i t m;obtain⟨r,d,e,i,j,k⟩:=HE s y h;exact⟨r,d,e,by unfold execOp;rw[m];exact e7 i,j,k⟩
 ·rename_i t x m;simp only[c1]at h;obtain⟨u,p,q⟩:=h;obtain⟨r,d,e,i,j,k⟩:=yW (P:=P) s y q (dx A p) t (λF h=>D0 h);exact⟨r,d,e,by unfold execOp;rw[m];exact e7 i,j,k⟩
 ·rename_i t n E m;simp only[c1]at h;obtain⟨u,p,q⟩:=h;obtain⟨r,d,e,i,j,k⟩:=HH s y q (vP A p);refine⟨r,d,e,?_,j,k⟩;unfold execOp;rw[m];rw[<-map_toArray]at i;exact e7 i
 ·rename_i t m;simp only[aS]at h;obtain⟨r,d,e,i,j,k⟩:=Ia (P:=P) s y t;rw[h]at j k;exact⟨r,d,e,by unfold execOp;rw[m];exact e7 i,j,k⟩
 ·rename_i t l c m;simp only[c1]at h;obtain⟨u,p,z,B,q⟩:=h;obtain⟨r,d,e,i,j,k⟩:=Ic s y q (dx A p) (dx A B);exact⟨r,d,e,by unfold execOp;rw[m];exact e7 i,j,k⟩
 ·cases h
def bW.km:bW->Bool
 | .row U _ _=>X
 | .map _=>X
 | .b0 _ _ _=>X
 |_=>U
def bW.km.ro{b:bW}(h:b.km=X):b.rG=false:=by
 cases b with
 |row ro e s=>cases ro<;>first|rfl|cases h
 |map es=>rfl
 |b0 t e s=>rfl
 |dead=>rfl
def oF(r:Option (ad×ae))(l:Nat):Option (ad×bW):=
 match r with
 |some (v,H')=>if H'.next=l+1 then(match H'.get l with
  |some b=>if b.km then D (v,b)else Z
  |none=>Z)else Z
 |none=>Z
def jE(P:Program)(o:Op)(aa:a7)(l:Nat):Option (ad×bW):=oF (oa P o aa ⟨.leaf,l⟩) l
def kT(P:Program)(o:Op)(aa:a7)(H:ae):Option (ad×ae):=
 match o with
 | .store t x y=>(b_ aa x).bind λu=>(b_ aa y).bind λv=>(aY P H t u v).map λH'=>(.tuple [],H')
 | .mapUpdate t m k x=>(b_ aa m).bind λu=>(b_ aa k).bind λv=>(b_ aa x).bind λz=>(pG P H t u v z).map λH'=>(.tuple [],H')
 | .insert t m k x=>(b_ aa m).bind λu=>(b_ aa k).bind λv=>(b_ aa x).bind λz=>(pG P H t u v z).map λH'=>(.tuple [],H')
 | .call c=>match c.callee,c.args.toList with
  | .builtin .append,[s,x]=>(b_ aa s).bind λu=>(b_ aa x).bind λv=>c0 P H c.argTypes.toList u v
  | .builtin .clear,[x]=>(b_ aa x).bind λu=>(sX P H c.argTypes.toList u).map λH'=>(.tuple [],H')
  |_,_=>Z
 |_=>Z
def yC(x:Value):Next->Prop
 | .value y=>y=x
 | .skip=>x=undef
 |_=>False
def IM(B:Rel ρ H w){o:Oper}{v:ad}{H':ae}(h:kT P o.op aa H=D (v,H'))(M:H.next<H'.next->ρ H.next=Z)(e:dT ρ aa a):
  ∃n x d E,(execOp a.eval o).run P w= .ok n d/\yC x n/\bj E v x/\Step ρ H w E H' d:=by
 unfold kT at h;split at h
 ·rename_i t x y q;simp only[c1,Option.map_eq_some_iff,b5]at h;obtain⟨u,l,z,A,H1,p,rfl,rfl⟩:=h;obtain⟨d,i,j⟩:=IG B p (dx e l) (dx e A);exact⟨.skip,undef,d,ρ,by unfold execOp;rw[q];exact x0 i,rfl,.tuple [] [] .nil,j⟩
 ·rename_i t m k x q;simp only[c1,Option.map_eq_some_iff,b5]at h;obtain⟨u,l,z,A,y,F,H1,p,rfl,rfl⟩:=h;obtain⟨d,i,j⟩:=y5 B p (dx e l) (dx e A) (dx e F);exact⟨.skip,undef,d,ρ,by unfold execOp;rw[q];exact x0 i,rfl,.tuple [] [] .nil,j⟩
 ·rename_i t m k x q;simp only[c1,Option.map_eq_some_iff,b5]at h;obtain⟨u,l,z,A,y,F,H1,p,rfl,rfl⟩:=h;obtain⟨d,i,j⟩:=y5 B p (dx e l) (dx e A) (dx e F);exact⟨.skip,undef,d,ρ,by unfold execOp;rw[q];exact x0 i,rfl,.tuple [] [] .nil,j⟩
 ·rename_i c q;split at h
  ·rename_i s x K G;simp only[c1]at h;obtain⟨u,l,z,A,p⟩:=h;obtain⟨r,d,E,i,j,L⟩:=HF B o.type p M (dx e l) (dx e A);refine⟨.value r,r,d,E,?_,rfl,j,L⟩;rw[ui q K,map_toArray a.eval,G];refine e7 (s:=Builtin.append_ c.argTypes o.type _) ?_;simpa using i
  ·rename_i x K G;simp only[c1,Option.map_eq_some_iff,b5]at h;obtain⟨u,l,H1,p,rfl,rfl⟩:=h;obtain⟨d,i,j⟩:=HN B o.type p (dx e l);refine⟨.value (.tuple #[]),.tuple #[],d,ρ,?_,rfl,.tuple [] [] .nil,j⟩;rw[ui q K,map_toArray a.eval,G];refine e7 (s:=Builtin.clear_ c.argTypes o.type _) ?_;simpa using i
  ·cases h
 ·cases h
end
section
variable {P:Program}{ρ:Env}{H:ae}{w:World}{aa:a7}{a:Act}
def iZ(ρ:Env)(w:World)(loc:Loc):bW->Prop
 | .row ro esz els=>fy ρ w loc ro esz els
 | .map es=>vp ρ w loc es
 | .b0 t esz els=>mD ρ w loc t esz els
 | .dead=>True
def iZ.frame{n:Env}{m:World}{loc:Loc}{b:bW}(h:iZ ρ w loc b)(hle:ρ.le n)(a:m.heap[loc.block]? =w.heap[loc.block]?):iZ n m loc b:=by
 cases b with
 |row ro esz els=>
  obtain⟨d,c,t,o,k,l,q⟩:=h;refine⟨d,c,t,o,by rw[a];exact k,l,λi e he=> ?_⟩;obtain⟨aT,s⟩:=q i e he;refine⟨aT,λj v p=> ?_⟩;obtain⟨u,x,y,z⟩:=s j v p;exact⟨u,x,y,z.mono hle⟩
 |map es=>
  obtain⟨ents,clock,d,k,l⟩:=h;exact⟨ents,clock,by rw[a];exact d,k.mono hle,l.mono hle⟩
 |b0 t esz els=>exact mD.frame h hle a
 |dead=>trivial
def iZ.lt{loc:Loc}{b:bW}(h:iZ ρ w loc b)(a:b.km=X):loc.block<w.heap.size:=by
 cases b with
 |row ro esz els=>obtain⟨_,c,t,i,e,_⟩:=h;exact jJ e
 |map es=>obtain⟨ents,clock,d,_⟩:=h;exact jJ d
 |b0 t esz els=>exact h.1.lt
 |dead=>cases a
def Rel.grow{o:Env}{u:World}(h:Rel ρ H w)(hle:ρ.le o)(m:∀b,b<w.heap.size->u.heap[b]? =w.heap[b]?):Rel o H u:=by
 refine⟨λl ro esz els e=> ?_,λl es e=> ?_,λl t esz els e=> ?_,λl l' loc j p q y v x=> ?_⟩
 ·obtain⟨loc,a,d⟩:=h.row l ro esz els e;refine⟨loc,hle _ _ a,?_⟩;have:=d;obtain⟨_,c,t,z,n,_⟩:=this;exact iZ.frame (b:= .row ro esz els) d hle (m _ (jJ n))
 ·obtain⟨loc,a,d⟩:=h.map l es e;refine⟨loc,hle _ _ a,?_⟩;have:=d;obtain⟨_,_,n,_⟩:=this;exact iZ.frame (b:= .map es) d hle (m _ (jJ n))
 ·obtain⟨loc,a,d⟩:=h.b0 l t esz els e;exact⟨loc,hle _ _ a,d.frame hle (m _ d.1.lt)⟩
 ·have s:∀k loc,H.live k->o k=D loc->ρ k=D loc:=λk loc i e=>by
   rcases i with⟨ro,esz,els,i⟩|⟨es,i⟩|⟨t,esz,els,i⟩
   ·obtain⟨j,a,_⟩:=h.row _ _ _ _ i;rw[hle _ _ a]at e;rw[a];exact e
   ·obtain⟨j,a,_⟩:=h.map _ _ i;rw[hle _ _ a]at e;rw[a];exact e
   ·obtain⟨j,a,_⟩:=h.b0 _ _ _ _ i;rw[hle _ _ a]at e;rw[a];exact e
  exact h.apart l l' loc j p q y (s _ _ p.live v) (s _ _ q x)
def Rel.xb(h:Rel ρ H w){l:Nat}(i:H.live l):∃loc,ρ l=D loc/\loc.block<w.heap.size:=by
 rcases i with⟨ro,esz,els,a⟩|⟨es,a⟩|⟨t,esz,els,a⟩
 ·obtain⟨loc,d,_,c,t,k,e,_⟩:=h.row _ _ _ _ a;exact⟨loc,d,jJ e⟩
 ·obtain⟨loc,d,_,_,e,_⟩:=h.map _ _ a;exact⟨loc,d,jJ e⟩
 ·obtain⟨loc,d,j⟩:=h.b0 _ _ _ _ a;exact⟨loc,d,j.1.lt⟩
def Il{o:Oper}{l:Nat}{v:ad}{b:bW}(h:jE P o.op aa l=D (v,b))(G:dT ρ aa a)(A:ρ l=Z)(w:World):
  ∃x d e loc,(execOp a.eval o).run P w= .ok (.value x) d/\bj e v x/\ρ.le e/\(∀k,k≠l->e k=ρ k)/\e l=D loc/\w.heap.size<=loc.block/\b.km=X/\iZ e d loc b/\
   d.os=w.os/\d.tape=w.tape/\d.output=w.output/\w.heap.size<=d.heap.size/\∀k,k<w.heap.size->d.heap[k]? =w.heap[k]? :=by
 unfold jE oF at h;split at h
 ·rename_i K H' y;split at h
  ·rename_i F;split at h
   ·rename_i cy i;split at h
    ·rename_i j;simp only[aS,b5]at h;obtain⟨rfl,rfl⟩:=h;obtain⟨x,d,e,q,s,c⟩:=Ij (Rel.empty ρ w l) A y G;have n:∀k,¬iF ρ ⟨.leaf,l⟩ k:=by
      rintro k ⟨l',loc,u,_,_⟩;have B:(⟨.leaf,l⟩:ae).get l'=none:=by unfold ae.get;split<;>first|exact bt.rA _|rfl
      rcases u with⟨_,_,h⟩|⟨_,h⟩|⟨_,_,_,h⟩<;>(rw[B]at h;cases h)
     have E:H'.rw l:=by
      cases cy with
      |row ro esz els=>cases ro with
       |true=>cases j
       |false=>exact .inl ⟨_,_,i⟩
      |map es=>exact .inr (.inl ⟨_,i⟩)
      |b0 t esz els=>exact .inr (.inr ⟨_,_,_,i⟩)
      |dead=>cases j
     have z:∃loc,e l=D loc/\iZ e d loc cy:=by
      cases cy with
      |row ro esz els=>exact c.rel.row _ _ _ _ i
      |map es=>exact c.rel.map _ _ i
      |b0 t esz els=>exact c.rel.b0 _ _ _ _ i
      |dead=>cases j
     obtain⟨loc,p,H⟩:=z;refine⟨x,d,e,loc,q,s,c.le,λk m=>c.aW k ?_,p,?_,j,H,c.os,c.tape,c.output,c.size,λk m=>c.frame k m (n k)⟩
     ·rw[F];show k<l\/_;omega
     ·exact(c.own loc.block ⟨l,loc,E,p,rfl⟩).resolve_left (n _)
    ·cases h
   ·cases h
  ·cases h
 ·cases h
structure e3(ρ0:Env)(H0:ae)(w0:World)(N:Nat)(im:Nat->Option bW)(ρ:Env)(H:ae)(w:World):Prop where
 sf:Rel ρ0 H0 w0
 le:ρ0.le ρ
 next:H0.next<=H.next
 aW:∀l,l<H0.next\/N<=l->ρ l=ρ0 l
 rel:Rel ρ H w
 os:w.os=w0.os
 tape:w.tape=w0.tape
 output:w.output=w0.output
 size:w0.heap.size<=w.heap.size
 frame:∀b,b<w0.heap.size->¬iF ρ0 H0 b->w.heap[b]? =w0.heap[b]?
 own:∀b,iF ρ H b->iF ρ0 H0 b\/w0.heap.size<=b
 ro:∀l esz els,H.get l=some (.row true esz els)->H0.get l=some (.row true esz els)
 fresh:∀l,H.next<=l->l<N->im l=none->ρ l=none
 ju:∀l b,im l=some b->H.next<=l/\l<N/\b.km=true/\∃loc,ρ l=some loc/\iZ ρ w loc b/\w0.heap.size<=loc.block/\¬iF ρ H loc.block
 sep:∀l l' b cy loc a,im l=some b->im l'=some cy->l≠l'->ρ l=some loc->ρ l'=some a->loc.block≠a.block
variable {ρ0:Env}{H0:ae}{w0:World}{N:Nat}{im:Nat->Option bW}
def e3.start(h:Rel ρ0 H0 w0)(c:yD ρ0 H0.next N):e3 ρ0 H0 w0 N (λ_=>Z) ρ0 H0 w0:=
 ⟨h,ρ0.le_refl,bm _,λ_ _=>rfl,h,rfl,rfl,rfl,bm _,λ_ _ _=>rfl,λ_ h=> .inl h,λ_ _ _ h=>h,λl a b _=>c l a b,λ_ _ h=>by simp at h,λ_ _ _ _ _ _ h=>by simp at h⟩
def e3.done(m:e3 ρ0 H0 w0 N im ρ H w)(a:H.next=N):Step ρ0 H0 w0 ρ H w:=
 ⟨m.le,m.next,λl c=>m.aW l (by rw[<-a];exact c),m.rel,m.os,m.tape,m.output,m.size,m.frame,m.own,m.ro⟩
def e3.step{z:Env}{H':ae}{y:World}(m:e3 ρ0 H0 w0 N im ρ H w)(s:Step ρ H w z H' y)(B:H'.next<=N)(aC:∀l b,im l=D b->H'.next<=l):e3 ρ0 H0 w0 N im z H' y where
 sf:=m.sf
 le:=Env.le_trans m.le s.le
 next:=Nat.le_trans m.next s.next
 aW:=λl o=>(s.aW l (o.imp (λh=>Nat.lt_of_lt_of_le h m.next) (λh=>Nat.le_trans B h))).trans (m.aW l o)
 rel:=s.rel
 os:=s.os.trans m.os
 tape:=s.tape.trans m.tape
 output:=s.output.trans m.output
 size:=Nat.le_trans m.size s.size
 frame:=λb i p=>by
  rw[s.frame b (Nat.lt_of_lt_of_le i m.size) (λd=>(m.own b d).elim p (λhle=>af)),m.frame b i p]
 own:=λb i=>(s.own b i).elim (λd=>m.own b d) (λhle=> .inr (Nat.le_trans m.size hle))
 ro:=λl esz els e=>m.ro l esz els (s.ro l esz els e)
 fresh:=λl a b c=>by rw[s.aW l (.inr a)];exact m.fresh l (Nat.le_trans s.next a) b c
 ju:=λl b h=>by
  obtain⟨P,G,q,loc,j,u,K,v⟩:=m.ju l b h;have E:=u.lt q;refine⟨aC l b h,G,q,loc,s.le _ _ j,u.frame s.le (s.frame _ E v),K,λd=> ?_⟩;rcases s.own _ d with h|h
  ·exact v h
  ·omega
 sep:=λl l' b cy loc L h a1 F e A=>by
  obtain⟨_,_,_,M,j,_⟩:=m.ju l b h;obtain⟨_,_,_,O,x,_⟩:=m.ju l' cy a1;have k:=s.le _ _ j;rw[e]at k;cases k;have n:=s.le _ _ x;rw[A]at n;cases n;exact m.sep l l' b cy _ _ h a1 F j x
def e3.early{q:Env}{p:World}{l:Nat}{b:bW}{loc:Loc}(m:e3 ρ0 H0 w0 N im ρ H w)(S:H.next<=l)(P:l<N)(aC:im l=Z)
  (hle:ρ.le q) (y:∀k,k≠l->q k=ρ k) (F:q l=D loc) (R:w.heap.size<=loc.block) (ab:b.km=X) (Q:iZ q p loc b) (V:p.os=w.os) (ae:p.tape=w.tape) (W:p.output=w.output)
  (ad:w.heap.size<=p.heap.size) (E:∀k,k<w.heap.size->p.heap[k]? =w.heap[k]?):e3 ρ0 H0 w0 N (λk=>if k=l then D b else im k) q H p:=by
 have hold:∀k i,H.live k->q k=D i->ρ k=D i:=λk i y e=>by
  obtain⟨M,o,_⟩:=m.rel.xb y;have:=hle _ _ o;rw[e]at this;cases this;exact o
 have K:∀k,iF q H k->iF ρ H k:=by
  rintro k ⟨l',i,a,c,n⟩;exact⟨l',i,a,hold _ _ a.live c,n⟩
 have aa:∀k,iF ρ H k->k<w.heap.size:=by
  rintro k ⟨l',i,a,c,n⟩;obtain⟨M,o,L⟩:=m.rel.xb a.live;rw[c]at o;cases o;rw[<-n];exact L
 refine⟨m.sf,Env.le_trans m.le hle,m.next,λk h=> ?_,m.rel.grow hle E,V.trans m.os,ae.trans m.tape,W.trans m.output,Nat.le_trans m.size ad,λk a c=> ?_,
  λk h=>m.own k (K k h),m.ro,λk a c n=> ?_,λk cy h=> ?_,λk v A B M ah h a1 T e x=> ?_⟩
 ·rw[y k (by have:=m.next;omega)];exact m.aW k h
 ·rw[E k (Nat.lt_of_lt_of_le a m.size)];exact m.frame k a c
 ·by_cases d:k=l
  ·subst d;simp at n
  ·simp only[d,if_false]at n;rw[y k d];exact m.fresh k a c n
 ·by_cases d:k=l
  ·subst d;simp only[if_true,aS]at h;subst h;exact⟨S,P,ab,loc,F,Q,Nat.le_trans m.size R,λG=>by have:=aa _ (K _ G);omega⟩
  ·simp only[d,if_false]at h;obtain⟨o,L,s,i,j,u,af,ag⟩:=m.ju k cy h;exact⟨o,L,s,i,hle _ _ j,u.frame hle (E _ (u.lt s)),af,λG=>ag (K _ G)⟩
 ·by_cases d:k=l
  ·by_cases z:v=l
   ·omega
   ·subst d;simp only[z,if_false]at a1;obtain⟨_,_,s,i,j,u,_,_⟩:=m.ju v B a1;have:=hle _ _ j;rw[x]at this;cases this;rw[F]at e;cases e;have:=u.lt s;omega
  ·by_cases z:v=l
   ·subst z;simp only[d,if_false]at h;obtain⟨_,_,s,i,j,u,_,_⟩:=m.ju k A h;have:=hle _ _ j;rw[e]at this;cases this;rw[F]at x;cases x;have:=u.lt s;omega
   ·simp only[d,if_false]at h;simp only[z,if_false]at a1;obtain⟨_,_,_,ai,j,_⟩:=m.ju k A h;obtain⟨_,_,_,aj,O,_⟩:=m.ju v B a1;have a:=hle _ _ j;rw[e]at a;cases a;have c:=hle _ _ O;rw[x]at c;cases c;exact m.sep k v A B _ _ h a1 T j O
def e3.GQ{b:bW}(m:e3 ρ0 H0 w0 N im ρ H w)(aC:im H.next=D b):e3 ρ0 H0 w0 N (λk=>if k=H.next then Z else im k) ρ (H.push b) w:=by
 obtain⟨_,W,P,loc,j,y,Q,R⟩:=m.ju _ _ aC;have z:∀k,(H.push b).rw k->k≠H.next->H.rw k:=λk h c=>by simpa [ae.rw,ae.dC c]using h
 have E:∀k,(H.push b).live k->k≠H.next->H.live k:=λk h c=>by simpa [ae.live,ae.dC c]using h
 have A:∀k d,H.live k->ρ k=D d->d.block≠loc.block:=by
  intro k d c e heq;by_cases x:H.rw k
  ·exact R ⟨k,d,x,e,heq⟩
  ·rcases c with⟨ro,esz,els,c⟩|c
   ·cases ro with
    |false=>exact x (.inl ⟨_,_,c⟩)
    |true=>
     have M:=m.ro _ _ _ c;obtain⟨aa,aT,F⟩:=m.sf.xb (.inl ⟨_,_,_,M⟩);have:=m.le _ _ aT;rw[e]at this;cases this;omega
   ·exact x (.inr c)
 have B:∀k,iF ρ (H.push b) k->iF ρ H k\/k=loc.block:=by
  rintro k ⟨l',d,u,o,p⟩;by_cases a:l'=H.next
  ·subst a;rw[j]at o;cases o;exact .inr p.symm
  ·exact .inl ⟨l',d,z _ u a,o,p⟩
 refine⟨m.sf,m.le,by have:=m.next;simp;omega,m.aW,⟨λl ro esz els h=> ?_,λl es h=> ?_,λl t esz els h=> ?_,λl l' q s h a1 v e n=> ?_⟩,m.os,m.tape,m.output,m.size,m.frame,
  λk h=> ?_,λl esz els h=>m.ro l esz els (ae.E5 (bW.km.ro P) l esz els h),λl u o p=> ?_,λl cy h=> ?_,λl l' K L q s h a1 v e n=> ?_⟩
 ·by_cases a:l=H.next
  ·subst a;rw[ae.bM]at h;simp only[aS]at h;subst h;exact⟨loc,j,y⟩
  ·rw[ae.dC a]at h;exact m.rel.row _ _ _ _ h
 ·by_cases a:l=H.next
  ·subst a;rw[ae.bM]at h;simp only[aS]at h;subst h;exact⟨loc,j,y⟩
  ·rw[ae.dC a]at h;exact m.rel.map _ _ h
 ·by_cases a:l=H.next
  ·subst a;rw[ae.bM]at h;simp only[aS]at h;subst h;exact⟨loc,j,y⟩
  ·rw[ae.dC a]at h;exact m.rel.b0 _ _ _ _ h
 ·by_cases a:l=H.next
  ·by_cases i:l'=H.next
   ·omega
   ·subst a;rw[j]at e;cases e;exactλheq=>A l' s (E _ a1 i) n heq.symm
  ·by_cases i:l'=H.next
   ·subst i;rw[j]at n;cases n;exact A l q (z _ h a).live e
   ·exact m.rel.apart l l' q s (z _ h a) (E _ a1 i) v e n
 ·rcases B k h with h|rfl
  ·exact m.own k h
  ·exact .inr Q
 ·simp only[ae.b8]at u;have a:l≠H.next:=af
  simp only[a,if_false]at p;exact m.fresh l af o p
 ·by_cases a:l=H.next
  ·simp[a]at h
  ·simp only[a,if_false]at h;obtain⟨aT,F,S,d,G,T,V,hp⟩:=m.ju l cy h;refine⟨by simp;omega,F,S,d,G,T,V,λO=> ?_⟩;rcases B _ O with a1|a1
   ·exact hp a1
   ·exact m.sep l H.next cy b d loc h aC a G j a1
 ·by_cases a:l=H.next
  ·simp[a]at h
  ·by_cases i:l'=H.next
   ·simp[i]at a1
   ·simp only[a,if_false]at h;simp only[i,if_false]at a1;exact m.sep l l' K L q s h a1 v e n
end
def pH(P:Program)(H:ae)(r:ad)(name:String):Option (Nat×ad):=
 match r with
 | .iface t v=>(match P.info? t with
  |some i=>(match i.methods.find? (·.name==name)with
   |some m=>(match m.path.toList,m.func,P.underlying t with
    |[],D (f,X),D (.pointer _)=>D (f,v)
    |[],D (f,U),D (.pointer e)=>(match v with
     | .ptr .. =>(aq P H e v).bind λu=>D (f,u)
     |_=>Z)
    |_,_,_=>Z)
   |none=>Z)
  |none=>Z)
 |_=>Z
def Fk{P:Program}{w:World}{n:Nat}{t:TypeId}{v:Value}{name:String}{i:TypeInfo}{m:Method}{f:FuncId}{a:Bool}(d:P.info? t=D i)(hm:i.methods.find? (·.name==name)=D m)(aC:m.path.toList=[])(c:m.func=D (f,a)){x:Value}
  (j:(receiverAt t (.val v) a (D ((name.splitOn ".").getLastD name))).run P w= .ok x w):(method (n+1) t v name).run P w= .ok (f,x) w:=by
 have e:m.path.isEmpty=true:=by simpa using aC
 have h:(typeInfo t).run P w= .ok i w:=by simp[typeInfo,d]
 unfold method;simp only[Sem.run_bind,h,Result.andThen_ok,hm,aC,follow,Sem.run_pure,c,e,if_true,j]
def Ig{P:Program}{ρ:Env}{H:ae}{w:World}(A:Rel ρ H w){r u:ad}{c3:Value}{name:String}{f:Nat}(h:pH P H r name=D (f,u))(B:bj ρ r c3)(args:Array Value):
  ∃o,bj ρ u o/\(callMethod c3 name args).run P w=(callFunc f (#[o]++args)).run P w:=by
 unfold pH at h;split at h
 ·rename_i t v;cases B with|iface _ _ p d=>
  split at h
  ·rename_i i n;split at h
   ·rename_i m hm;have k:P.types.size+Made.depth=(P.types.size+99)+1:=rfl;split at h
    ·rename_i aC a hu;simp only[aS,b5]at h;obtain⟨rfl,rfl⟩:=h;refine⟨p,d,?_⟩;simp only[callMethod,Sem.run_bind,run_program,Result.andThen_ok,k];rw[Fk (x:=p) n hm aC a (by simp only[receiverAt,Sem.run_bind,run_underlying hu,Result.andThen_ok,Place.get,Sem.run_pure])];rfl
    ·rename_i e aC a hu;split at h
     ·rename_i l j c;simp only[c1,aS,b5]at h;obtain⟨G,z,rfl,rfl⟩:=h;obtain⟨x,q,s⟩:=vL A z d;cases d with|ptr _ _ _ loc F=>
      refine⟨x,s,?_⟩;have y:(loadVar e ⟨loc.block,loc.off+j*loc.esz+c,Z⟩).run P w= .ok x w:=by simpa [Instr.loadAt,Instr.sureAddr]using q
      have E:∀cq:String,(Builtin.ssaWrapNilChk_ #[t] t #[.pointer (D ⟨loc.block,loc.off+j*loc.esz+c,Z⟩),strVal "",strVal cq]).run P w= .ok (.pointer (D ⟨loc.block,loc.off+j*loc.esz+c,Z⟩)) w:=λcq=>rfl
      simp only[callMethod,Sem.run_bind,run_program,Result.andThen_ok,k];rw[Fk (x:=x) n hm aC a (by simp only[receiverAt,Sem.run_bind,run_underlying hu,Result.andThen_ok,Place.get,Sem.run_pure,E,asAddr,y])];rfl
     ·cases h
    ·cases h
   ·cases h
  ·cases h
 ·cases h
def lM(P:Program)(H:ae)(aa:a7)(c:Call):Option (Nat×List ad):=
 match c.callee with
 | .value f=>match b_ aa f with
  |some (.func (.func g) first captured)=>match hh aa c.args.toList with
   |some a=>D (g,first++a++captured)
   |none=>Z
  |_=>Z
 | .invoke r name=>match b_ aa r with
  |some v=>match pH P H v name,hh aa c.args.toList with
   |some (g,u),D a=>D (g,u::a)
   |_,_=>Z
  |none=>Z
 |_=>Z
inductive K where
 |skip
 |pure (v:ad)
 |read (v:ad)
 |new (v:ad) (b:bW)
 |ea (v:ad) (H:ae)
def K.val:K->ad
 | .skip=> .tuple []
 | .pure v=>v
 | .read v=>v
 | .new v _=>v
 | .ea v _=>v
def K.heap(H:ae):K->ae
 | .new _ b=>H.push b
 | .ea _ H'=>H'
 |_=>H
def K.eW:K->Bool
 | .new _ _=>X
 | .ea _ _=>X
 |_=>U
abbrev ay:=Nat->List ad->ae->Option (ad×ae)
def wU:Option ad->Option K
 |some v=>D (.pure v)
 |none=>Z
def p0:Option ad->Option K
 |some v=>D (.read v)
 |none=>Z
def CX:Option (ad×bW)->Option K
 |some (v,b)=>D (.new v b)
 |none=>Z
def pX(H:ae):Option (ad×ae)->Option K
 |some (v,H')=>if H.next<=H'.next then D (.ea v H')else Z
 |none=>Z
inductive Hr where
 |pure|read|both|new|write|call
def cls:Op->Hr
 | .load .. => .read
 | .lookup .. => .read
 | .alloc _=> .new
 | .box .. => .new
 | .buildSlice .. => .new
 | .makeMap .. => .new
 | .makeSlice .. => .new
 | .store .. => .write
 | .mapUpdate .. => .write
 | .insert .. => .write
 | .convert .. => .both
 | .call c=>match c.callee with
  | .builtin .append=> .write
  | .builtin .clear=> .write
  | .builtin _=> .both
  |_=> .call
 |_=> .pure
def step1(P:Program)(call:ay)(o:Op)(aa:a7)(H:ae):Option K:=
 match cls o with
 | .pure=>wU (jd P o aa)
 | .read=>p0 (hg P o aa H)
 | .both=>match jd P o aa with
  |some v=>D (.pure v)
  |none=>p0 (hg P o aa H)
 | .new=>CX (jE P o aa H.next)
 | .write=>pX H (kT P o aa H)
 | .call=>match o with
  | .call c=>match lM P H aa c with
   |some (g,a)=>pX H (call g a H)
   |none=>Z
  |_=>Z
def ox(o:Op):Bool:=match cls o with
 | .new=>X
 | .write=>X
 | .call=>X
 |_=>U
def Pv{P:Program}{call:ay}{o:Op}{aa:a7}{H:ae}{k:K}(h:step1 P call o aa H=D k)(c:k.eW=X):ox o=true:=by
 unfold step1 at h;unfold ox;split at h
 ·unfold wU at h;split at h
  ·simp only[aS]at h;subst h;cases c
  ·cases h
 ·unfold p0 at h;split at h
  ·simp only[aS]at h;subst h;cases c
  ·cases h
 ·split at h
  ·simp only[aS]at h;subst h;cases c
  ·unfold p0 at h;split at h
   ·simp only[aS]at h;subst h;cases c
   ·cases h
 ·rename_i a;rw[a]
 ·rename_i a;rw[a]
 ·rename_i a;rw[a]
def lJ(P:Program)(call:ay)(o:Op)(aa:a7)(H:ae):K->Prop
 | .skip=>False
 | .pure v=>jd P o aa=D v
 | .read v=>hg P o aa H=D v
 | .new v b=>jE P o aa H.next=D (v,b)
 | .ea v H'=>H.next<=H'.next/\(kT P o aa H=D (v,H')\/∃c g a,o= .call c/\lM P H aa c=D (g,a)/\call g a H=D (v,H'))
def Pw{P:Program}{call:ay}{o:Op}{aa:a7}{H:ae}{k:K}(h:step1 P call o aa H=D k):lJ P call o aa H k:=by
 unfold step1 at h;split at h
 ·unfold wU at h;split at h
  ·rename_i v a;simp only[aS]at h;subst h;exact a
  ·cases h
 ·unfold p0 at h;split at h
  ·rename_i v a;simp only[aS]at h;subst h;exact a
  ·cases h
 ·split at h
  ·rename_i v a;simp only[aS]at h;subst h;exact a
  ·unfold p0 at h;split at h
   ·rename_i v a;simp only[aS]at h;subst h;exact a
   ·cases h
 ·unfold CX at h;split at h
  ·rename_i v b a;simp only[aS]at h;subst h;exact a
  ·cases h
 ·unfold pX at h;split at h
  ·rename_i v H' a;split at h
   ·rename_i d;simp only[aS]at h;subst h;exact⟨d,.inl a⟩
   ·cases h
  ·cases h
 ·split at h
  ·rename_i c _;split at h
   ·rename_i g i e;unfold pX at h;split at h
    ·rename_i v H' a;split at h
     ·rename_i d;simp only[aS]at h;subst h;exact⟨d,.inr ⟨c,g,i,rfl,e,a⟩⟩
     ·cases h
    ·cases h
   ·cases h
  ·cases h
section congr
variable {P:Program}{aa a6:a7}
def ob:∀{xs:List Operand},(∀x∈xs,b_ aa x=b_ a6 x)->hh aa xs=hh a6 xs
 |[],_=>rfl
 |x::xs,h=>by
  simp only[hh,h x (by simp),ob (xs:=xs) λy a=>h y (by simp[a])]
def vO:∀{xs:List (Nat×Operand)},(∀x∈xs.map (·.2),b_ aa x=b_ a6 x)->jc aa xs=jc a6 xs
 |[],_=>rfl
 |(i,x)::xs,h=>by
  simp only[jc,h x (by simp),vO (xs:=xs) λy a=>h y (by simp at a ⊢;exact .inr a)]
def vQ{x:Option Operand}(h:∀y,x=D y->b_ aa y=b_ a6 y):ke aa x=ke a6 x:=by
 cases x with
 |none=>rfl
 |some x=>simp only[ke,h x rfl]
def Iz{o:Op}(h:∀x∈o.operands,b_ aa x=b_ a6 x):jd P o aa=jd P o a6:=by
 cases o<;>simp only[jd,Op.operands]at h ⊢ <;>first
  |rfl
  |(simp at h;simp[h];done)
  |skip
 ·rename_i t k;rw[vO λx a=>h x (by simpa using a)]
 ·rename_i fn f c;rw[ob λx a=>h x (by simp at a ⊢;exact .inl a),ob (xs:=c.toList) λx a=>h x (by simp at a ⊢;exact .inr a)]
 ·rename_i t x lo i j;rw[h x (by simp),vQ (x:=lo) λy d=>h y (by simp[d]),vQ (x:=i) λy d=>h y (by simp[d]),vQ (x:=j) λy d=>h y (by simp[d])]
 ·rename_i c;cases e:c.callee with
  |builtin b=>
   simp only[Call.operands,e]at h ⊢;rw[ob λx a=>h x (by simpa using a)]
  |value f=>rfl
  |invoke r m=>rfl
def y_{o:Op}{H:ae}(h:∀x∈o.operands,b_ aa x=b_ a6 x):hg P o aa H=hg P o a6 H:=by
 cases o<;>simp only[hg,Op.operands]at h ⊢ <;>first
  |rfl
  |(simp at h;simp[h];done)
  |skip
 ·rename_i c;cases a:c.callee with
  |builtin b=>
   simp only[Call.operands,a]at h ⊢;rw[ob λx d=>h x (by simpa using d)]
  |value f=>rfl
  |invoke r m=>rfl
def Ii{o:Op}{H:ae}(h:∀x∈o.operands,b_ aa x=b_ a6 x):oa P o aa H=oa P o a6 H:=by
 cases o<;>simp only[oa,Op.operands]at h ⊢ <;>first
  |rfl
  |(simp at h;simp[h];done)
  |skip
 ·rename_i t n c;rw[vO λx a=>h x (by simpa using a)]
 ·rename_i t r;cases r<;>rfl
def Ik{o:Op}{l:Nat}(h:∀x∈o.operands,b_ aa x=b_ a6 x):jE P o aa l=jE P o a6 l:=by
 unfold jE;rw[Ii h]
def IL{o:Op}{H:ae}(h:∀x∈o.operands,b_ aa x=b_ a6 x):kT P o aa H=kT P o a6 H:=by
 cases o<;>simp only[kT,Op.operands]at h ⊢ <;>first
  |rfl
  |(simp at h;simp[h];done)
  |skip
 ·rename_i c;cases i:c.callee with
  |builtin b=>
   simp only[Call.operands,i]at h ⊢;cases d:c.args.toList with
   |nil=>cases b<;>rfl
   |cons s r=>
    cases r with
    |nil=>
     have a:s∈c.args.toList:=by simp[d]
     cases b<;>first
      |rfl
      |(simp only;rw[h s (by simpa using a)])
    |cons x r=>
     cases r with
     |nil=>
      have a:s∈c.args.toList:=by simp[d]
      have e:x∈c.args.toList:=by simp[d]
      cases b<;>first
       |rfl
       |(simp only;rw[h s (by simpa using a),h x (by simpa using e)])
     |cons y r=>cases b<;>rfl
  |value f=>rfl
  |invoke r m=>rfl
def HL{c:Call}{H:ae}(h:∀x∈c.operands,b_ aa x=b_ a6 x):lM P H aa c=lM P H a6 c:=by
 unfold lM;cases d:c.callee with
 |builtin b=>rfl
 |value f=>
  simp only[Call.operands,d]at h ⊢;rw[h f (by simp),ob λx a=>h x (by simp at a ⊢;exact .inr a)]
 |invoke r m=>
  simp only[Call.operands,d]at h ⊢;rw[h r (by simp),ob λx a=>h x (by simp at a ⊢;exact .inr a)]
def lJ.congr{call:ay}{o:Op}{H:ae}{k:K}(h:∀x∈o.operands,b_ aa x=b_ a6 x)(a:lJ P call o aa H k):lJ P call o a6 H k:=by
 cases k with
 |skip=>exact a
 |pure v=>exact(Iz h).symm.trans a
 |read v=>exact(y_ h).symm.trans a
 |new v b=>exact(Ik h).symm.trans a
 |ea v H'=>
  obtain⟨e,d|⟨c,g,j,rfl,d,i⟩⟩:=a
  ·exact⟨e,.inl ((IL h).symm.trans d)⟩
  ·exact⟨e,.inr ⟨c,g,j,rfl,(HL h).symm.trans d,i⟩⟩
end congr
def mE(P:Program)(m:Sem Next)(w:World)(next:Value->World->Prop):Prop:=
 match m.run P w with
 | .ok (.value x) a=>next x a
 | .ok (.enter f args) a=>Calls P f args a λ
  | .returned x,c=>next x c
  |_,_=>False
 |_=>False
def i_(E:Env)(P:Program)(g:Nat)(args:List ad)(H:ae)(v:ad)(H':ae):Prop:=∀(ρ:Env) (w:World) (xs:List Value),Rel ρ H w->h_ E ρ H.next H'.next->bB ρ args xs->H.next<=H'.next->∀next:Value->World->Prop,(∀x a c,bj c v x->Step ρ H w c H' a->next x a)->mE P (callFunc g xs.toArray) w next
def jC(E:Env)(P:Program)(call:ay):Prop:=∀g args H v H',call g args H=D (v,H')->i_ E P g args H v H'
section
variable {E:Env}{P:Program}{call:ay}{ρ:Env}{H H':ae}{w:World}{aa:a7}{a:Act}{o:Oper}{v:ad}{kM:Act->World->Prop}{Q:Exit->Act->World->Prop}
def Ey(h:jd P o.op aa=D v)(i:dT ρ aa a)(e:∀x,bj ρ v x->kM (a.put o.dst x) w):o.wp P a w kM Q:=by
 obtain⟨x,c,d⟩:=IA h i w;unfold Oper.wp;rw[c];exact e x d
def EU(e:Rel ρ H w)(h:hg P o.op aa H=D v)(j:dT ρ aa a)(i:∀x,bj ρ v x->kM (a.put o.dst x) w):o.wp P a w kM Q:=by
 obtain⟨x,c,d⟩:=IB e h j;unfold Oper.wp;rw[c];exact i x d
def DZ{l:Nat}{b:bW}(h:jE P o.op aa l=D (v,b))(G:dT ρ aa a)(E:ρ l=Z)
  (F:∀x c d loc,bj d v x->ρ.le d->(∀k,k≠l->d k=ρ k)->d l=D loc->w.heap.size<=loc.block->b.km=X->iZ d c loc b->
   c.os=w.os->c.tape=w.tape->c.output=w.output->w.heap.size<=c.heap.size->(∀k,k<w.heap.size->c.heap[k]? =w.heap[k]?)->kM (a.put o.dst x) c):o.wp P a w kM Q:=by
 obtain⟨x,c,d,loc,e,p,q,s,u,y,z,A,B,i,j,m,n⟩:=Il h G E w;unfold Oper.wp;rw[e];exact F x c d loc p q s u y z A B i j m n
def Ai(V:jC E P call)(s:Rel ρ H w)(K:h_ E ρ H.next H'.next)(h:lJ P call o.op aa H (.ea v H'))(p:dT ρ aa a)
  (y:∀x i k,bj k v x->Step ρ H w k H' i->kM (a.put o.dst x) i):o.wp P a w kM Q:=by
 obtain⟨W,B|⟨c,g,aj,T,d,S⟩⟩:=h
 ·obtain⟨n,x,i,k,ab,l,O,R⟩:=IM s B (K.new _ (bm _)) p;unfold Oper.wp;rw[ab];unfold yC at l;split at l
  ·subst l;exact y _ i k O R
  ·subst l;exact y _ i k O R
  ·exact l.elim
 ·unfold lM at d;split at d
  ·rename_i f G;split at d
   ·rename_i g' first captured ae
    split at d
    ·rename_i ah M;simp only[aS,b5]at d;obtain⟨rfl,rfl⟩:=d;have q:=dx p ae;have F:=oc p M;generalize he:a.eval f=z at q;cases q with|func _ _ _ jm c' aT N=>
     have j:=V _ _ _ _ _ S ρ w _ s K ((aT.append F).append N) W (λx i=>kM (a.put o.dst x) i) (λx i k=>y x i k);have L:(execOp a.eval o).run P w=(callFunc g' ((jm++c.args.toList.map a.eval++c').toArray)).run P w:=by
      unfold execOp;rw[T];simp only[resolve,G,he,Deferred.ofValue,pure_bind,invoke]
      congr 2
      rw[map_toArray a.eval];simp
     unfold Oper.wp;rw[L];unfold mE at j;split at j
     ·rename_i e;rw[e];exact j
     ·rename_i e;rw[e];refine Calls.mono j λA ai m=> ?_
      cases A<;>first|exact m|exact m.elim
     ·exact j.elim
    ·cases d
   ·cases d
  ·rename_i bw name G;split at d
   ·rename_i v0 af;split at d
    ·rename_i g' u ah hm M;simp only[aS,b5]at d;obtain⟨rfl,rfl⟩:=d;have q:=dx p af;have F:=oc p M;obtain⟨ag,aT,N⟩:=Ig s hm q (c.args.toList.map a.eval).toArray;have j:=V _ _ _ _ _ S ρ w _ s K (.cons _ _ _ _ aT F) W (λx i=>kM (a.put o.dst x) i) (λx i k=>y x i k);have L:(execOp a.eval o).run P w=(callFunc g' ((ag::c.args.toList.map a.eval).toArray)).run P w:=by
      unfold execOp;rw[T];simp only[resolve,G,pure_bind,invoke];rw[map_toArray a.eval];have ad:(#[a.eval bw]++(c.args.toList.map a.eval).toArray)[0]? =D (a.eval bw):=by simp
      have B:(#[a.eval bw]++(c.args.toList.map a.eval).toArray).extract 1 (#[a.eval bw]++(c.args.toList.map a.eval).toArray).size=(c.args.toList.map a.eval).toArray:=by
       apply Array.ext';simp;exact List.take_of_length_le (by simp)
      rw[ad,B];simp only
      rw[N];simp
     unfold Oper.wp;rw[L];unfold mE at j;split at j
     ·rename_i e;rw[e];exact j
     ·rename_i e;rw[e];refine Calls.mono j λA ai m=> ?_
      cases A<;>first|exact m|exact m.elim
     ·exact j.elim
    ·cases d
   ·cases d
  ·cases d
end
def kg(acc:List Nat):List Edge->Nat
 |[]=>0
 |e::es=>if Region.binds .any e then 2^e.on|||(acc[e.on]?.getD 0|||kg acc es)else kg acc es
def lZ:List Oper->List Nat->List Nat
 |[],acc=>acc
 |o::os,acc=>lZ os (acc++[kg acc o.after.toList])
def dJ(ops:Array Oper):List Nat:=lZ ops.toList []
def dk(ms:List Nat)(j i:Nat):Bool:=(ms[i]?.getD 0).testBit j
def DS:∀(os pre:List Oper) (acc:List Nat),acc.length=pre.length->(∀i o,pre[i]? =D o->acc[i]? =D (kg (acc.take i) o.after.toList))->
  ∀i o,(pre++os)[i]? =D o->(lZ os acc)[i]? =D (kg ((lZ os acc).take i) o.after.toList)
 |[],pre,acc,c,h,i,o,d=>by simpa [lZ]using h i o (by simpa using d)
 |p::os,pre,acc,c,h,i,o,d=>by
  unfold lZ;refine DS os (pre++[p]) _ (by simp[c]) (λj q a=> ?_) i o (by simpa using d);rcases Nat.lt_or_ge j pre.length with k|e
  ·rw[List.getElem?_append_left k]at a;rw[List.getElem?_append_left af,h j q a,List.take_append_of_le_length af]
  ·rw[List.getElem?_append_right e]at a;have:j=pre.length:=by
    have:=(List.getElem?_eq_some_iff.1 a).1;simp at this;omega
   subst this;simp at a;subst a;rw[List.getElem?_append_right af,<-c];simp
def DT{ops:Array Oper}{i:Nat}{o:Oper}(h:ops[i]? =D o):(dJ ops)[i]? =D (kg ((dJ ops).take i) o.after.toList):=
 DS ops.toList [] [] rfl (by simp) i o (by simpa using h)
def we{acc:List Nat}{e:Edge}:∀{es:List Edge},e∈es->Region.binds .any e=X->(kg acc es).testBit e.on=X
 |[],h,_=>by simp at h
 |d::es,h,a=>by
  unfold kg;rcases List.mem_cons.1 h with rfl|h
  ·rw[if_pos a];simp[Nat.testBit_two_pow_self]
  ·split
   ·simp[we h a]
   ·exact we h a
def wc{acc:List Nat}{j:Nat}:∀{es:List Edge},(kg acc es).testBit j=X->∃e∈es,Region.binds .any e=X/\(j=e.on\/(acc[e.on]?.getD 0).testBit j=X)
 |[],h=>by simp[kg]at h
 |d::es,h=>by
  unfold kg at h;split at h
  ·rename_i k;simp only[Nat.testBit_or,Bool.or_eq_true]at h;rcases h with h|h|h
   ·refine⟨d,by simp,k,.inl ?_⟩;rw[Nat.testBit_two_pow]at h;simpa using(of_decide_eq_true h).symm
   ·exact⟨d,by simp,k,.inr h⟩
   ·obtain⟨e,a,c,i⟩:=wc h;exact⟨e,by simp[a],c,i⟩
  ·obtain⟨e,a,c,i⟩:=wc h;exact⟨e,by simp[a],c,i⟩
def pB(L:Nat->Bool)(o:Oper):Prop:=∀e∈o.after,Region.binds .any e=X->L e.on=X
def q1(ops:Array Oper)(L:Nat->Bool):Prop:=∀i o,ops[i]? =D o->L i=X->pB L o
def kU{ops:Array Oper}{L:Nat->Bool}(q:q1 ops L):∀(i:Nat) (o:Oper),ops[i]? =D o->pB L o->∀j,dk (dJ ops) j i=X->L j=true:=by
 intro i
 induction i using Nat.strongRecOn with
 |_ i h=>
  intro o s hw j c;unfold dk at c;rw[DT s]at c;simp only[Option.getD_some]at c;obtain⟨e,n,p,a⟩:=wc c;have k:=hw e (by simpa using n) p;rcases a with rfl|a
  ·exact k
  ·rcases Nat.lt_or_ge e.on i with l|x
   ·rw[List.getElem?_take_of_lt l]at a;cases d:ops[e.on]? with
    |none=>
     cases hm:(dJ ops)[e.on]? with
     |none=>rw[hm]at a;simp at a
     |some m=>
      exfalso;have hlen:∀(os:List Oper) (acc:List Nat),(lZ os acc).length=acc.length+os.length:=by
       intro os
       induction os with
       |nil=>intro acc;simp[lZ]
       |cons o os h=>intro acc;simp[lZ,h];omega
      have u:=(List.getElem?_eq_some_iff.1 hm).1;have v:(dJ ops).length=ops.size:=by unfold dJ;rw[hlen];simp
      have w:ops.size<=e.on:=by simpa using d
      omega
    |some p9=>exact h e.on l p9 d (q _ _ d k) j a
   ·rw[List.getElem?_eq_none (by simp;omega)]at a;simp at a
def IT{ops:Array Oper}{i:Nat}{o:Oper}(c:ops[i]? =D o){e:Edge}(he:e∈o.after)(a:Region.binds .any e=X):dk (dJ ops) e.on i=true:=by
 unfold dk;rw[DT c];exact we (by simpa using he) a
def kS(ops:Array Oper)(aa:a7)(o:Oper):Bool:=
 match o.guard with
 |none=>X
 |some (j,want)=>match ops[j]? with
  |some q=>(match q.dst with
   |some d=>(match aa.get d with
    | .bool b=>b==want
    |_=>U)
   |none=>U)
  |none=>U
def zi{ρ:Env}{ops:Array Oper}{aa:a7}{a:Act}(i:dT ρ aa a)(o:Oper):Region.wanted o (yielded ops a.tmps)=kS ops aa o:=by
 unfold Region.wanted kS;cases l:o.guard with
 |none=>rfl
 |some p=>
  obtain⟨j,want⟩:=p;simp only
  unfold yielded;cases m:ops[j]? with
  |none=>simp
  |some q=>
   cases e:q.dst with
   |none=>simp[e]
   |some d=>
    simp only[Option.bind_some,e];have c:=i.get d;rw[Array.getD_eq_getD_getElem?]at c;cases h:a.tmps[d]? with
    |none=>
     rw[h]at c;simp only[Option.getD_none]at c;generalize k:aa.get d=v at c;cases v<;>first|rfl|(exfalso;cases c)
    |some x=>
     rw[h]at c;simp only[Option.getD_some]at c;generalize k:aa.get d=v at c;cases c<;>first|rfl|(simp;done)
def IK{ops:Array Oper}{aa a6:a7}{o:Oper}(h:∀d∈o.looksAt ops,aa.get d=a6.get d):kS ops aa o=kS ops a6 o:=by
 unfold kS;cases c:o.guard with
 |none=>rfl
 |some p=>
  obtain⟨j,want⟩:=p;simp only
  cases e:ops[j]? with
  |none=>rfl
  |some q=>
   cases a:q.dst with
   |none=>simp[a]
   |some d=>
    simp only[a];rw[h d (by simp[Oper.looksAt,c,e,a])]
def II{ops:Array Oper}{aa a6:a7}{o:Oper}(h:∀d∈o.looksAt ops,aa.get d=a6.get d):∀x∈o.op.operands,b_ aa x=b_ a6 x:=by
 intro x a;cases x with
 |tmp t=>
  simp only[b_];rw[h t ?_];unfold Oper.looksAt;refine List.mem_append.2 (.inl ?_);rw[List.mem_filterMap];exact⟨.tmp t,by simpa using a,rfl⟩
 |const v=>rfl
 |global g=>rfl
 |func f=>rfl
structure bN where
 i:Nat
 o:Oper
 aa:a7
 k:K
def hD(P:Program)(call:ay)(ops:Array Oper)(o:Oper)(aa:a7)(H:ae):Option K:=
 match kS ops aa o with
 |true=>step1 P call o.op aa H
 |false=>D .skip
def canRun(P:Program)(call:ay)(ops:Array Oper):List Nat->a7->ae->Option (List bN×a7×ae)
 |[],aa,H=>D ([],aa,H)
 |i::is,aa,H=>match ops[i]? with
  |none=>Z
  |some o=>match hD P call ops o aa H with
   |none=>Z
   |some k=>match aa.put o.dst k.val with
    |none=>Z
    |some a6=>match canRun P call ops is a6 (k.heap H)with
     |none=>Z
     |some (T,cE,bP)=>D (⟨i,o,aa,k⟩::T,cE,bP)
def cr:List bN->ae->ae
 |[],H=>H
 |t::ts,H=>cr ts (t.k.heap H)
def kj(A B:List bN)(H:ae):cr (A++B) H=cr B (cr A H):=by
 induction A generalizing H with
 |nil=>rfl
 |cons t A a=>simp[cr,a]
def fH(L:Nat->Bool)(d:Nat):List bN->ad->ad
 |[],v=>v
 |t::ts,v=>fH L d ts (if L t.i=X/\t.o.dst=D d then t.k.val else v)
def xM(L:Nat->Bool)(d:Nat)(A B:List bN)(v:ad):fH L d (A++B) v=fH L d B (fH L d A v):=by
 induction A generalizing v with
 |nil=>rfl
 |cons t A a=>simp[fH,a]
def se{L L':Nat->Bool}{d:Nat}:∀{A:List bN} {v:ad},(∀t∈A,t.o.dst=D d->L t.i=L' t.i)->fH L d A v=fH L' d A v
 |[],_,_=>rfl
 |t::A,v,h=>by
  simp only[fH];have:(L t.i=X/\t.o.dst=D d)↔(L' t.i=X/\t.o.dst=D d):=by
   constructor
   ·rintro⟨c,a⟩;exact⟨by rw[<-h t (by simp) a];exact c,a⟩
   ·rintro⟨c,a⟩;exact⟨by rw[h t (by simp) a];exact c,a⟩
  simp only[this];exact se λu hu=>h u (by simp[hu])
def uc{L:Nat->Bool}{d:Nat}:∀{A:List bN} {v:ad},(∀t∈A,t.o.dst=D d->L t.i=U)->fH L d A v=v
 |[],_,_=>rfl
 |t::A,v,h=>by
  simp only[fH];rw[if_neg (by rintro⟨a,c⟩;rw[h t (by simp) c]at a;cases a)];exact uc λu hu=>h u (by simp[hu])
def kW{P:Program}{call:ay}{ops:Array Oper}:∀{is:List Nat} {aa:a7} {H:ae} {T:List bN} {cE:a7} {bP:ae},canRun P call ops is aa H=D (T,cE,bP)->
  T.map (·.i)=is/\bP=cr T H/\cE.size=aa.size/\∀d,cE.get d=fH (λ_=>X) d T (aa.get d)
 |[],aa,H,T,cE,bP,h=>by
  simp only[canRun,aS,b5]at h;obtain⟨rfl,rfl,rfl⟩:=h;exact⟨rfl,rfl,rfl,λ_=>rfl⟩
 |i::is,aa,H,T,cE,bP,h=>by
  simp only[canRun]at h;split at h
  ·cases h
  ·rename_i o s;split at h
   ·cases h
   ·rename_i k q;split at h
    ·cases h
    ·rename_i a6 a;split at h
     ·cases h
     ·rename_i p n m a1;simp only[aS,b5]at h;obtain⟨rfl,rfl,rfl⟩:=h;obtain⟨c,e,j,l⟩:=kW a1;refine⟨by simp[c],e,by rw[j,a7.qN a],λd=> ?_⟩;rw[l d,a7.rC a d];simp[fH]
def vZ{P:Program}{call:ay}{ops:Array Oper}:∀{A:List bN} {is:List Nat} {aa:a7} {H:ae} {t:bN} {B:List bN} {cE:a7} {bP:ae},canRun P call ops is aa H=D (A++t::B,cE,bP)->
  ops[t.i]? =D t.o/\(∀d,t.aa.get d=fH (λ_=>X) d A (aa.get d))/\hD P call ops t.o t.aa (cr A H)=D t.k/\(∀d,t.o.dst=D d->d<aa.size)
 |A,[],aa,H,t,B,cE,bP,h=>by
  simp only[canRun,aS,b5]at h;have:=h.1;simp at this
 |A,i::is,aa,H,t,B,cE,bP,h=>by
  simp only[canRun]at h;split at h
  ·cases h
  ·rename_i o q;split at h
   ·cases h
   ·rename_i k p;split at h
    ·cases h
    ·rename_i a6 c;split at h
     ·cases h
     ·rename_i w v s a1;simp only[aS,b5]at h;obtain⟨a,rfl,rfl⟩:=h;cases A with
      |nil=>
       simp only[List.nil_append,List.cons.injEq]at a;obtain⟨rfl,rfl⟩:=a;refine⟨q,λ_=>rfl,p,λd e=> ?_⟩;simp only at e;rw[e]at c;exact a7.EB c
      |cons u A=>
       simp only[List.cons_append,List.cons.injEq]at a;obtain⟨rfl,rfl⟩:=a;obtain⟨j,l,m,n⟩:=vZ a1;refine⟨j,λd=> ?_,m,λd e=>by rw[<-a7.qN c];exact n d e⟩;rw[l d,a7.rC c d];simp[fH]
def ez:ae->List bN->Prop
 |_,[]=>True
 |H,t::ts=>H.next<=(t.k.heap H).next/\ez (t.k.heap H) ts
def ez.append:∀{A B:List bN} {H:ae},ez H (A++B)->ez H A/\ez (cr A H) B
 |[],_,_,h=>⟨trivial,h⟩
 |_::A,_,_,h=>by
  obtain⟨a,c⟩:=h;obtain⟨d,e⟩:=ez.append (A:=A) c;exact⟨⟨a,d⟩,e⟩
def ez.le:∀{A:List bN} {H:ae},ez H A->H.next<=(cr A H).next
 |[],_,_=>bm _
 |_::A,_,h=>Nat.le_trans h.1 (ez.le (A:=A) h.2)
def pZ{P:Program}{call:ay}{ops:Array Oper}{o:Oper}{aa:a7}{H:ae}{k:K}(h:hD P call ops o aa H=D k):
  (kS ops aa o=X/\lJ P call o.op aa H k)\/(kS ops aa o=U/\k= .skip):=by
 unfold hD at h;split at h
 ·rename_i hw;exact .inl ⟨hw,Pw h⟩
 ·rename_i hw;simp only[aS]at h;exact .inr ⟨hw,h.symm⟩
def CU{P:Program}{call:ay}{ops:Array Oper}{o:Oper}{aa:a7}{H:ae}{k:K}(h:hD P call ops o aa H=D k)(a:k.eW=X):ox o.op=true:=by
 unfold hD at h;split at h
 ·exact Pv h a
 ·simp only[aS]at h;subst h;cases a
def wS{P:Program}{call:ay}{ops:Array Oper}{o:Oper}{aa:a7}{H:ae}{k:K}(h:hD P call ops o aa H=D k):H.next<=(k.heap H).next:=by
 rcases pZ h with⟨_,h⟩|⟨_,rfl⟩
 ·cases k with
  |ea v H'=>exact h.1
  |new v b=>simp[K.heap]
  |_=>exact bm _
 ·exact bm _
def rk{P:Program}{call:ay}{ops:Array Oper}:∀{is:List Nat} {aa:a7} {H:ae} {T:List bN} {cE:a7} {bP:ae},canRun P call ops is aa H=D (T,cE,bP)->ez H T
 |[],aa,H,T,cE,bP,h=>by
  simp only[canRun,aS,b5]at h;obtain⟨rfl,rfl,rfl⟩:=h;trivial
 |i::is,aa,H,T,cE,bP,h=>by
  simp only[canRun]at h;split at h
  ·cases h
  ·rename_i o j;split at h
   ·cases h
   ·rename_i k a;split at h
    ·cases h
    ·split at h
     ·cases h
     ·rename_i e d c a1;simp only[aS,b5]at h;obtain⟨rfl,rfl,rfl⟩:=h;exact⟨wS a,rk a1⟩
def ec(L:Nat->Bool):List bN->ae->Nat->Option bW
 |[],_,_=>Z
 |t::ts,H,l=>match t.k with
  | .new _ b=>if l=H.next then(if L t.i=X then D b else Z)else ec L ts (H.push b) l
  |k=>ec L ts (k.heap H) l
def r_{L:Nat->Bool}:∀{T:List bN} {H:ae} {l:Nat} {b:bW},ez H T->ec L T H l=D b->H.next<=l
 |[],_,_,_,_,h=>by cases h
 |t::ts,H,l,b,hm,h=>by
  unfold ec at h;split at h
  ·rename_i v cy a;split at h
   ·omega
   ·have:=r_ (by have:=hm.2;rwa[a]at this) h;simp at this;omega
  ·have c:=hm.1;have:=r_ hm.2 h;omega
def r9{L L':Nat->Bool}:∀{T:List bN} {H:ae},(∀t∈T,∀v b,t.k= .new v b->L t.i=L' t.i)->ec L T H=ec L' T H
 |[],_,_=>rfl
 |t::ts,H,h=>by
  funext l
  unfold ec;split
  ·rename_i v b a;rw[h t (by simp) v b a,r9 (T:=ts) (λu hu=>h u (by simp[hu]))]
  ·rw[r9 (T:=ts) (λu hu=>h u (by simp[hu]))]
def sa{L:Nat->Bool}{t:bN}{ts:List bN}{H:ae}(h:∀v b,t.k≠ .new v b):ec L (t::ts) H=ec L ts (t.k.heap H):=by
 funext l
 show(match t.k with
  | .new _ b=>if l=H.next then(if L t.i=X then D b else Z)else ec L ts (H.push b) l
  |k=>ec L ts (k.heap H) l)=_
 split
 ·rename_i v b a;exact absurd a (h v b)
 ·rfl
def Ep{L L':Nat->Bool}{t:bN}{v:ad}{b:bW}(o:t.k= .new v b)(n:L t.i=U)(q:L' t.i=X):∀{zC zD:List bN} {H:ae},ez H (zC++t::zD)->
  (∀u∈zC,L u.i=L' u.i)->(∀u∈zD,L u.i=L' u.i)->
  ec L' (zC++t::zD) H=(λk=>if k=(cr zC H).next then D b else ec L (zC++t::zD) H k)/\ec L (zC++t::zD) H (cr zC H).next=Z
 |[],zD,H,hm,l,m=>by
  constructor
  ·funext k
   simp only[List.nil_append,cr,ec,o,n,q,if_true,Bool.false_eq_true,if_false];rw[r9 (T:=zD) λu hu _ _ _=>m u hu];split<;>rfl
  ·simp[ec,o,n,cr]
 |c::zC,zD,H,hm,l,m=>by
  obtain⟨y,p⟩:=hm;obtain⟨d,e⟩:=Ep o n q (zC:=zC) (zD:=zD) p (λu hu=>l u (by simp[hu])) m;by_cases a:∃x cy,c.k= .new x cy
  ·obtain⟨x,cy,a⟩:=a;have hle:(c.k.heap H).next<=(cr zC (c.k.heap H)).next:=(ez.append p).1.le
   rw[a]at d e hle;simp only[K.heap,ae.b8]at hle d e;constructor
   ·funext k
    simp only[List.cons_append,ec,a,cr,K.heap];rw[<-l c (by simp),d];by_cases s:k=H.next
    ·subst s;simp only[if_true];by_cases j:H.next=(cr zC (H.push cy)).next
     ·omega
     ·simp only[j,if_false]
    ·simp only[s,if_false];by_cases j:k=(cr zC (H.push cy)).next
     ·simp only[j,if_true]
     ·simp only[j,if_false]
   ·simp only[List.cons_append,ec,a,cr,K.heap];rw[if_neg af];exact e
  ·have w:∀v b,c.k≠ .new v b:=λv b h=>a ⟨v,b,h⟩
   rw[List.cons_append,sa w,sa w,cr];exact⟨d,e⟩
section
mutual
def ad.beq:ad->ad->Bool
 | .bool a,.bool b=>a==b
 | .int k n,.int o m=>decide (k=o)&&decide (n=m)
 | .str s,.str t=>decide (s=t)
 | .ptr l i c,.ptr l' d c'=>decide (l=l')&&decide (i=d)&&decide (c=c')
 | .nilPtr,.nilPtr=>X
 | .aD l i n e c,.aD l' d p j c'=>decide (l=l')&&decide (i=d)&&decide (n=p)&&decide (e=j)&&decide (c=c')
 | .az,.az=>X
 | .map l,.map l'=>decide (l=l')
 | .hY,.hY=>X
 | .nilFunc,.nilFunc=>X
 | .iface t v,.iface q u=>decide (t=q)&&ad.beq v u
 | .nilIface,.nilIface=>X
 | .agg xs,.agg h=>gA.beq xs h
 | .tuple xs,.tuple h=>gA.beq xs h
 |_,_=>U
def gA.beq:List ad->List ad->Bool
  |[],[]=>X
  |x::xs,y::a=>ad.beq x y&&gA.beq xs a
  |_,_=>U
 end
mutual
def ad.beq_eq:∀{a b:ad},ad.beq a b=X->a=b:=by
 intro a b h;cases a<;>cases b<;>simp only[ad.beq]at h<;>first
  |(cases h;done)
  |rfl
  |(simp at h;simp[h];done)
  |skip
 ·simp only[Bool.and_eq_true,decide_eq_true_eq]at h;obtain⟨rfl,h⟩:=h;rw[ad.beq_eq h]
 ·rw[gA.beq_eq h]
 ·rw[gA.beq_eq h]
def gA.beq_eq:∀{a b:List ad},gA.beq a b=X->a=b:=by
  intro a b h;cases a with
  |nil=>cases b with
   |nil=>rfl
   |cons y c=>simp[gA.beq]at h
  |cons x xs=>cases b with
   |nil=>simp[gA.beq]at h
   |cons y c=>
    simp only[gA.beq,Bool.and_eq_true]at h;rw[ad.beq_eq h.1,gA.beq_eq h.2]
 end
def r7(ops:Array Oper)(ms:List Nat)(i j:Nat):Bool:=
 match ops[i]?,ops[j]? with
 |some o,D q=>(i != j)&&(!dk ms j i)&&(dk ms i j||o.apart ops q)
 |_,_=>U
def tU(ops:Array Oper)(ms:List Nat):List Nat->Bool
 |[]=>X
 |i::is=>is.all (r7 ops ms i)&&tU ops ms is
def Ek{ops:Array Oper}{ms:List Nat}:∀{is:List Nat},tU ops ms is=X->is.Pairwise λi j=>r7 ops ms i j=X
 |[],_=> .nil
 |i::is,h=>by
  simp only[tU,Bool.and_eq_true,List.all_eq_true]at h;exact .cons h.1 (Ek h.2)
def Ag(n:Nat)(o:Oper):Bool:=o.after.toList.all λe=> !Region.binds .any e||decide (e.on<n)
def qb(ops:Array Oper)(ms ord:List Nat):Bool:=(List.range ops.size).all (λi=>ord.contains i)&&(ord.all (λi=> !dk ms i i)&&(ops.toList.all (Ag ops.size)&&tU ops ms ord))
def ji(ms:List Nat):List bN->List Nat->Bool
 |[],_=>X
 |t::ts,ids=>match t.k with
  | .ea _ _=>ids.all (λj=>dk ms j t.i)&&ji ms ts (t.i::ids)
  | .new _ _=>ji ms ts (t.i::ids)
  |_=>ji ms ts ids
def s_{ms:List Nat}:∀{A:List bN} {t:bN} {B:List bN} {ids:List Nat} {v:ad} {H:ae},ji ms (A++t::B) ids=X->t.k= .ea v H->
  (∀j∈ids,dk ms j t.i=X)/\∀u∈A,u.k.eW=X->dk ms u.i t.i=X
 |[],t,B,ids,v,H,h,l=>by
  simp only[List.nil_append,ji,l,Bool.and_eq_true,List.all_eq_true]at h;exact⟨h.1,λu hu=>by simp at hu⟩
 |c::A,t,B,ids,v,H,h,l=>by
  simp only[List.cons_append,ji]at h;split at h
  ·simp only[Bool.and_eq_true]at h;obtain⟨a,e⟩:=s_ h.2 l;refine⟨λj m=>a j (by simp[m]),λu hu d=> ?_⟩;rcases List.mem_cons.1 hu with rfl|hu
   ·exact a _ (by simp)
   ·exact e u hu d
  ·obtain⟨a,e⟩:=s_ h l;refine⟨λj m=>a j (by simp[m]),λu hu d=> ?_⟩;rcases List.mem_cons.1 hu with rfl|hu
   ·exact a _ (by simp)
   ·exact e u hu d
  ·rename_i o p;obtain⟨a,e⟩:=s_ h l;refine⟨a,λu hu d=> ?_⟩;rcases List.mem_cons.1 hu with rfl|hu
   ·exfalso;cases n:u.k with
    |new v b=>exact p v b n
    |ea v H=>exact o v H n
    |_=>rw[n]at d;cases d
   ·exact e u hu d
def j6(ms:List Nat)(rd:ae->Bool)(i:Nat):List bN->ae->Bool
 |[],H=>rd H
 |t::ts,H=>if t.k.eW then(dk ms t.i i||rd H)&&(dk ms i t.i||j6 ms rd i ts (t.k.heap H))else j6 ms rd i ts H
def ti{k:K}(h:k.eW=U)(H:ae):k.heap H=H:=by
 cases k<;>first|rfl|cases h
def yx{ms:List Nat}{rd:ae->Bool}{i:Nat}:∀{A B:List bN} {H:ae},j6 ms rd i (A++B) H=X->(∀u∈A,u.k.eW=X->dk ms i u.i=U)->
  (∀u e,B=u::e->u.k.eW=X/\dk ms u.i i=U)->rd (cr A H)=X
 |[],[],H,h,_,_=>h
 |[],u::B,H,h,_,a=>by
  obtain⟨j,l⟩:=a u B rfl;simp only[List.nil_append,j6,j,if_true,Bool.and_eq_true,Bool.or_eq_true,l]at h;simpa [cr]using h.1
 |t::A,B,H,h,c,a=>by
  simp only[List.cons_append,j6]at h;split at h
  ·rename_i d;simp only[Bool.and_eq_true,Bool.or_eq_true,c t (by simp) d]at h;rw[cr];exact yx (h.2.resolve_left (by simp)) (λu hu=>c u (by simp[hu])) a
  ·rename_i d;rw[cr,ti (by simpa using d)];exact yx h (λu hu=>c u (by simp[hu])) a
def oL(P:Program)(o:Op)(aa:a7)(v:ad)(H:ae):Bool:=
 match hg P o aa H with
 |some u=>ad.beq u v
 |none=>U
def ET{P:Program}{o:Op}{aa:a7}{v:ad}{H:ae}(h:oL P o aa v H=X):hg P o aa H=D v:=by
 unfold oL at h;split at h
 ·rename_i u hu;rw[hu,ad.beq_eq h]
 ·cases h
def ae.only(H:ae):ae:=match H.get (H.next-1)with
 |some b=>⟨bt.put b H.next .leaf (H.next-1),H.next⟩
 |none=>⟨.leaf,H.next⟩
def ae.r0{H:ae}{b:bW}{l:Nat}{x:bW}(h:(H.push b).only.get l=D x):l=H.next/\x=b:=by
 have e:(H.push b).get ((H.push b).next-1)=D b:=ae.bM H b;unfold ae.only at h;rw[e]at h;simp only[ae.get,ae.b8,Nat.add_sub_cancel]at h;split at h
 ·by_cases a:H.next=l
  ·subst a;rw[bt.rE _ _ _ _ af]at h;exact⟨rfl,by simpa using h.symm⟩
  ·rw[bt.rD _ _ _ _ _ a]at h;rw[bt.rA]at h;cases h
 ·cases h
def mV(k:K):Bool:=match k with
 | .ea _ _=>U
 |_=>X
def og(ms:List Nat)(i:Nat):List bN->Bool->Bool
 |[],_=>U
 |t::ts,s=>match t.k with
  | .new _ _=>(s&&dk ms t.i i&&ts.all λu=>mV u.k)||og ms i ts (s|| !dk ms t.i i)
  | .ea _ _=>og ms i ts (s|| !dk ms t.i i)
  |_=>og ms i ts s
def kp(ms:List Nat)(rd:ae->Bool)(i:Nat):List bN->ae->Bool->Bool
 |[],_,_=>U
 |t::ts,H,s=>match t.k with
  | .new _ b=>bif s&&dk ms t.i i&&ts.all (λu=>mV u.k)then rd (H.push b).only||kp ms rd i ts (H.push b) (s|| !dk ms t.i i)else kp ms rd i ts (H.push b) (s|| !dk ms t.i i)
  | .ea _ H'=>kp ms rd i ts H' (s|| !dk ms t.i i)
  |_=>kp ms rd i ts H s
def DY{ms:List Nat}{rd:ae->Bool}{i:Nat}:∀{T:List bN} {H:ae} {s:Bool},kp ms rd i T H s=X->
  ∃A u B v b,T=A++u::B/\u.k= .new v b/\dk ms u.i i=X/\(∀x∈B,mV x.k=X)/\rd ((cr A H).push b).only=X
 |[],H,s,h=>by cases h
 |t::ts,H,s,h=>by
  have d:∀{H':ae} {s':Bool},t.k.heap H=H'->kp ms rd i ts H' s'=X->∃A u B v b,t::ts=A++u::B/\u.k= .new v b/\dk ms u.i i=X/\(∀x∈B,mV x.k=X)/\rd ((cr A H).push b).only=true:=by
   intro H' s' e a1;obtain⟨A,u,B,v,b,l,m,n,o,p⟩:=DY a1;exact⟨t::A,u,B,v,b,by rw[l];rfl,m,n,o,by rw[cr,e];exact p⟩
  unfold kp at h;split at h
  ·rename_i v b a;have j:t.k.heap H=H.push b:=by rw[a];rfl
   cases c:(s&&dk ms t.i i&&ts.all λu=>mV u.k)with
   |true=>
    rw[c,aR,Bool.or_eq_true]at h;simp only[Bool.and_eq_true,List.all_eq_true]at c;rcases h with h|h
    ·exact⟨[],t,ts,v,b,rfl,a,c.1.2,c.2,h⟩
    ·exact d j h
   |false=>rw[c,aK]at h;exact d j h
  ·rename_i v H' a;exact d (by rw[a];rfl) h
  ·rename_i q w;refine d (ti ?_ H) h;cases a:t.k with
   |new v b=>exact absurd a (q v b)
   |ea v H'=>exact absurd a (w v H')
   |_=>rfl
def qL(ms:List Nat)(rd:ae->Bool)(i:Nat)(T:List bN)(H:ae):Bool:=bif og ms i T U then j6 ms rd i T H||kp ms rd i T H U else j6 ms rd i T H
def Pa{ms:List Nat}{rd:ae->Bool}{i:Nat}{T:List bN}{H:ae}(h:qL ms rd i T H=X):j6 ms rd i T H=X\/kp ms rd i T H U=true:=by
 unfold qL at h;cases a:og ms i T U with
 |true=>rw[a,aR,Bool.or_eq_true]at h;exact h
 |false=>rw[a,aK]at h;exact .inl h
def lG(P:Program)(ms:List Nat)(a:Nat->Bool)(T:List bN)(H:ae):List bN->Bool
 |[]=>X
 |t::ts=>(match t.k with
  | .read v=>a t.i||qL ms (oL P t.o.op t.aa v) t.i T H
  |_=>X)&&lG P ms a T H ts
def G9{P:Program}{ms:List Nat}{a:Nat->Bool}{T:List bN}{H:ae}{t:bN}{v:ad}(c:t.k= .read v):∀{ts:List bN},lG P ms a T H ts=X->t∈ts->a t.i=X\/qL ms (oL P t.o.op t.aa v) t.i T H=X
 |[],_,hm=>by simp at hm
 |u::ts,h,hm=>by
  simp only[lG,Bool.and_eq_true]at h;rcases List.mem_cons.1 hm with rfl|hm
  ·have:=h.1;rw[c]at this;simpa using this
  ·exact G9 c h.2 hm
section
variable {P:Program}{call:ay}{ops:Array Oper}{ord:List Nat}{eu cE:a7}{H0 bP:ae}{T:List bN}{ρ0:Env}{w0:World}{Q:Exit->Act->World->Prop}
def c8(listed:Array Bool)(i:Nat):Bool:=listed.getD i U
def Ei{i j:Nat}{o q:Oper}(a:ops[i]? =D o)(c:ops[j]? =D q)(h:r7 ops (dJ ops) i j=X):
  i≠j/\dk (dJ ops) j i=U/\(dk (dJ ops) i j=X\/o.apart ops q=X):=by
 unfold r7 at h;rw[a,c]at h;simp only[Bool.and_eq_true,bne_iff_ne,ne_eq,Bool.not_eq_true',Bool.or_eq_true]at h;exact⟨h.1.1,h.1.2,h.2⟩
def tied(ops:Array Oper)(ms ord:List Nat)(i:Nat):Bool:=
 ord.all λj=>(j==i)||(match ops[j]? with|some o=> !ox o.op|none=>X)||dk ms j i||dk ms i j
def PH{ms ord:List Nat}{i j:Nat}{o:Oper}(h:tied ops ms ord i=X)(c:j∈ord)(d:j≠i)(e:ops[j]? =D o)(a:ox o.op=X):dk ms j i=X\/dk ms i j=true:=by
 unfold tied at h;rw[List.all_eq_true]at h;have:=h j c;rw[e]at this;simpa [d,a]using this
structure Ctx(P:Program)(call:ay)(ops:Array Oper)(ord:List Nat)(eu:a7)(H0:ae)(T:List bN)(cE:a7)(bP:ae):Prop where
 aw:canRun P call ops ord eu H0=some (T,cE,bP)
 xF:qb ops (dJ ops) ord=true
 ea:ji (dJ ops) T []=true
 P8:lG P (dJ ops) (tied ops (dJ ops) ord) T H0 T=true
def Ctx.Ej(c:Ctx P call ops ord eu H0 T cE bP):T.Pairwise λt u=>r7 ops (dJ ops) t.i u.i=true:=by
 have h:=c.xF;simp only[qb,Bool.and_eq_true]at h;have a:=Ek h.2.2.2;rw[<-(kW c.aw).1]at a;exact(List.pairwise_map.1 a)
def Ctx.at(c:Ctx P call ops ord eu H0 T cE bP){A B:List bN}{t:bN}(h:T=A++t::B):
  ops[t.i]? =D t.o/\(∀d,t.aa.get d=fH (λ_=>X) d A (eu.get d))/\hD P call ops t.o t.aa (cr A H0)=D t.k/\(∀d,t.o.dst=D d->d<eu.size):=
 vZ (by rw[<-h];exact c.aw)
def Ctx.mem(c:Ctx P call ops ord eu H0 T cE bP){t:bN}(h:t∈T):ops[t.i]? =D t.o:=by
 obtain⟨A,B,h⟩:=List.append_of_mem h;exact(c.at h).1
def Ctx.before(c:Ctx P call ops ord eu H0 T cE bP){A B:List bN}{t:bN}(h:T=A++t::B){u:bN}(hu:u∈A):
  u.i≠t.i/\dk (dJ ops) t.i u.i=U/\(dk (dJ ops) u.i t.i=X\/u.o.apart ops t.o=X):=by
 have aC:=c.Ej;rw[h,List.pairwise_append]at aC;exact Ei (c.mem (by rw[h];simp[hu])) (c.mem (by rw[h];simp)) (aC.2.2 u hu t (by simp))
def Ctx.after(c:Ctx P call ops ord eu H0 T cE bP){A B:List bN}{t:bN}(h:T=A++t::B){u:bN}(hu:u∈B):
  t.i≠u.i/\dk (dJ ops) u.i t.i=U/\(dk (dJ ops) t.i u.i=X\/t.o.apart ops u.o=X):=by
 have aC:=c.Ej;rw[h,List.pairwise_append,List.pairwise_cons]at aC;exact Ei (c.mem (by rw[h];simp)) (c.mem (by rw[h];simp[hu])) (aC.2.1.1 u hu)
def Ctx.looks(c:Ctx P call ops ord eu H0 T cE bP){A B:List bN}{t:bN}(h:T=A++t::B){L:Nat->Bool}(e:q1 ops L)(hw:pB L t.o)(l:L t.i=U):
  ∀d∈t.o.looksAt ops,fH L d T (eu.get d)=t.aa.get d:=by
 intro d m;obtain⟨p,q,_,_⟩:=c.at h;rw[q d,h,xM,fH];rw[if_neg (by rintro⟨k,_⟩;rw[l]at k;cases k)];rw[uc (A:=B),se (L':=λ_=>X)]
 ·intro u hu j;obtain⟨_,_,a⟩:=c.before h hu;rcases a with a|a
  ·exact kU e _ _ p hw _ a
  ·exact absurd m ((Oper.apart_spec a).1 d j)
 ·intro u hu j;obtain⟨_,_,a⟩:=c.after h hu;rcases a with a|a
  ·cases s:L u.i with
   |false=>rfl
   |true=>
    have n:=c.mem (t:=u) (by rw[h];simp[hu]);have:=kU e _ _ n (e _ _ n s) _ a;rw[l]at this;cases this
  ·exact absurd m ((Oper.apart_spec a).2.2 d j)
def Ctx.vD(c:Ctx P call ops ord eu H0 T cE bP){A B:List bN}{t:bN}(h:T=A++t::B){L L':Nat->Bool}(l:q1 ops L)(q:L t.i=U)(s:L' t.i=X)(aB:∀j,j≠t.i->L' j=L j)(d:Nat)(v:ad):
  fH L' d T v=if t.o.dst=D d then t.k.val else fH L d T v:=by
 have n:∀u∈A,u.o.dst=D d->L' u.i=L u.i:=λu hu _=>aB _ (c.before h hu).1
 have p:∀u∈B,u.o.dst=D d->L' u.i=L u.i:=λu hu _=>aB _ (Ne.symm (c.after h hu).1)
 rw[h,xM,xM,se n];simp only[fH];rw[se p];by_cases a:t.o.dst=D d
 ·rw[if_pos ⟨s,a⟩,if_pos a];refine uc λu hu y=> ?_
  obtain⟨_,_,e⟩:=c.after h hu;rcases e with e|e
  ·cases w:L u.i with
   |false=>rfl
   |true=>
    have m:=c.mem (t:=u) (by rw[h];simp[hu]);have:=kU l _ _ m (l _ _ m w) _ e;rw[q]at this;cases this
  ·exact absurd y ((Oper.apart_spec e).2.1 d a)
 ·rw[if_neg (λx=>a x.2),if_neg a,if_neg (λx=>a x.2)]
def e3.turns{N:Nat}{ρ:Env}{w:World}{L:Nat->Bool}:∀{zC zD:List bN} {H:ae},ez H (zC++zD)->(∀u∈zC,u.k.eW=X->L u.i=X/\∃v b,u.k= .new v b)->
  e3 ρ0 H0 w0 N (ec L (zC++zD) H) ρ H w->e3 ρ0 H0 w0 N (ec L zD (cr zC H)) ρ (cr zC H) w
 |[],zD,H,_,_,m=>m
 |c::zC,zD,H,hm,e,m=>by
  by_cases a:c.k.eW=X
  ·obtain⟨o,v,b,d⟩:=e c (by simp) a;have aC:ec L (c::zC++zD) H H.next=D b:=by simp[ec,d,o]
   have m1:=m.GQ aC;have l:ez (H.push b) (zC++zD):=by have:=hm.2;rw[d]at this;exact this
   have heq:(λk=>if k=H.next then Z else ec L (c::zC++zD) H k)=ec L (zC++zD) (H.push b):=by
    funext k
    by_cases j:k=H.next
    ·rw[if_pos j];cases q:ec L (zC++zD) (H.push b) k with
     |none=>rfl
     |some cy=>have:=r_ l q;simp at this;omega
    ·rw[if_neg j];simp[ec,d,j]
   rw[heq]at m1;have:=e3.turns l (λu hu=>e u (by simp[hu])) m1;rw[cr,d];exact this
  ·have p:∀v b,c.k≠ .new v b:=λv b h=>by rw[h]at a;exact a rfl
   rw[List.cons_append,sa p]at m;have n:=ti (by simpa using a) H;rw[cr];rw[n]at m ⊢;refine e3.turns ?_ (λu hu=>e u (by simp[hu])) m;have:=hm.2;rwa[n]at this
structure Inv(ops:Array Oper)(eu:a7)(H0:ae)(T:List bN)(N:Nat)(ρ0:Env)(w0:World)(listed:Array Bool)(a:Act)(w:World):Prop where
 size:listed.size=ops.size
 closed:q1 ops (c8 listed)
 mid:∃ρ T1 T2,T=T1++T2/\(∀t∈T1,t.k.eW=true->c8 listed t.i=true)/\(∀t∈T2,(∃v H,t.k= .ea v H)->c8 listed t.i=false)/\
  e3 ρ0 H0 w0 N (ec (c8 listed) T2 (cr T1 H0)) ρ (cr T1 H0) w/\∃c:a7,dT ρ c a/\c.size=eu.size/\∀d,c.get d=fH (c8 listed) d T (eu.get d)
def Ctx.final(c:Ctx P call ops ord eu H0 T cE bP){listed:Array Bool}{a:Act}{w:World}(y:Inv ops eu H0 T bP.next ρ0 w0 listed a w)(j:∀t∈T,c8 listed t.i=X):
  ∃ρ,dT ρ cE a/\Step ρ0 H0 w0 ρ bP w:=by
 obtain⟨ρ,T1,T2,aw,K,x,m,F,h,B,E⟩:=y.mid;obtain⟨G,p,q,s⟩:=kW c.aw;have o:=rk c.aw;rw[aw]at o;have z:=(ez.append o).2;have m':=e3.turns (zC:=T2) (zD:=[]) (L:=c8 listed) (by simpa using z) (λu hu l=>by
  have e:=j u (by rw[aw];simp[hu]);refine⟨e,?_⟩;cases n:u.k with
  |new v b=>exact⟨v,b,rfl⟩
  |ea v H=>rw[x u hu ⟨v,H,n⟩]at e;cases e
  |_=>rw[n]at l;cases l) (by simpa using m)
 rw[<-kj,<-aw,<-p]at m';refine⟨ρ,⟨by rw[q,<-B];exact h.size,λd=> ?_,h.none⟩,m'.done rfl⟩;have:=h.get d;rw[E d,se (L':=λ_=>X) (λt A _=>j t A),<-s d]at this;exact this
def EV{listed:Array Bool}{i:Nat}(h:i∈Region.ready .any ops listed)(aB:listed.size=ops.size):
  ∃o,ops[i]? =D o/\c8 listed i=U/\pB (c8 listed) o/\i<ops.size:=by
 unfold Region.ready at h;simp only[List.mem_filter,List.mem_range,Bool.and_eq_true,Bool.not_eq_true']at h;obtain⟨d,a,c⟩:=h;have j:ops[i]? =D ops[i]:=by simp[d]
 refine⟨ops[i],j,?_,?_,d⟩
 ·unfold c8;rw[Array.getD_eq_getD_getElem?]at a ⊢;have:i<listed.size:=af;simp[this]at a ⊢;exact a
 ·rw[j]at c;simp only[Option.map_some,Option.getD_some,Array.all_eq_true']at c;intro e he k;have:=c e he;simpa [k,c8]using this
def LH{listed:Array Bool}{i:Nat}{o:Oper}(d:ops[i]? =D o)(a:c8 listed i=U)(hw:pB (c8 listed) o)(aB:listed.size=ops.size):i∈Region.ready .any ops listed:=by
 unfold Region.ready;have h:i<ops.size:=(Array.getElem?_eq_some_iff.1 d).1;simp only[List.mem_filter,List.mem_range,Bool.and_eq_true,Bool.not_eq_true'];refine⟨h,?_,?_⟩
 ·unfold c8 at a;rw[Array.getD_eq_getD_getElem?]at a ⊢;have:i<listed.size:=af;simp[this]at a ⊢;exact a
 ·rw[d];simp only[Option.map_some,Option.getD_some,Array.all_eq_true'];intro e he;by_cases c:Region.binds .any e=X
  ·have:=hw e he c;unfold c8 at this;rw[this];simp
  ·simp[c]
def Ctx.H9(c:Ctx P call ops ord eu H0 T cE bP){listed:Array Bool}(aB:listed.size=ops.size)(K:Region.ready .any ops listed=[]):∀t∈T,c8 listed t.i=true:=by
 have w:=c.xF;simp only[qb,Bool.and_eq_true,List.all_eq_true,List.mem_range]at w;obtain⟨z,F,E,_⟩:=w;have s:=(kW c.aw).1;have key:∀(n:Nat) (A:List bN) (t:bN) (B:List bN),A.length=n->T=A++t::B->c8 listed t.i=true:=by
  intro n
  induction n using Nat.strongRecOn with
  |_ n M=>
   intro A t B hlen h;have j:=(c.at h).1;cases G:c8 listed t.i with
   |true=>rfl
   |false=>
    have:t.i∈Region.ready .any ops listed:=by
     refine LH j G (λe he q=> ?_) aB;have d:=IT j he q;have H:e.on<ops.size:=by
      have a:=E t.o (by
       have:=(Array.getElem?_eq_some_iff.1 j);obtain⟨m,y⟩:=this;rw[<-y];simp)
      unfold Ag at a;rw[List.all_eq_true]at a;have m:=a e (by simpa using he);simpa [q]using m
     have v:=z e.on H;rw[List.contains_iff_mem,<-s,List.mem_map]at v;obtain⟨u,hu,k⟩:=v;rw[h]at hu;rcases List.mem_append.1 hu with hu|hu
     ·obtain⟨l,x,p⟩:=List.append_of_mem hu;rw[<-k];refine M l.length ?_ l u (x++t::B) rfl (by rw[h,p];simp);rw[<-hlen,p];simp
     ·rcases List.mem_cons.1 hu with rfl|hu
      ·exfalso;have a:=F u.i (by rw[<-s,List.mem_map];exact⟨u,by rw[h];simp,rfl⟩);rw[<-k]at d;rw[d]at a;cases a
      ·exfalso;have a:=(c.after h hu).2.1;rw[k,d]at a;cases a
    rw[K]at this;simp at this
 intro t L;obtain⟨A,B,h⟩:=List.append_of_mem L;exact key _ A t B rfl h
def Ac{p q:Nat->Bool}{i:Nat}:∀{l:List Nat},i∈l->(∀j,q j=X->p j=X)->p i=X->q i=U->l.countP q<l.countP p
 |[],h,_,_,_=>by simp at h
 |j::l,h,himp,aC,a=>by
  have hle:∀l:List Nat,l.countP q<=l.countP p:=λl=>List.countP_mono_left λx _ d=>himp x d
  simp only[List.countP_cons];rcases List.mem_cons.1 h with rfl|h
  ·rw[aC,a];have:=hle l;simp;omega
  ·have:=Ac h himp aC a;cases c:q j with
   |true=>rw[himp j c];simp;omega
   |false=>cases p j<;>simp<;>omega
def tG{listed:Array Bool}{i:Nat}(a:i<listed.size)(j:Nat):c8 (listed.setIfInBounds i X) j=if j=i then X else c8 listed j:=by
 unfold c8;rw[Array.getD_eq_getD_getElem?,Array.getD_eq_getD_getElem?,Array.getElem?_setIfInBounds];by_cases h:i=j
 ·subst h;simp[a]
 ·have a1:¬j=i:=λe=>h e.symm
  simp[h,a1]
