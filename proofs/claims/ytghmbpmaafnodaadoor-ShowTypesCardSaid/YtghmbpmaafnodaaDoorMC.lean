/-
  Texts of one proof, laid together: Hv11 Hv12 Hv13 Hv14 Hv15.
-/
import Derived.Test.YtghmbpmaafnodaaDoorMB
import Derived.Orders
set_option linter.unusedVariables false
set_option linter.unusedSimpArgs false
set_option linter.defProp false
open Option renaming some→D,none→Z
open Bool renaming true→X,false→U
namespace Go.b9
structure a7 where
 t:bk aa
 size:Nat
def a7.get(ae:a7)(d:Nat):aa:=match ae.t.get d with
 |some v=>v
 |none=> .tuple []
def a7.put(ae:a7)(dst:Option Nat)(v:aa):Option a7:=match dst with
 |none=>D ae
 |some d=>if d<ae.size then D {ae with t:=bk.put v (d+1) ae.t d}else Z
structure dC(ρ:Env)(ae:a7)(a:Act):Prop where
 size:ae.size=a.tmps.size
 get:∀d,ba ρ (ae.get d) (a.tmps.getD d undef)
 none:a.defers=[]
def dC.mono{ρ c:Env}{ae:a7}{a:Act}(h:dC ρ ae a)(hle:ρ.le c):dC c ae a:=⟨h.size,λd=>(h.get d).mono hle,h.none⟩
def a7.p8{ae a6:a7}{dst:Option Nat}{v:aa}(h:ae.put dst v=D a6)(d:Nat):a6.get d=if dst=D d then v else ae.get d:=by
 cases dst with
 |none=>simp only[a7.put,aS]at h;subst h;simp
 |some e=>
  simp only[a7.put]at h;split at h
  ·simp only[aS]at h;subst h;by_cases he:e=d
   ·subst he;simp[a7.get,bk.p_ v (e+1) ae.t e af]
   ·have:(D e=D d)=False:=by simp[he]
    simp[a7.get,bk.p9 v (e+1) ae.t e d he,he]
  ·cases h
def a7.pe{ae a6:a7}{dst:Option Nat}{v:aa}(h:ae.put dst v=D a6):a6.size=ae.size:=by
 cases dst with
 |none=>simp only[a7.put,aS]at h;subst h;rfl
 |some e=>
  simp only[a7.put]at h;split at h
  ·simp only[aS]at h;subst h;rfl
  ·cases h
def a7.CP{ae a6:a7}{d:Nat}{v:aa}(h:ae.put (D d) v=D a6):d<ae.size:=by
 simp only[a7.put]at h;split at h
 ·assumption
 ·cases h
def dC.put{ρ:Env}{ae a6:a7}{a:Act}{dst:Option Nat}{v:aa}{x:Value}(h:dC ρ ae a)(aF:ae.put dst v=D a6)(i:ba ρ v x):dC ρ a6 (a.put dst x):=by
 refine⟨?_,λd=> ?_,?_⟩
 ·rw[a7.pe aF,h.size];cases dst<;>simp[Act.put]
 ·rw[a7.p8 aF];cases dst with
  |none=>simpa [Act.put]using h.get d
  |some e=>
   have c:=a7.CP aF;rw[h.size]at c;by_cases he:e=d
   ·subst he;simpa [Act.put,c]using i
   ·have:=h.get d;simp only[aS,he,if_false,Act.put,Array.getD_eq_getD_getElem?,Array.getElem?_setIfInBounds];simpa using this
 ·cases dst<;>simpa [Act.put]using h.none
def b0(ae:a7):Operand->Option aa
 | .tmp t=>D (ae.get t)
 | .const v=>qu v
 | .global _=>Z
 | .func f=>D (.func (.func f) [] [])
section
variable {P:Program}{ρ:Env}{H:ad}{w:World}{ae:a7}{a:Act}
def df(d:dC ρ ae a){x:Operand}{v:aa}(h:b0 ae x=D v):ba ρ v (a.eval x):=by
 cases x with
 |tmp t=>simp only[b0,aS]at h;subst h;exact d.get t
 |const c=>exact r4 h ρ
 |global g=>cases h
 |func f=>simp only[b0,aS]at h;subst h;exact .func (.func f) [] [] [] [] .nil .nil
def gK(ae:a7):List Operand->Option (List aa)
 |[]=>D []
 |x::xs=>match b0 ae x,gK ae xs with
  |some v,D a=>D (v::a)
  |_,_=>Z
def my(d:dC ρ ae a):∀{xs:List Operand} {c:List aa},gK ae xs=D c->bo ρ c (xs.map a.eval)
 |[],c,h=>by simp only[gK,aS]at h;subst h;exact .nil
 |x::xs,c,h=>by
  simp only[gK]at h;split at h
  ·rename_i v j e i;simp only[aS]at h;subst h;exact .cons _ _ _ _ (df d e) (my d i)
  ·cases h
def iC(ae:a7):List (Nat×Operand)->Option (List (Nat×aa))
 |[]=>D []
 |(i,x)::xs=>match b0 ae x,iC ae xs with
  |some v,D a=>D ((i,v)::a)
  |_,_=>Z
def tN(d:dC ρ ae a):∀{xs:List (Nat×Operand)} {c:List (Nat×aa)},iC ae xs=D c->nV ρ c (xs.map λ(i,x)=>(i,a.eval x))
 |[],c,h=>by simp only[iC,aS]at h;subst h;exact trivial
 |(i,x)::xs,c,h=>by
  simp only[iC]at h;split at h
  ·rename_i v k e j;simp only[aS]at h;subst h;exact⟨rfl,df d e,tN d j⟩
  ·cases h
def jz(ae:a7):Option Operand->Option (Option aa)
 |none=>D Z
 |some x=>match b0 ae x with
  |some v=>D (D v)
  |none=>Z
def tP(c:dC ρ ae a){x:Option Operand}{v:Option aa}(h:jz ae x=D v):nU ρ v (x.map a.eval):=by
 cases x with
 |none=>simp only[jz,aS]at h;subst h;exact .none
 |some x=>
  simp only[jz]at h;split at h
  ·rename_i u hu;simp only[aS]at h;subst h;exact .some _ _ (df c hu)
  ·cases h
def bW:aa->Option aa
 | .ptr l i c=>D (.ptr l i c)
 | .iface t v=>D (.iface t v)
 | .func (.func f) x y=>D (.func (.func f) x y)
 |_=>Z
def tH(P:Program)(t:TypeId)(v:aa):Option aa:=
 match P.underlying t with
 |some (.interface _)=>Z
 |some _=>D (.iface t v)
 |none=>Z
def b4(P:Program)(H:ad)(b:Builtin)(ts:List TypeId)(a:List aa):Option aa:=
 match b,ts,a with
 | .len,[t],[x]=>tI P H t x
 | .max,_,[x,y]=>rp x y
 | .min,_,[x,y]=>rq x y
 | .cap,[t],[x]=>tD P t x
 |_,_,_=>Z
def tC(P:Program)(t:TypeId)(ok:Bool)(v:aa):Option aa:=
 match v with
 | .iface d u=>if d=t/\ok=U then(match P.underlying t with|some (.interface _)=>Z|some _=>D u|none=>Z)else Z
 |_=>Z
def iD(P:Program)(o:Op)(ae:a7):Option aa:=
 match o with
 | .move x=>b0 ae x
 | .assign x=>b0 ae x
 | .pick c a b=>match b0 ae c with
  |some (.bool t)=>if t then b0 ae a else b0 ae b
  |_=>Z
 | .build t n=>(iC ae n.toList).bind (ch P t)
 | .nilCheck x=>(b0 ae x).bind bW
 | .binOp op t x y _=>(b0 ae x).bind λu=>(b0 ae y).bind λv=>pI P op t x y u v
 | .unOp op _ x=>(b0 ae x).bind (fk op)
 | .convert s d x=>(b0 ae x).bind (lv P s d)
 | .makeInterface t x=>(b0 ae x).bind (tH P t)
 | .makeFunc fn f c=>(gK ae f.toList).bind λe=>(gK ae c.toList).bind λcs=>D (.func fn e cs)
 | .slice t x lo j k=>(b0 ae x).bind λv=>(jz ae lo).bind λl=>(jz ae j).bind λh=>(jz ae k).bind λm=>jy P t v l h m
 | .fieldAddr t x f=>(b0 ae x).bind λv=>aI P t v f
 | .field t x f=>(b0 ae x).bind λv=>cB P t v f
 | .indexAddr t x i=>(b0 ae x).bind λu=>(b0 ae i).bind λv=>cG P t u v
 | .index t x i=>(b0 ae x).bind λu=>(b0 ae i).bind λv=>eE P t u v
 | .extract x i=>(b0 ae x).bind λv=>eS v i
 | .typeAssert x _ t ok=>(b0 ae x).bind (tC P t ok)
 | .call c=>match c.callee with
  | .builtin b=>(gK ae c.args.toList).bind (b4 P .empty b c.argTypes.toList)
  |_=>Z
 |_=>Z
def eQ{s:Sem Value}{x:Value}{w a:World}(h:s.run P w= .ok x a):(do pure (.value (<-s)):Sem Next).run P w= .ok (.value x) a:=by
 simp[h]
def vY{s:Sem Unit}{w a:World}(h:s.run P w= .ok () a):(do s;pure .skip:Sem Next).run P w= .ok .skip a:=by
 simp[h]
def Rel.empty(ρ:Env)(w:World)(n:Nat):Rel ρ ⟨.leaf,n⟩ w:=by
 have:∀l,(⟨.leaf,n⟩:ad).get l=none:=λl=>by unfold ad.get;split<;>first|exact bk.p5 _|rfl
 refine⟨λl _ _ _ h=> ?_,λl _ h=> ?_,λl _ _ _ h=> ?_,λl l' _ _ h=> ?_⟩
 ·rw[this]at h;cases h
 ·rw[this]at h;cases h
 ·rw[this]at h;cases h
 ·rcases h with⟨_,_,h⟩|⟨_,h⟩|⟨_,_,_,h⟩<;>(rw[this]at h;cases h)
def xj(m:Rel ρ H w){b:Builtin}{ts:List TypeId}{l:List aa}{v:aa}{xs:List Value}(h:b4 P H b ts l=D v)(i:bo ρ l xs)(ty:TypeId)(cs:Array Bool):
  ∃x,(builtin b ts.toArray ty cs xs.toArray).run P w= .ok (.value x) w/\ba ρ v x:=by
 unfold b4 at h;split at h
 ·cases i with|cons _ x _ _ d e=>
  cases e;obtain⟨r,a,c⟩:=F3 m ty h d;exact⟨r,eQ a,c⟩
 ·cases i with|cons _ x _ _ d e=>
  cases e with|cons _ y _ _ j k=>
  cases k;obtain⟨r,a,c⟩:=Ga (P:=P) ts.toArray ty h d j w;exact⟨r,eQ a,c⟩
 ·cases i with|cons _ x _ _ d e=>
  cases e with|cons _ y _ _ j k=>
  cases k;obtain⟨r,a,c⟩:=Gc (P:=P) ts.toArray ty h d j w;exact⟨r,eQ a,c⟩
 ·cases i with|cons _ x _ _ d e=>
  cases e;obtain⟨r,a,c⟩:=FT (P:=P) ty h d w;exact⟨r,eQ a,c⟩
 ·cases h
def map_toArray{α β:Type}(f:α->β)(xs:Array α):xs.map f=(xs.toList.map f).toArray:=by cases xs;simp
def sn{o:Oper}{c:Call}{b:Builtin}(e:o.op= .call c)(d:c.callee= .builtin b)(w:World):
  (execOp a.eval o).run P w=(builtin b c.argTypes o.type (c.args.map λ | .const _=>X|_=>U) (c.args.map a.eval)).run P w:=by
 unfold execOp;rw[e];simp only[resolve,d];rfl
def Gx{o:Oper}{v:aa}(h:iD P o.op ae=D v)(p:dC ρ ae a)(w:World):∃x,(execOp a.eval o).run P w= .ok (.value x) w/\ba ρ v x:=by
 unfold iD at h;split at h
 ·rename_i x j;exact⟨_,by unfold execOp;rw[j];rfl,df p h⟩
 ·rename_i x j;exact⟨_,by unfold execOp;rw[j];rfl,df p h⟩
 ·rename_i c x y j;split at h
  ·rename_i t L;have n:=df p L;have q:a.eval c= .bool t:=by
    generalize a.eval c=z at n;cases n;rfl
   cases t
   ·exact⟨_,by unfold execOp;rw[j];simp only[q];rfl,df p h⟩
   ·exact⟨_,by unfold execOp;rw[j];simp only[q];rfl,df p h⟩
  ·cases h
 ·rename_i t R j;simp only[cS]at h;obtain⟨M,n,q⟩:=h;obtain⟨x,A,B⟩:=FP q (tN p n) w;refine⟨x,?_,B⟩;unfold execOp;rw[j];rw[<-map_toArray]at A;exact eQ A
 ·rename_i x j;simp only[cS]at h;obtain⟨u,n,q⟩:=h;have e:=df p n;refine⟨a.eval x,?_,?_⟩
  ·unfold execOp;rw[j];simp only
   generalize a.eval x=z at e;unfold bW at q;split at q
   ·cases e;rfl
   ·cases e;rfl
   ·cases e;rfl
   ·cases q
  ·unfold bW at q;split at q<;>first|(simp only[aS]at q;subst q;exact e)|cases q
 ·rename_i op t x y V j;simp only[cS]at h;obtain⟨u,n,z,q,e⟩:=h;obtain⟨r,A,B⟩:=FN e (df p n) (df p q) w;exact⟨r,by unfold execOp;rw[j];exact eQ A,B⟩
 ·rename_i op t x j;simp only[cS]at h;obtain⟨u,n,e⟩:=h;obtain⟨r,A,B⟩:=GF e (df p n) w;exact⟨r,by unfold execOp;rw[j];exact eQ A,B⟩
 ·rename_i s d x j;simp only[cS]at h;obtain⟨u,n,e⟩:=h;obtain⟨r,A,B⟩:=FV e (df p n) w;exact⟨r,by unfold execOp;rw[j];exact eQ A,B⟩
 ·rename_i t x j;simp only[cS]at h;obtain⟨u,n,e⟩:=h;have E:=df p n;unfold tH at e;split at e
  ·cases e
  ·rename_i d H hu;simp only[aS]at e;subst e;refine⟨.iface t (a.eval x),?_,.iface _ _ _ E⟩;unfold execOp;rw[j];refine eQ ?_;unfold Instr.makeInterface;simp only[Sem.run_bind,run_underlying hu,Result.andThen_ok];cases d<;>first|rfl|exact absurd rfl (H _)
  ·cases e
 ·rename_i fn f c j;simp only[cS,aS]at h;obtain⟨K,n,cs,q,rfl⟩:=h;refine⟨_,?_,.func fn K cs _ _ (my p n) (my p q)⟩;unfold execOp;rw[j];rw[<-map_toArray,<-map_toArray];rfl
 ·rename_i t x lo O Q j;simp only[cS]at h;obtain⟨u,n,l,q,k,e,m,E,F⟩:=h;obtain⟨r,A,B⟩:=GC F (df p n) (tP p q) (tP p e) (tP p E) w;exact⟨r,by unfold execOp;rw[j];exact eQ A,B⟩
 ·rename_i t x f j;simp only[cS]at h;obtain⟨u,n,e⟩:=h;obtain⟨r,A,B⟩:=FZ e (df p n) w;exact⟨r,by unfold execOp;rw[j];exact eQ A,B⟩
 ·rename_i t x f j;simp only[cS]at h;obtain⟨u,n,e⟩:=h;obtain⟨r,A,B⟩:=F0 e (df p n) w;exact⟨r,by unfold execOp;rw[j];exact eQ A,B⟩
 ·rename_i t x i j;simp only[cS]at h;obtain⟨u,n,z,q,e⟩:=h;obtain⟨r,A,B⟩:=F1 e (df p n) (df p q) w;exact⟨r,by unfold execOp;rw[j];exact eQ A,B⟩
 ·rename_i t x i j;simp only[cS]at h;obtain⟨u,n,z,q,e⟩:=h;obtain⟨r,A,B⟩:=F2 e (df p n) (df p q) w;exact⟨r,by unfold execOp;rw[j];exact eQ A,B⟩
 ·rename_i x i j;simp only[cS]at h;obtain⟨u,n,e⟩:=h;obtain⟨r,A,B⟩:=FY e (df p n) w;exact⟨r,by unfold execOp;rw[j];exact eQ A,B⟩
 ·rename_i x T t ok j;simp only[cS]at h;obtain⟨u,n,e⟩:=h;have E:=df p n;unfold tC at e;split at e
  ·rename_i d S;split at e
   ·rename_i G;obtain⟨rfl,rfl⟩:=G;generalize he:a.eval x=z at E;cases E with|iface _ _ N F=>
    split at e
    ·cases e
    ·rename_i ph H hu;simp only[aS]at e;subst e;refine⟨N,?_,F⟩;unfold execOp;rw[j];refine eQ ?_;rw[he];unfold Instr.typeAssert;simp only[Sem.run_bind,run_underlying hu,Result.andThen_ok];cases ph<;>first|exact absurd rfl (H _)|simp
    ·cases e
   ·cases e
  ·cases e
 ·rename_i c j;split at h
  ·rename_i b G;simp only[cS]at h;obtain⟨M,n,q⟩:=h;obtain⟨x,A,B⟩:=xj (Rel.empty ρ w 0) q (my p n) o.type (c.args.map λ | .const _=>X|_=>U);refine⟨x,?_,B⟩;rw[sn j G,map_toArray a.eval];simpa using A
  ·cases h
 ·cases h
def gJ(P:Program)(o:Op)(ae:a7)(H:ad):Option aa:=
 match o with
 | .load t x=>(b0 ae x).bind (al P H t)
 | .lookup t x k ok=>(b0 ae x).bind λu=>(b0 ae k).bind λv=>rm P H t u v ok
 | .convert s d x=>(b0 ae x).bind (mu P H s d)
 | .call c=>match c.callee with
  | .builtin b=>(gK ae c.args.toList).bind (b4 P H b c.argTypes.toList)
  |_=>Z
 |_=>Z
def Gy(p:Rel ρ H w){o:Oper}{v:aa}(h:gJ P o.op ae H=D v)(n:dC ρ ae a):∃x,(execOp a.eval o).run P w= .ok (.value x) w/\ba ρ v x:=by
 unfold gJ at h;split at h
 ·rename_i t x l;simp only[cS]at h;obtain⟨u,j,m⟩:=h;obtain⟨r,e,i⟩:=tJ p m (df n j);exact⟨r,by unfold execOp;rw[l];exact eQ e,i⟩
 ·rename_i t x k ok l;simp only[cS]at h;obtain⟨u,j,z,q,m⟩:=h;obtain⟨r,e,i⟩:=F7 p m (df n j) (df n q);exact⟨r,by unfold execOp;rw[l];exact eQ e,i⟩
 ·rename_i s d x l;simp only[cS]at h;obtain⟨u,j,m⟩:=h;obtain⟨r,e,i⟩:=FQ p m (df n j);exact⟨r,by unfold execOp;rw[l];exact eQ e,i⟩
 ·rename_i c l;split at h
  ·rename_i b y;simp only[cS]at h;obtain⟨A,j,q⟩:=h;obtain⟨x,e,i⟩:=xj p q (my n j) o.type (c.args.map λ | .const _=>X|_=>U);refine⟨x,?_,i⟩;rw[sn l y,map_toArray a.eval];simpa using e
  ·cases h
 ·cases h
def mw(P:Program)(o:Op)(ae:a7)(H:ad):Option (aa×ad):=
 match o with
 | .alloc t=>rk P H t
 | .box t x=>(b0 ae x).bind (n3 (oD P t) H)
 | .buildSlice t n a=>(iC ae a.toList).bind (pJ P H t n)
 | .makeMap _ Z=>D (tK H)
 | .makeSlice t l c=>(b0 ae l).bind λu=>(b0 ae c).bind λv=>rn P H t u v
 |_=>Z
def Ge(s:Rel ρ H w)(y:ρ H.next=Z){o:Oper}{v:aa}{H':ad}(h:mw P o.op ae H=D (v,H'))(A:dC ρ ae a):
  ∃x d e,(execOp a.eval o).run P w= .ok (.value x) d/\ba e v x/\Step ρ H w e H' d:=by
 unfold mw at h;split at h
 ·rename_i t m;obtain⟨r,d,e,i,j,k⟩:=FL s y h;exact⟨r,d,e,by unfold execOp;rw[m];exact eQ i,j,k⟩
 ·rename_i t x m;simp only[cS]at h;obtain⟨u,p,q⟩:=h;obtain⟨r,d,e,i,j,k⟩:=xi (P:=P) s y q (df A p) t (λF h=>Ch h);exact⟨r,d,e,by unfold execOp;rw[m];exact eQ i,j,k⟩
 ·rename_i t n E m;simp only[cS]at h;obtain⟨u,p,q⟩:=h;obtain⟨r,d,e,i,j,k⟩:=FO s y q (tN A p);refine⟨r,d,e,?_,j,k⟩;unfold execOp;rw[m];rw[<-map_toArray]at i;exact eQ i
 ·rename_i t m;simp only[aS]at h;obtain⟨r,d,e,i,j,k⟩:=F8 (P:=P) s y t;rw[h]at j k;exact⟨r,d,e,by unfold execOp;rw[m];exact eQ i,j,k⟩
 ·rename_i t l c m;simp only[cS]at h;obtain⟨u,p,z,B,q⟩:=h;obtain⟨r,d,e,i,j,k⟩:=F_ s y q (df A p) (df A B);exact⟨r,d,e,by unfold execOp;rw[m];exact eQ i,j,k⟩
 ·cases h
def bN.jG:bN->Bool
 | .row U _ _=>X
 | .map _=>X
 | .bS _ _ _=>X
 |_=>U
def bN.jG.ro{b:bN}(h:b.jG=X):b.qc=false:=by
 cases b with
 |row ro e s=>cases ro<;>first|rfl|cases h
 |map es=>rfl
 |bS t e s=>rfl
 |dead=>rfl
def mR(r:Option (aa×ad))(l:Nat):Option (aa×bN):=
 match r with
 |some (v,H')=>if H'.next=l+1 then(match H'.get l with
  |some b=>if b.jG then D (v,b)else Z
  |none=>Z)else Z
 |none=>Z
def iY(P:Program)(o:Op)(ae:a7)(l:Nat):Option (aa×bN):=mR (mw P o ae ⟨.leaf,l⟩) l
def j3(P:Program)(o:Op)(ae:a7)(H:ad):Option (aa×ad):=
 match o with
 | .store t x y=>(b0 ae x).bind λu=>(b0 ae y).bind λv=>(aT P H t u v).map λH'=>(.tuple [],H')
 | .mapUpdate t m k x=>(b0 ae m).bind λu=>(b0 ae k).bind λv=>(b0 ae x).bind λz=>(n7 P H t u v z).map λH'=>(.tuple [],H')
 | .insert t m k x=>(b0 ae m).bind λu=>(b0 ae k).bind λv=>(b0 ae x).bind λz=>(n7 P H t u v z).map λH'=>(.tuple [],H')
 | .call c=>match c.callee,c.args.toList with
  | .builtin .append,[s,x]=>(b0 ae s).bind λu=>(b0 ae x).bind λv=>cR P H c.argTypes.toList u v
  | .builtin .clear,[x]=>(b0 ae x).bind λu=>(rl P H c.argTypes.toList u).map λH'=>(.tuple [],H')
  |_,_=>Z
 |_=>Z
def wT(x:Value):Next->Prop
 | .value y=>y=x
 | .skip=>x=undef
 |_=>False
def GK(B:Rel ρ H w){o:Oper}{v:aa}{H':ad}(h:j3 P o.op ae H=D (v,H'))(M:H.next<H'.next->ρ H.next=Z)(e:dC ρ ae a):
  ∃n x d E,(execOp a.eval o).run P w= .ok n d/\wT x n/\ba E v x/\Step ρ H w E H' d:=by
 unfold j3 at h;split at h
 ·rename_i t x y q;simp only[cS,Option.map_eq_some_iff,bT]at h;obtain⟨u,l,z,A,H1,p,rfl,rfl⟩:=h;obtain⟨d,i,j⟩:=GD B p (df e l) (df e A);exact⟨.skip,undef,d,ρ,by unfold execOp;rw[q];exact vY i,rfl,.tuple [] [] .nil,j⟩
 ·rename_i t m k x q;simp only[cS,Option.map_eq_some_iff,bT]at h;obtain⟨u,l,z,A,y,F,H1,p,rfl,rfl⟩:=h;obtain⟨d,i,j⟩:=xq B p (df e l) (df e A) (df e F);exact⟨.skip,undef,d,ρ,by unfold execOp;rw[q];exact vY i,rfl,.tuple [] [] .nil,j⟩
 ·rename_i t m k x q;simp only[cS,Option.map_eq_some_iff,bT]at h;obtain⟨u,l,z,A,y,F,H1,p,rfl,rfl⟩:=h;obtain⟨d,i,j⟩:=xq B p (df e l) (df e A) (df e F);exact⟨.skip,undef,d,ρ,by unfold execOp;rw[q];exact vY i,rfl,.tuple [] [] .nil,j⟩
 ·rename_i c q;split at h
  ·rename_i s x K G;simp only[cS]at h;obtain⟨u,l,z,A,p⟩:=h;obtain⟨r,d,E,i,j,L⟩:=FM B o.type p M (df e l) (df e A);refine⟨.value r,r,d,E,?_,rfl,j,L⟩;rw[sn q K,map_toArray a.eval,G];refine eQ (s:=Builtin.append_ c.argTypes o.type _) ?_;simpa using i
  ·rename_i x K G;simp only[cS,Option.map_eq_some_iff,bT]at h;obtain⟨u,l,H1,p,rfl,rfl⟩:=h;obtain⟨d,i,j⟩:=FU B o.type p (df e l);refine⟨.value (.tuple #[]),.tuple #[],d,ρ,?_,rfl,.tuple [] [] .nil,j⟩;rw[sn q K,map_toArray a.eval,G];refine eQ (s:=Builtin.clear_ c.argTypes o.type _) ?_;simpa using i
  ·cases h
 ·cases h
end
section
variable {P:Program}{ρ:Env}{H:ad}{w:World}{ae:a7}{a:Act}
def iy(ρ:Env)(w:World)(loc:Loc):bN->Prop
 | .row ro esz els=>fi ρ w loc ro esz els
 | .map es=>tn ρ w loc es
 | .bS t esz els=>lq ρ w loc t esz els
 | .dead=>True
def iy.frame{n:Env}{m:World}{loc:Loc}{b:bN}(h:iy ρ w loc b)(hle:ρ.le n)(a:m.heap[loc.block]? =w.heap[loc.block]?):iy n m loc b:=by
 cases b with
 |row ro esz els=>
  obtain⟨d,c,t,o,k,l,q⟩:=h;refine⟨d,c,t,o,by rw[a];exact k,l,λi e he=> ?_⟩;obtain⟨aZ,s⟩:=q i e he;refine⟨aZ,λj v p=> ?_⟩;obtain⟨u,x,y,z⟩:=s j v p;exact⟨u,x,y,z.mono hle⟩
 |map es=>
  obtain⟨ents,clock,d,k,l⟩:=h;exact⟨ents,clock,by rw[a];exact d,k.mono hle,l.mono hle⟩
 |bS t esz els=>exact lq.frame h hle a
 |dead=>trivial
def iy.lt{loc:Loc}{b:bN}(h:iy ρ w loc b)(a:b.jG=X):loc.block<w.heap.size:=by
 cases b with
 |row ro esz els=>obtain⟨_,c,t,i,e,_⟩:=h;exact jc e
 |map es=>obtain⟨ents,clock,d,_⟩:=h;exact jc d
 |bS t esz els=>exact h.1.lt
 |dead=>cases a
def Rel.grow{o:Env}{u:World}(h:Rel ρ H w)(hle:ρ.le o)(m:∀b,b<w.heap.size->u.heap[b]? =w.heap[b]?):Rel o H u:=by
 refine⟨λl ro esz els e=> ?_,λl es e=> ?_,λl t esz els e=> ?_,λl l' loc j p q y v x=> ?_⟩
 ·obtain⟨loc,a,d⟩:=h.row l ro esz els e;refine⟨loc,hle _ _ a,?_⟩;have:=d;obtain⟨_,c,t,z,n,_⟩:=this;exact iy.frame (b:= .row ro esz els) d hle (m _ (jc n))
 ·obtain⟨loc,a,d⟩:=h.map l es e;refine⟨loc,hle _ _ a,?_⟩;have:=d;obtain⟨_,_,n,_⟩:=this;exact iy.frame (b:= .map es) d hle (m _ (jc n))
 ·obtain⟨loc,a,d⟩:=h.bS l t esz els e;exact⟨loc,hle _ _ a,d.frame hle (m _ d.1.lt)⟩
 ·have s:∀k loc,H.live k->o k=D loc->ρ k=D loc:=λk loc i e=>by
   rcases i with⟨ro,esz,els,i⟩|⟨es,i⟩|⟨t,esz,els,i⟩
   ·obtain⟨j,a,_⟩:=h.row _ _ _ _ i;rw[hle _ _ a]at e;rw[a];exact e
   ·obtain⟨j,a,_⟩:=h.map _ _ i;rw[hle _ _ a]at e;rw[a];exact e
   ·obtain⟨j,a,_⟩:=h.bS _ _ _ _ i;rw[hle _ _ a]at e;rw[a];exact e
  exact h.apart l l' loc j p q y (s _ _ p.live v) (s _ _ q x)
def Rel.vc(h:Rel ρ H w){l:Nat}(i:H.live l):∃loc,ρ l=D loc/\loc.block<w.heap.size:=by
 rcases i with⟨ro,esz,els,a⟩|⟨es,a⟩|⟨t,esz,els,a⟩
 ·obtain⟨loc,d,_,c,t,k,e,_⟩:=h.row _ _ _ _ a;exact⟨loc,d,jc e⟩
 ·obtain⟨loc,d,_,_,e,_⟩:=h.map _ _ a;exact⟨loc,d,jc e⟩
 ·obtain⟨loc,d,j⟩:=h.bS _ _ _ _ a;exact⟨loc,d,j.1.lt⟩
def Gg{o:Oper}{l:Nat}{v:aa}{b:bN}(h:iY P o.op ae l=D (v,b))(G:dC ρ ae a)(A:ρ l=Z)(w:World):
  ∃x d e loc,(execOp a.eval o).run P w= .ok (.value x) d/\ba e v x/\ρ.le e/\(∀k,k≠l->e k=ρ k)/\e l=D loc/\w.heap.size<=loc.block/\b.jG=X/\iy e d loc b/\
   d.os=w.os/\d.tape=w.tape/\d.output=w.output/\w.heap.size<=d.heap.size/\∀k,k<w.heap.size->d.heap[k]? =w.heap[k]? :=by
 unfold iY mR at h;split at h
 ·rename_i K H' y;split at h
  ·rename_i F;split at h
   ·rename_i cj i;split at h
    ·rename_i j;simp only[aS,bT]at h;obtain⟨rfl,rfl⟩:=h;obtain⟨x,d,e,q,s,c⟩:=Ge (Rel.empty ρ w l) A y G;have n:∀k,¬h8 ρ ⟨.leaf,l⟩ k:=by
      rintro k ⟨l',loc,u,_,_⟩;have B:(⟨.leaf,l⟩:ad).get l'=none:=by unfold ad.get;split<;>first|exact bk.p5 _|rfl
      rcases u with⟨_,_,h⟩|⟨_,h⟩|⟨_,_,_,h⟩<;>(rw[B]at h;cases h)
     have E:H'.rw l:=by
      cases cj with
      |row ro esz els=>cases ro with
       |true=>cases j
       |false=>exact .inl ⟨_,_,i⟩
      |map es=>exact .inr (.inl ⟨_,i⟩)
      |bS t esz els=>exact .inr (.inr ⟨_,_,_,i⟩)
      |dead=>cases j
     have z:∃loc,e l=D loc/\iy e d loc cj:=by
      cases cj with
      |row ro esz els=>exact c.rel.row _ _ _ _ i
      |map es=>exact c.rel.map _ _ i
      |bS t esz els=>exact c.rel.bS _ _ _ _ i
      |dead=>cases j
     obtain⟨loc,p,H⟩:=z;refine⟨x,d,e,loc,q,s,c.le,λk m=>c.aY k ?_,p,?_,j,H,c.os,c.tape,c.output,c.size,λk m=>c.frame k m (n k)⟩
     ·rw[F];show k<l\/_;omega
     ·exact(c.own loc.block ⟨l,loc,E,p,rfl⟩).resolve_left (n _)
    ·cases h
   ·cases h
  ·cases h
 ·cases h
structure eL(ρ0:Env)(H0:ad)(w0:World)(N:Nat)(hV:Nat->Option bN)(ρ:Env)(H:ad)(w:World):Prop where
 qM:Rel ρ0 H0 w0
 le:ρ0.le ρ
 next:H0.next<=H.next
 aY:∀l,l<H0.next\/N<=l->ρ l=ρ0 l
 rel:Rel ρ H w
 os:w.os=w0.os
 tape:w.tape=w0.tape
 output:w.output=w0.output
 size:w0.heap.size<=w.heap.size
 frame:∀b,b<w0.heap.size->¬h8 ρ0 H0 b->w.heap[b]? =w0.heap[b]?
 own:∀b,h8 ρ H b->h8 ρ0 H0 b\/w0.heap.size<=b
 ro:∀l esz els,H.get l=some (.row true esz els)->H0.get l=some (.row true esz els)
 fresh:∀l,H.next<=l->l<N->hV l=none->ρ l=none
 iP:∀l b,hV l=some b->H.next<=l/\l<N/\b.jG=true/\∃loc,ρ l=some loc/\iy ρ w loc b/\w0.heap.size<=loc.block/\¬h8 ρ H loc.block
 sep:∀l l' b cj loc a,hV l=some b->hV l'=some cj->l≠l'->ρ l=some loc->ρ l'=some a->loc.block≠a.block
variable {ρ0:Env}{H0:ad}{w0:World}{N:Nat}{hV:Nat->Option bN}
def eL.start(h:Rel ρ0 H0 w0)(c:wU ρ0 H0.next N):eL ρ0 H0 w0 N (λ_=>Z) ρ0 H0 w0:=
 ⟨h,ρ0.le_refl,bf _,λ_ _=>rfl,h,rfl,rfl,rfl,bf _,λ_ _ _=>rfl,λ_ h=> .inl h,λ_ _ _ h=>h,λl a b _=>c l a b,λ_ _ h=>by simp at h,λ_ _ _ _ _ _ h=>by simp at h⟩
def eL.done(m:eL ρ0 H0 w0 N hV ρ H w)(a:H.next=N):Step ρ0 H0 w0 ρ H w:=
 ⟨m.le,m.next,λl c=>m.aY l (by rw[<-a];exact c),m.rel,m.os,m.tape,m.output,m.size,m.frame,m.own,m.ro⟩
def eL.step{z:Env}{H':ad}{y:World}(m:eL ρ0 H0 w0 N hV ρ H w)(s:Step ρ H w z H' y)(B:H'.next<=N)(aF:∀l b,hV l=D b->H'.next<=l):eL ρ0 H0 w0 N hV z H' y where
 qM:=m.qM
 le:=Env.le_trans m.le s.le
 next:=Nat.le_trans m.next s.next
 aY:=λl o=>(s.aY l (o.imp (λh=>Nat.lt_of_lt_of_le h m.next) (λh=>Nat.le_trans B h))).trans (m.aY l o)
 rel:=s.rel
 os:=s.os.trans m.os
 tape:=s.tape.trans m.tape
 output:=s.output.trans m.output
 size:=Nat.le_trans m.size s.size
 frame:=λb i p=>by
  rw[s.frame b (Nat.lt_of_lt_of_le i m.size) (λd=>(m.own b d).elim p (λhle=>af)),m.frame b i p]
 own:=λb i=>(s.own b i).elim (λd=>m.own b d) (λhle=> .inr (Nat.le_trans m.size hle))
 ro:=λl esz els e=>m.ro l esz els (s.ro l esz els e)
 fresh:=λl a b c=>by rw[s.aY l (.inr a)];exact m.fresh l (Nat.le_trans s.next a) b c
 iP:=λl b h=>by
  obtain⟨P,G,q,loc,j,u,K,v⟩:=m.iP l b h;have E:=u.lt q;refine⟨aF l b h,G,q,loc,s.le _ _ j,u.frame s.le (s.frame _ E v),K,λd=> ?_⟩;rcases s.own _ d with h|h
  ·exact v h
  ·omega
 sep:=λl l' b cj loc L h aX F e A=>by
  obtain⟨_,_,_,M,j,_⟩:=m.iP l b h;obtain⟨_,_,_,O,x,_⟩:=m.iP l' cj aX;have k:=s.le _ _ j;rw[e]at k;cases k;have n:=s.le _ _ x;rw[A]at n;cases n;exact m.sep l l' b cj _ _ h aX F j x
def eL.early{q:Env}{p:World}{l:Nat}{b:bN}{loc:Loc}(m:eL ρ0 H0 w0 N hV ρ H w)(S:H.next<=l)(P:l<N)(aF:hV l=Z)
  (hle:ρ.le q) (y:∀k,k≠l->q k=ρ k) (F:q l=D loc) (R:w.heap.size<=loc.block) (ab:b.jG=X) (Q:iy q p loc b) (V:p.os=w.os) (ae:p.tape=w.tape) (W:p.output=w.output)
  (ad:w.heap.size<=p.heap.size) (E:∀k,k<w.heap.size->p.heap[k]? =w.heap[k]?):eL ρ0 H0 w0 N (λk=>if k=l then D b else hV k) q H p:=by
 have hold:∀k i,H.live k->q k=D i->ρ k=D i:=λk i y e=>by
  obtain⟨M,o,_⟩:=m.rel.vc y;have:=hle _ _ o;rw[e]at this;cases this;exact o
 have K:∀k,h8 q H k->h8 ρ H k:=by
  rintro k ⟨l',i,a,c,n⟩;exact⟨l',i,a,hold _ _ a.live c,n⟩
 have aa:∀k,h8 ρ H k->k<w.heap.size:=by
  rintro k ⟨l',i,a,c,n⟩;obtain⟨M,o,L⟩:=m.rel.vc a.live;rw[c]at o;cases o;rw[<-n];exact L
 refine⟨m.qM,Env.le_trans m.le hle,m.next,λk h=> ?_,m.rel.grow hle E,V.trans m.os,ae.trans m.tape,W.trans m.output,Nat.le_trans m.size ad,λk a c=> ?_,
  λk h=>m.own k (K k h),m.ro,λk a c n=> ?_,λk cj h=> ?_,λk v A B M ah h aX T e x=> ?_⟩
 ·rw[y k (by have:=m.next;omega)];exact m.aY k h
 ·rw[E k (Nat.lt_of_lt_of_le a m.size)];exact m.frame k a c
 ·by_cases d:k=l
  ·subst d;simp at n
  ·simp only[d,if_false]at n;rw[y k d];exact m.fresh k a c n
 ·by_cases d:k=l
  ·subst d;simp only[if_true,aS]at h;subst h;exact⟨S,P,ab,loc,F,Q,Nat.le_trans m.size R,λG=>by have:=aa _ (K _ G);omega⟩
  ·simp only[d,if_false]at h;obtain⟨o,L,s,i,j,u,af,ag⟩:=m.iP k cj h;exact⟨o,L,s,i,hle _ _ j,u.frame hle (E _ (u.lt s)),af,λG=>ag (K _ G)⟩
 ·by_cases d:k=l
  ·by_cases z:v=l
   ·omega
   ·subst d;simp only[z,if_false]at aX;obtain⟨_,_,s,i,j,u,_,_⟩:=m.iP v B aX;have:=hle _ _ j;rw[x]at this;cases this;rw[F]at e;cases e;have:=u.lt s;omega
  ·by_cases z:v=l
   ·subst z;simp only[d,if_false]at h;obtain⟨_,_,s,i,j,u,_,_⟩:=m.iP k A h;have:=hle _ _ j;rw[e]at this;cases this;rw[F]at x;cases x;have:=u.lt s;omega
   ·simp only[d,if_false]at h;simp only[z,if_false]at aX;obtain⟨_,_,_,ai,j,_⟩:=m.iP k A h;obtain⟨_,_,_,aj,O,_⟩:=m.iP v B aX;have a:=hle _ _ j;rw[e]at a;cases a;have c:=hle _ _ O;rw[x]at c;cases c;exact m.sep k v A B _ _ h aX T j O
def eL.EZ{b:bN}(m:eL ρ0 H0 w0 N hV ρ H w)(aF:hV H.next=D b):eL ρ0 H0 w0 N (λk=>if k=H.next then Z else hV k) ρ (H.push b) w:=by
 obtain⟨_,W,P,loc,j,y,Q,R⟩:=m.iP _ _ aF;have z:∀k,(H.push b).rw k->k≠H.next->H.rw k:=λk h c=>by simpa [ad.rw,ad.dp c]using h
 have E:∀k,(H.push b).live k->k≠H.next->H.live k:=λk h c=>by simpa [ad.live,ad.dp c]using h
 have A:∀k d,H.live k->ρ k=D d->d.block≠loc.block:=by
  intro k d c e heq;by_cases x:H.rw k
  ·exact R ⟨k,d,x,e,heq⟩
  ·rcases c with⟨ro,esz,els,c⟩|c
   ·cases ro with
    |false=>exact x (.inl ⟨_,_,c⟩)
    |true=>
     have M:=m.ro _ _ _ c;obtain⟨aa,aZ,F⟩:=m.qM.vc (.inl ⟨_,_,_,M⟩);have:=m.le _ _ aZ;rw[e]at this;cases this;omega
   ·exact x (.inr c)
 have B:∀k,h8 ρ (H.push b) k->h8 ρ H k\/k=loc.block:=by
  rintro k ⟨l',d,u,o,p⟩;by_cases a:l'=H.next
  ·subst a;rw[j]at o;cases o;exact .inr p.symm
  ·exact .inl ⟨l',d,z _ u a,o,p⟩
 refine⟨m.qM,m.le,by have:=m.next;simp;omega,m.aY,⟨λl ro esz els h=> ?_,λl es h=> ?_,λl t esz els h=> ?_,λl l' q s h aX v e n=> ?_⟩,m.os,m.tape,m.output,m.size,m.frame,
  λk h=> ?_,λl esz els h=>m.ro l esz els (ad.Dg (bN.jG.ro P) l esz els h),λl u o p=> ?_,λl cj h=> ?_,λl l' K L q s h aX v e n=> ?_⟩
 ·by_cases a:l=H.next
  ·subst a;rw[ad.bx]at h;simp only[aS]at h;subst h;exact⟨loc,j,y⟩
  ·rw[ad.dp a]at h;exact m.rel.row _ _ _ _ h
 ·by_cases a:l=H.next
  ·subst a;rw[ad.bx]at h;simp only[aS]at h;subst h;exact⟨loc,j,y⟩
  ·rw[ad.dp a]at h;exact m.rel.map _ _ h
 ·by_cases a:l=H.next
  ·subst a;rw[ad.bx]at h;simp only[aS]at h;subst h;exact⟨loc,j,y⟩
  ·rw[ad.dp a]at h;exact m.rel.bS _ _ _ _ h
 ·by_cases a:l=H.next
  ·by_cases i:l'=H.next
   ·omega
   ·subst a;rw[j]at e;cases e;exactλheq=>A l' s (E _ aX i) n heq.symm
  ·by_cases i:l'=H.next
   ·subst i;rw[j]at n;cases n;exact A l q (z _ h a).live e
   ·exact m.rel.apart l l' q s (z _ h a) (E _ aX i) v e n
 ·rcases B k h with h|rfl
  ·exact m.own k h
  ·exact .inr Q
 ·simp only[ad.bQ]at u;have a:l≠H.next:=af
  simp only[a,if_false]at p;exact m.fresh l af o p
 ·by_cases a:l=H.next
  ·simp[a]at h
  ·simp only[a,if_false]at h;obtain⟨aZ,F,S,d,G,T,V,gQ⟩:=m.iP l cj h;refine⟨by simp;omega,F,S,d,G,T,V,λO=> ?_⟩;rcases B _ O with aX|aX
   ·exact gQ aX
   ·exact m.sep l H.next cj b d loc h aF a G j aX
 ·by_cases a:l=H.next
  ·simp[a]at h
  ·by_cases i:l'=H.next
   ·simp[i]at aX
   ·simp only[a,if_false]at h;simp only[i,if_false]at aX;exact m.sep l l' K L q s h aX v e n
end
def n8(P:Program)(H:ad)(r:aa)(name:String):Option (Nat×aa):=
 match r with
 | .iface t v=>(match P.info? t with
  |some i=>(match i.methods.find? (·.name==name)with
   |some m=>(match m.path.toList,m.func,P.underlying t with
    |[],D (f,X),D (.pointer _)=>D (f,v)
    |[],D (f,U),D (.pointer e)=>(match v with
     | .ptr .. =>(al P H e v).bind λu=>D (f,u)
     |_=>Z)
    |_,_,_=>Z)
   |none=>Z)
  |none=>Z)
 |_=>Z
def Dx{P:Program}{w:World}{n:Nat}{t:TypeId}{v:Value}{name:String}{i:TypeInfo}{m:Method}{f:FuncId}{a:Bool}(d:P.info? t=D i)(hm:i.methods.find? (·.name==name)=D m)(aF:m.path.toList=[])(c:m.func=D (f,a)){x:Value}
  (j:(receiverAt t (.val v) a (D ((name.splitOn ".").getLastD name))).run P w= .ok x w):(method (n+1) t v name).run P w= .ok (f,x) w:=by
 have e:m.path.isEmpty=true:=by simpa using aF
 have h:(typeInfo t).run P w= .ok i w:=by simp[typeInfo,d]
 unfold method;simp only[Sem.run_bind,h,Result.andThen_ok,hm,aF,follow,Sem.run_pure,c,e,if_true,j]
def Gb{P:Program}{ρ:Env}{H:ad}{w:World}(A:Rel ρ H w){r u:aa}{cg:Value}{name:String}{f:Nat}(h:n8 P H r name=D (f,u))(B:ba ρ r cg)(args:Array Value):
  ∃o,ba ρ u o/\(callMethod cg name args).run P w=(callFunc f (#[o]++args)).run P w:=by
 unfold n8 at h;split at h
 ·rename_i t v;cases B with|iface _ _ p d=>
  split at h
  ·rename_i i n;split at h
   ·rename_i m hm;have k:P.types.size+Made.depth=(P.types.size+99)+1:=rfl;split at h
    ·rename_i aF a hu;simp only[aS,bT]at h;obtain⟨rfl,rfl⟩:=h;refine⟨p,d,?_⟩;simp only[callMethod,Sem.run_bind,run_program,Result.andThen_ok,k];rw[Dx (x:=p) n hm aF a (by simp only[receiverAt,Sem.run_bind,run_underlying hu,Result.andThen_ok,Place.get,Sem.run_pure])];rfl
    ·rename_i e aF a hu;split at h
     ·rename_i l j c;simp only[cS,aS,bT]at h;obtain⟨G,z,rfl,rfl⟩:=h;obtain⟨x,q,s⟩:=tJ A z d;cases d with|ptr _ _ _ loc F=>
      refine⟨x,s,?_⟩;have y:(loadVar e ⟨loc.block,loc.off+j*loc.esz+c,Z⟩).run P w= .ok x w:=by simpa [Instr.loadAt,Instr.sureAddr]using q
      have E:∀cc:String,(Builtin.ssaWrapNilChk_ #[t] t #[.pointer (D ⟨loc.block,loc.off+j*loc.esz+c,Z⟩),strVal "",strVal cc]).run P w= .ok (.pointer (D ⟨loc.block,loc.off+j*loc.esz+c,Z⟩)) w:=λcc=>rfl
      simp only[callMethod,Sem.run_bind,run_program,Result.andThen_ok,k];rw[Dx (x:=x) n hm aF a (by simp only[receiverAt,Sem.run_bind,run_underlying hu,Result.andThen_ok,Place.get,Sem.run_pure,E,asAddr,y])];rfl
     ·cases h
    ·cases h
   ·cases h
  ·cases h
 ·cases h
def kI(P:Program)(H:ad)(ae:a7)(c:Call):Option (Nat×List aa):=
 match c.callee with
 | .value f=>match b0 ae f with
  |some (.func (.func g) first captured)=>match gK ae c.args.toList with
   |some a=>D (g,first++a++captured)
   |none=>Z
  |_=>Z
 | .invoke r name=>match b0 ae r with
  |some v=>match n8 P H v name,gK ae c.args.toList with
   |some (g,u),D a=>D (g,u::a)
   |_,_=>Z
  |none=>Z
 |_=>Z
inductive K where
 |skip
 |pure (v:aa)
 |read (v:aa)
 |new (v:aa) (b:bN)
 |dM (v:aa) (H:ad)
def K.val:K->aa
 | .skip=> .tuple []
 | .pure v=>v
 | .read v=>v
 | .new v _=>v
 | .dM v _=>v
def K.heap(H:ad):K->ad
 | .new _ b=>H.push b
 | .dM _ H'=>H'
 |_=>H
def K.eV:K->Bool
 | .new _ _=>X
 | .dM _ _=>X
 |_=>U
abbrev ax:=Nat->List aa->ad->Option (aa×ad)
def uV:Option aa->Option K
 |some v=>D (.pure v)
 |none=>Z
def ov:Option aa->Option K
 |some v=>D (.read v)
 |none=>Z
def Bf:Option (aa×bN)->Option K
 |some (v,b)=>D (.new v b)
 |none=>Z
def oo(H:ad):Option (aa×ad)->Option K
 |some (v,H')=>if H.next<=H'.next then D (.dM v H')else Z
 |none=>Z
inductive FC where
 |pure|read|both|new|write|call
def cls:Op->FC
 | .load .. => .read
 | .lookup .. => .read
 | .alloc _=> .new
 | .box .. => .new
 | .buildSlice .. => .new
 | .makeMap .. => .new
 | .makeSlice .. => .new
 | .store .. => .write
 | .mapUpdate .. => .write
 | .insert .. => .write
 | .convert .. => .both
 | .call c=>match c.callee with
  | .builtin .append=> .write
  | .builtin .clear=> .write
  | .builtin _=> .both
  |_=> .call
 |_=> .pure
def step1(P:Program)(call:ax)(o:Op)(ae:a7)(H:ad):Option K:=
 match cls o with
 | .pure=>uV (iD P o ae)
 | .read=>ov (gJ P o ae H)
 | .both=>match iD P o ae with
  |some v=>D (.pure v)
  |none=>ov (gJ P o ae H)
 | .new=>Bf (iY P o ae H.next)
 | .write=>oo H (j3 P o ae H)
 | .call=>match o with
  | .call c=>match kI P H ae c with
   |some (g,a)=>oo H (call g a H)
   |none=>Z
  |_=>Z
def mJ(o:Op):Bool:=match cls o with
 | .new=>X
 | .write=>X
 | .call=>X
 |_=>U
def M0{P:Program}{call:ax}{o:Op}{ae:a7}{H:ad}{k:K}(h:step1 P call o ae H=D k)(c:k.eV=X):mJ o=true:=by
 unfold step1 at h;unfold mJ;split at h
 ·unfold uV at h;split at h
  ·simp only[aS]at h;subst h;cases c
  ·cases h
 ·unfold ov at h;split at h
  ·simp only[aS]at h;subst h;cases c
  ·cases h
 ·split at h
  ·simp only[aS]at h;subst h;cases c
  ·unfold ov at h;split at h
   ·simp only[aS]at h;subst h;cases c
   ·cases h
 ·rename_i a;rw[a]
 ·rename_i a;rw[a]
 ·rename_i a;rw[a]
def kG(P:Program)(call:ax)(o:Op)(ae:a7)(H:ad):K->Prop
 | .skip=>False
 | .pure v=>iD P o ae=D v
 | .read v=>gJ P o ae H=D v
 | .new v b=>iY P o ae H.next=D (v,b)
 | .dM v H'=>H.next<=H'.next/\(j3 P o ae H=D (v,H')\/∃c g a,o= .call c/\kI P H ae c=D (g,a)/\call g a H=D (v,H'))
def M1{P:Program}{call:ax}{o:Op}{ae:a7}{H:ad}{k:K}(h:step1 P call o ae H=D k):kG P call o ae H k:=by
 unfold step1 at h;split at h
 ·unfold uV at h;split at h
  ·rename_i v a;simp only[aS]at h;subst h;exact a
  ·cases h
 ·unfold ov at h;split at h
  ·rename_i v a;simp only[aS]at h;subst h;exact a
  ·cases h
 ·split at h
  ·rename_i v a;simp only[aS]at h;subst h;exact a
  ·unfold ov at h;split at h
   ·rename_i v a;simp only[aS]at h;subst h;exact a
   ·cases h
 ·unfold Bf at h;split at h
  ·rename_i v b a;simp only[aS]at h;subst h;exact a
  ·cases h
 ·unfold oo at h;split at h
  ·rename_i v H' a;split at h
   ·rename_i d;simp only[aS]at h;subst h;exact⟨d,.inl a⟩
   ·cases h
  ·cases h
 ·split at h
  ·rename_i c _;split at h
   ·rename_i g i e;unfold oo at h;split at h
    ·rename_i v H' a;split at h
     ·rename_i d;simp only[aS]at h;subst h;exact⟨d,.inr ⟨c,g,i,rfl,e,a⟩⟩
     ·cases h
    ·cases h
   ·cases h
  ·cases h
section congr
variable {P:Program}{ae a6:a7}
def mx:∀{xs:List Operand},(∀x∈xs,b0 ae x=b0 a6 x)->gK ae xs=gK a6 xs
 |[],_=>rfl
 |x::xs,h=>by
  simp only[gK,h x (by simp),mx (xs:=xs) λy a=>h y (by simp[a])]
def tM:∀{xs:List (Nat×Operand)},(∀x∈xs.map (·.2),b0 ae x=b0 a6 x)->iC ae xs=iC a6 xs
 |[],_=>rfl
 |(i,x)::xs,h=>by
  simp only[iC,h x (by simp),tM (xs:=xs) λy a=>h y (by simp at a ⊢;exact .inr a)]
def tO{x:Option Operand}(h:∀y,x=D y->b0 ae y=b0 a6 y):jz ae x=jz a6 x:=by
 cases x with
 |none=>rfl
 |some x=>simp only[jz,h x rfl]
def Gw{o:Op}(h:∀x∈o.operands,b0 ae x=b0 a6 x):iD P o ae=iD P o a6:=by
 cases o<;>simp only[iD,Op.operands]at h ⊢ <;>first
  |rfl
  |(simp at h;simp[h];done)
  |skip
 ·rename_i t k;rw[tM λx a=>h x (by simpa using a)]
 ·rename_i fn f c;rw[mx λx a=>h x (by simp at a ⊢;exact .inl a),mx (xs:=c.toList) λx a=>h x (by simp at a ⊢;exact .inr a)]
 ·rename_i t x lo i j;rw[h x (by simp),tO (x:=lo) λy d=>h y (by simp[d]),tO (x:=i) λy d=>h y (by simp[d]),tO (x:=j) λy d=>h y (by simp[d])]
 ·rename_i c;cases e:c.callee with
  |builtin b=>
   simp only[Call.operands,e]at h ⊢;rw[mx λx a=>h x (by simpa using a)]
  |value f=>rfl
  |invoke r m=>rfl
def xv{o:Op}{H:ad}(h:∀x∈o.operands,b0 ae x=b0 a6 x):gJ P o ae H=gJ P o a6 H:=by
 cases o<;>simp only[gJ,Op.operands]at h ⊢ <;>first
  |rfl
  |(simp at h;simp[h];done)
  |skip
 ·rename_i c;cases a:c.callee with
  |builtin b=>
   simp only[Call.operands,a]at h ⊢;rw[mx λx d=>h x (by simpa using d)]
  |value f=>rfl
  |invoke r m=>rfl
def Gd{o:Op}{H:ad}(h:∀x∈o.operands,b0 ae x=b0 a6 x):mw P o ae H=mw P o a6 H:=by
 cases o<;>simp only[mw,Op.operands]at h ⊢ <;>first
  |rfl
  |(simp at h;simp[h];done)
  |skip
 ·rename_i t n c;rw[tM λx a=>h x (by simpa using a)]
 ·rename_i t r;cases r<;>rfl
def Gf{o:Op}{l:Nat}(h:∀x∈o.operands,b0 ae x=b0 a6 x):iY P o ae l=iY P o a6 l:=by
 unfold iY;rw[Gd h]
def GJ{o:Op}{H:ad}(h:∀x∈o.operands,b0 ae x=b0 a6 x):j3 P o ae H=j3 P o a6 H:=by
 cases o<;>simp only[j3,Op.operands]at h ⊢ <;>first
  |rfl
  |(simp at h;simp[h];done)
  |skip
 ·rename_i c;cases i:c.callee with
  |builtin b=>
   simp only[Call.operands,i]at h ⊢;cases d:c.args.toList with
   |nil=>cases b<;>rfl
   |cons s r=>
    cases r with
    |nil=>
     have a:s∈c.args.toList:=by simp[d]
     cases b<;>first
      |rfl
      |(simp only;rw[h s (by simpa using a)])
    |cons x r=>
     cases r with
     |nil=>
      have a:s∈c.args.toList:=by simp[d]
      have e:x∈c.args.toList:=by simp[d]
      cases b<;>first
       |rfl
       |(simp only;rw[h s (by simpa using a),h x (by simpa using e)])
     |cons y r=>cases b<;>rfl
  |value f=>rfl
  |invoke r m=>rfl
def FR{c:Call}{H:ad}(h:∀x∈c.operands,b0 ae x=b0 a6 x):kI P H ae c=kI P H a6 c:=by
 unfold kI;cases d:c.callee with
 |builtin b=>rfl
 |value f=>
  simp only[Call.operands,d]at h ⊢;rw[h f (by simp),mx λx a=>h x (by simp at a ⊢;exact .inr a)]
 |invoke r m=>
  simp only[Call.operands,d]at h ⊢;rw[h r (by simp),mx λx a=>h x (by simp at a ⊢;exact .inr a)]
def kG.congr{call:ax}{o:Op}{H:ad}{k:K}(h:∀x∈o.operands,b0 ae x=b0 a6 x)(a:kG P call o ae H k):kG P call o a6 H k:=by
 cases k with
 |skip=>exact a
 |pure v=>exact(Gw h).symm.trans a
 |read v=>exact(xv h).symm.trans a
 |new v b=>exact(Gf h).symm.trans a
 |dM v H'=>
  obtain⟨e,d|⟨c,g,j,rfl,d,i⟩⟩:=a
  ·exact⟨e,.inl ((GJ h).symm.trans d)⟩
  ·exact⟨e,.inr ⟨c,g,j,rfl,(FR h).symm.trans d,i⟩⟩
end congr
def lr(P:Program)(m:Sem Next)(w:World)(next:Value->World->Prop):Prop:=
 match m.run P w with
 | .ok (.value x) a=>next x a
 | .ok (.enter f args) a=>Calls P f args a λ
  | .returned x,c=>next x c
  |_,_=>False
 |_=>False
def iz(E:Env)(P:Program)(g:Nat)(args:List aa)(H:ad)(v:aa)(H':ad):Prop:=∀(ρ:Env) (w:World) (xs:List Value),Rel ρ H w->hI E ρ H.next H'.next->bo ρ args xs->H.next<=H'.next->∀next:Value->World->Prop,(∀x a c,ba c v x->Step ρ H w c H' a->next x a)->lr P (callFunc g xs.toArray) w next
def iT(E:Env)(P:Program)(call:ax):Prop:=∀g args H v H',call g args H=D (v,H')->iz E P g args H v H'
section
variable {E:Env}{P:Program}{call:ax}{ρ:Env}{H H':ad}{w:World}{ae:a7}{a:Act}{o:Oper}{v:aa}{jX:Act->World->Prop}{Q:Exit->Act->World->Prop}
def CM(h:iD P o.op ae=D v)(i:dC ρ ae a)(e:∀x,ba ρ v x->jX (a.put o.dst x) w):o.wp P a w jX Q:=by
 obtain⟨x,c,d⟩:=Gx h i w;unfold Oper.wp;rw[c];exact e x d
def C5(e:Rel ρ H w)(h:gJ P o.op ae H=D v)(j:dC ρ ae a)(i:∀x,ba ρ v x->jX (a.put o.dst x) w):o.wp P a w jX Q:=by
 obtain⟨x,c,d⟩:=Gy e h j;unfold Oper.wp;rw[c];exact i x d
def Cg{l:Nat}{b:bN}(h:iY P o.op ae l=D (v,b))(G:dC ρ ae a)(E:ρ l=Z)
  (F:∀x c d loc,ba d v x->ρ.le d->(∀k,k≠l->d k=ρ k)->d l=D loc->w.heap.size<=loc.block->b.jG=X->iy d c loc b->
   c.os=w.os->c.tape=w.tape->c.output=w.output->w.heap.size<=c.heap.size->(∀k,k<w.heap.size->c.heap[k]? =w.heap[k]?)->jX (a.put o.dst x) c):o.wp P a w jX Q:=by
 obtain⟨x,c,d,loc,e,p,q,s,u,y,z,A,B,i,j,m,n⟩:=Gg h G E w;unfold Oper.wp;rw[e];exact F x c d loc p q s u y z A B i j m n
def yA(V:iT E P call)(s:Rel ρ H w)(K:hI E ρ H.next H'.next)(h:kG P call o.op ae H (.dM v H'))(p:dC ρ ae a)
  (y:∀x i k,ba k v x->Step ρ H w k H' i->jX (a.put o.dst x) i):o.wp P a w jX Q:=by
 obtain⟨W,B|⟨c,g,aj,T,d,S⟩⟩:=h
 ·obtain⟨n,x,i,k,aa,l,O,R⟩:=GK s B (K.new _ (bf _)) p;unfold Oper.wp;rw[aa];unfold wT at l;split at l
  ·subst l;exact y _ i k O R
  ·subst l;exact y _ i k O R
  ·exact l.elim
 ·unfold kI at d;split at d
  ·rename_i f G;split at d
   ·rename_i gM first captured ad
    split at d
    ·rename_i ah M;simp only[aS,bT]at d;obtain⟨rfl,rfl⟩:=d;have q:=df p ad;have F:=my p M;generalize he:a.eval f=z at q;cases q with|func _ _ _ hs c' aZ N=>
     have j:=V _ _ _ _ _ S ρ w _ s K ((aZ.append F).append N) W (λx i=>jX (a.put o.dst x) i) (λx i k=>y x i k);have L:(execOp a.eval o).run P w=(callFunc gM ((hs++c.args.toList.map a.eval++c').toArray)).run P w:=by
      unfold execOp;rw[T];simp only[resolve,G,he,Deferred.ofValue,pure_bind,invoke]
      congr 2
      rw[map_toArray a.eval];simp
     unfold Oper.wp;rw[L];unfold lr at j;split at j
     ·rename_i e;rw[e];exact j
     ·rename_i e;rw[e];refine Calls.mono j λA ai m=> ?_
      cases A<;>first|exact m|exact m.elim
     ·exact j.elim
    ·cases d
   ·cases d
  ·rename_i bA name G;split at d
   ·rename_i v0 af;split at d
    ·rename_i gM u ah hm M;simp only[aS,bT]at d;obtain⟨rfl,rfl⟩:=d;have q:=df p af;have F:=my p M;obtain⟨ag,aZ,N⟩:=Gb s hm q (c.args.toList.map a.eval).toArray;have j:=V _ _ _ _ _ S ρ w _ s K (.cons _ _ _ _ aZ F) W (λx i=>jX (a.put o.dst x) i) (λx i k=>y x i k);have L:(execOp a.eval o).run P w=(callFunc gM ((ag::c.args.toList.map a.eval).toArray)).run P w:=by
      unfold execOp;rw[T];simp only[resolve,G,pure_bind,invoke];rw[map_toArray a.eval];have ab:(#[a.eval bA]++(c.args.toList.map a.eval).toArray)[0]? =D (a.eval bA):=by simp
      have B:(#[a.eval bA]++(c.args.toList.map a.eval).toArray).extract 1 (#[a.eval bA]++(c.args.toList.map a.eval).toArray).size=(c.args.toList.map a.eval).toArray:=by
       apply Array.ext';simp;exact List.take_of_length_le (by simp)
      rw[ab,B];simp only
      rw[N];simp
     unfold Oper.wp;rw[L];unfold lr at j;split at j
     ·rename_i e;rw[e];exact j
     ·rename_i e;rw[e];refine Calls.mono j λA ai m=> ?_
      cases A<;>first|exact m|exact m.elim
     ·exact j.elim
    ·cases d
   ·cases d
  ·cases d
end
def jB(acc:List Nat):List Edge->Nat
 |[]=>0
 |e::es=>if Region.binds .any e then 2^e.on|||(acc[e.on]?.getD 0|||jB acc es)else jB acc es
def kQ:List Oper->List Nat->List Nat
 |[],acc=>acc
 |o::os,acc=>kQ os (acc++[jB acc o.after.toList])
def dx(ops:Array Oper):List Nat:=kQ ops.toList []
def c6(ms:List Nat)(j i:Nat):Bool:=(ms[i]?.getD 0).testBit j
def B8:∀(os pre:List Oper) (acc:List Nat),acc.length=pre.length->(∀i o,pre[i]? =D o->acc[i]? =D (jB (acc.take i) o.after.toList))->
  ∀i o,(pre++os)[i]? =D o->(kQ os acc)[i]? =D (jB ((kQ os acc).take i) o.after.toList)
 |[],pre,acc,c,h,i,o,d=>by simpa [kQ]using h i o (by simpa using d)
 |p::os,pre,acc,c,h,i,o,d=>by
  unfold kQ;refine B8 os (pre++[p]) _ (by simp[c]) (λj q a=> ?_) i o (by simpa using d);rcases Nat.lt_or_ge j pre.length with k|e
  ·rw[List.getElem?_append_left k]at a;rw[List.getElem?_append_left af,h j q a,List.take_append_of_le_length af]
  ·rw[List.getElem?_append_right e]at a;have:j=pre.length:=by
    have:=(List.getElem?_eq_some_iff.1 a).1;simp at this;omega
   subst this;simp at a;subst a;rw[List.getElem?_append_right af,<-c];simp
def B9{ops:Array Oper}{i:Nat}{o:Oper}(h:ops[i]? =D o):(dx ops)[i]? =D (jB ((dx ops).take i) o.after.toList):=
 B8 ops.toList [] [] rfl (by simp) i o (by simpa using h)
def uf{acc:List Nat}{e:Edge}:∀{es:List Edge},e∈es->Region.binds .any e=X->(jB acc es).testBit e.on=X
 |[],h,_=>by simp at h
 |d::es,h,a=>by
  unfold jB;rcases List.mem_cons.1 h with rfl|h
  ·rw[if_pos a];simp[Nat.testBit_two_pow_self]
  ·split
   ·simp[uf h a]
   ·exact uf h a
def ue{acc:List Nat}{j:Nat}:∀{es:List Edge},(jB acc es).testBit j=X->∃e∈es,Region.binds .any e=X/\(j=e.on\/(acc[e.on]?.getD 0).testBit j=X)
 |[],h=>by simp[jB]at h
 |d::es,h=>by
  unfold jB at h;split at h
  ·rename_i k;simp only[Nat.testBit_or,Bool.or_eq_true]at h;rcases h with h|h|h
   ·refine⟨d,by simp,k,.inl ?_⟩;rw[Nat.testBit_two_pow]at h;simpa using(of_decide_eq_true h).symm
   ·exact⟨d,by simp,k,.inr h⟩
   ·obtain⟨e,a,c,i⟩:=ue h;exact⟨e,by simp[a],c,i⟩
  ·obtain⟨e,a,c,i⟩:=ue h;exact⟨e,by simp[a],c,i⟩
def n1(L:Nat->Bool)(o:Oper):Prop:=∀e∈o.after,Region.binds .any e=X->L e.on=X
def pA(ops:Array Oper)(L:Nat->Bool):Prop:=∀i o,ops[i]? =D o->L i=X->n1 L o
def j4{ops:Array Oper}{L:Nat->Bool}(q:pA ops L):∀(i:Nat) (o:Oper),ops[i]? =D o->n1 L o->∀j,c6 (dx ops) j i=X->L j=true:=by
 intro i
 induction i using Nat.strongRecOn with
 |_ i h=>
  intro o s hw j c;unfold c6 at c;rw[B9 s]at c;simp only[Option.getD_some]at c;obtain⟨e,n,p,a⟩:=ue c;have k:=hw e (by simpa using n) p;rcases a with rfl|a
  ·exact k
  ·rcases Nat.lt_or_ge e.on i with l|x
   ·rw[List.getElem?_take_of_lt l]at a;cases d:ops[e.on]? with
    |none=>
     cases hm:(dx ops)[e.on]? with
     |none=>rw[hm]at a;simp at a
     |some m=>
      exfalso;have hlen:∀(os:List Oper) (acc:List Nat),(kQ os acc).length=acc.length+os.length:=by
       intro os
       induction os with
       |nil=>intro acc;simp[kQ]
       |cons o os h=>intro acc;simp[kQ,h];omega
      have u:=(List.getElem?_eq_some_iff.1 hm).1;have v:(dx ops).length=ops.size:=by unfold dx;rw[hlen];simp
      have w:ops.size<=e.on:=by simpa using d
      omega
    |some oE=>exact h e.on l oE d (q _ _ d k) j a
   ·rw[List.getElem?_eq_none (by simp;omega)]at a;simp at a
def GQ{ops:Array Oper}{i:Nat}{o:Oper}(c:ops[i]? =D o){e:Edge}(he:e∈o.after)(a:Region.binds .any e=X):c6 (dx ops) e.on i=true:=by
 unfold c6;rw[B9 c];exact uf (by simpa using he) a
def j2(ops:Array Oper)(ae:a7)(o:Oper):Bool:=
 match o.guard with
 |none=>X
 |some (j,want)=>match ops[j]? with
  |some q=>(match q.dst with
   |some d=>(match ae.get d with
    | .bool b=>b==want
    |_=>U)
   |none=>U)
  |none=>U
def xF{ρ:Env}{ops:Array Oper}{ae:a7}{a:Act}(i:dC ρ ae a)(o:Oper):Region.wanted o (yielded ops a.tmps)=j2 ops ae o:=by
 unfold Region.wanted j2;cases l:o.guard with
 |none=>rfl
 |some p=>
  obtain⟨j,want⟩:=p;simp only
  unfold yielded;cases m:ops[j]? with
  |none=>simp
  |some q=>
   cases e:q.dst with
   |none=>simp[e]
   |some d=>
    simp only[Option.bind_some,e];have c:=i.get d;rw[Array.getD_eq_getD_getElem?]at c;cases h:a.tmps[d]? with
    |none=>
     rw[h]at c;simp only[Option.getD_none]at c;generalize k:ae.get d=v at c;cases v<;>first|rfl|(exfalso;cases c)
    |some x=>
     rw[h]at c;simp only[Option.getD_some]at c;generalize k:ae.get d=v at c;cases c<;>first|rfl|(simp;done)
def GI{ops:Array Oper}{ae a6:a7}{o:Oper}(h:∀d∈o.looksAt ops,ae.get d=a6.get d):j2 ops ae o=j2 ops a6 o:=by
 unfold j2;cases c:o.guard with
 |none=>rfl
 |some p=>
  obtain⟨j,want⟩:=p;simp only
  cases e:ops[j]? with
  |none=>rfl
  |some q=>
   cases a:q.dst with
   |none=>simp[a]
   |some d=>
    simp only[a];rw[h d (by simp[Oper.looksAt,c,e,a])]
def GG{ops:Array Oper}{ae a6:a7}{o:Oper}(h:∀d∈o.looksAt ops,ae.get d=a6.get d):∀x∈o.op.operands,b0 ae x=b0 a6 x:=by
 intro x a;cases x with
 |tmp t=>
  simp only[b0];rw[h t ?_];unfold Oper.looksAt;refine List.mem_append.2 (.inl ?_);rw[List.mem_filterMap];exact⟨.tmp t,by simpa using a,rfl⟩
 |const v=>rfl
 |global g=>rfl
 |func f=>rfl
structure bC where
 i:Nat
 o:Oper
 ae:a7
 k:K
def hc(P:Program)(call:ax)(ops:Array Oper)(o:Oper)(ae:a7)(H:ad):Option K:=
 match j2 ops ae o with
 |true=>step1 P call o.op ae H
 |false=>D .skip
def canRun(P:Program)(call:ax)(ops:Array Oper):List Nat->a7->ad->Option (List bC×a7×ad)
 |[],ae,H=>D ([],ae,H)
 |i::is,ae,H=>match ops[i]? with
  |none=>Z
  |some o=>match hc P call ops o ae H with
   |none=>Z
   |some k=>match ae.put o.dst k.val with
    |none=>Z
    |some a6=>match canRun P call ops is a6 (k.heap H)with
     |none=>Z
     |some (T,cu,bI)=>D (⟨i,o,ae,k⟩::T,cu,bI)
def cb:List bC->ad->ad
 |[],H=>H
 |t::ts,H=>cb ts (t.k.heap H)
def jD(A B:List bC)(H:ad):cb (A++B) H=cb B (cb A H):=by
 induction A generalizing H with
 |nil=>rfl
 |cons t A a=>simp[cb,a]
def ft(L:Nat->Bool)(d:Nat):List bC->aa->aa
 |[],v=>v
 |t::ts,v=>ft L d ts (if L t.i=X/\t.o.dst=D d then t.k.val else v)
def vJ(L:Nat->Bool)(d:Nat)(A B:List bC)(v:aa):ft L d (A++B) v=ft L d B (ft L d A v):=by
 induction A generalizing v with
 |nil=>rfl
 |cons t A a=>simp[ft,a]
def qL{L L':Nat->Bool}{d:Nat}:∀{A:List bC} {v:aa},(∀t∈A,t.o.dst=D d->L t.i=L' t.i)->ft L d A v=ft L' d A v
 |[],_,_=>rfl
 |t::A,v,h=>by
  simp only[ft];have:(L t.i=X/\t.o.dst=D d)↔(L' t.i=X/\t.o.dst=D d):=by
   constructor
   ·rintro⟨c,a⟩;exact⟨by rw[<-h t (by simp) a];exact c,a⟩
   ·rintro⟨c,a⟩;exact⟨by rw[h t (by simp) a];exact c,a⟩
  simp only[this];exact qL λu hu=>h u (by simp[hu])
def si{L:Nat->Bool}{d:Nat}:∀{A:List bC} {v:aa},(∀t∈A,t.o.dst=D d->L t.i=U)->ft L d A v=v
 |[],_,_=>rfl
 |t::A,v,h=>by
  simp only[ft];rw[if_neg (by rintro⟨a,c⟩;rw[h t (by simp) c]at a;cases a)];exact si λu hu=>h u (by simp[hu])
def j5{P:Program}{call:ax}{ops:Array Oper}:∀{is:List Nat} {ae:a7} {H:ad} {T:List bC} {cu:a7} {bI:ad},canRun P call ops is ae H=D (T,cu,bI)->
  T.map (·.i)=is/\bI=cb T H/\cu.size=ae.size/\∀d,cu.get d=ft (λ_=>X) d T (ae.get d)
 |[],ae,H,T,cu,bI,h=>by
  simp only[canRun,aS,bT]at h;obtain⟨rfl,rfl,rfl⟩:=h;exact⟨rfl,rfl,rfl,λ_=>rfl⟩
 |i::is,ae,H,T,cu,bI,h=>by
  simp only[canRun]at h;split at h
  ·cases h
  ·rename_i o s;split at h
   ·cases h
   ·rename_i k q;split at h
    ·cases h
    ·rename_i a6 a;split at h
     ·cases h
     ·rename_i p n m aX;simp only[aS,bT]at h;obtain⟨rfl,rfl,rfl⟩:=h;obtain⟨c,e,j,l⟩:=j5 aX;refine⟨by simp[c],e,by rw[j,a7.pe a],λd=> ?_⟩;rw[l d,a7.p8 a d];simp[ft]
def tX{P:Program}{call:ax}{ops:Array Oper}:∀{A:List bC} {is:List Nat} {ae:a7} {H:ad} {t:bC} {B:List bC} {cu:a7} {bI:ad},canRun P call ops is ae H=D (A++t::B,cu,bI)->
  ops[t.i]? =D t.o/\(∀d,t.ae.get d=ft (λ_=>X) d A (ae.get d))/\hc P call ops t.o t.ae (cb A H)=D t.k/\(∀d,t.o.dst=D d->d<ae.size)
 |A,[],ae,H,t,B,cu,bI,h=>by
  simp only[canRun,aS,bT]at h;have:=h.1;simp at this
 |A,i::is,ae,H,t,B,cu,bI,h=>by
  simp only[canRun]at h;split at h
  ·cases h
  ·rename_i o q;split at h
   ·cases h
   ·rename_i k p;split at h
    ·cases h
    ·rename_i a6 c;split at h
     ·cases h
     ·rename_i w v s aX;simp only[aS,bT]at h;obtain⟨a,rfl,rfl⟩:=h;cases A with
      |nil=>
       simp only[List.nil_append,List.cons.injEq]at a;obtain⟨rfl,rfl⟩:=a;refine⟨q,λ_=>rfl,p,λd e=> ?_⟩;simp only at e;rw[e]at c;exact a7.CP c
      |cons u A=>
       simp only[List.cons_append,List.cons.injEq]at a;obtain⟨rfl,rfl⟩:=a;obtain⟨j,l,m,n⟩:=tX aX;refine⟨j,λd=> ?_,m,λd e=>by rw[<-a7.pe c];exact n d e⟩;rw[l d,a7.p8 c d];simp[ft]
def eh:ad->List bC->Prop
 |_,[]=>True
 |H,t::ts=>H.next<=(t.k.heap H).next/\eh (t.k.heap H) ts
def eh.append:∀{A B:List bC} {H:ad},eh H (A++B)->eh H A/\eh (cb A H) B
 |[],_,_,h=>⟨trivial,h⟩
 |_::A,_,_,h=>by
  obtain⟨a,c⟩:=h;obtain⟨d,e⟩:=eh.append (A:=A) c;exact⟨⟨a,d⟩,e⟩
def eh.le:∀{A:List bC} {H:ad},eh H A->H.next<=(cb A H).next
 |[],_,_=>bf _
 |_::A,_,h=>Nat.le_trans h.1 (eh.le (A:=A) h.2)
def ou{P:Program}{call:ax}{ops:Array Oper}{o:Oper}{ae:a7}{H:ad}{k:K}(h:hc P call ops o ae H=D k):
  (j2 ops ae o=X/\kG P call o.op ae H k)\/(j2 ops ae o=U/\k= .skip):=by
 unfold hc at h;split at h
 ·rename_i hw;exact .inl ⟨hw,M1 h⟩
 ·rename_i hw;simp only[aS]at h;exact .inr ⟨hw,h.symm⟩
def Bc{P:Program}{call:ax}{ops:Array Oper}{o:Oper}{ae:a7}{H:ad}{k:K}(h:hc P call ops o ae H=D k)(a:k.eV=X):mJ o.op=true:=by
 unfold hc at h;split at h
 ·exact M0 h a
 ·simp only[aS]at h;subst h;cases a
def uT{P:Program}{call:ax}{ops:Array Oper}{o:Oper}{ae:a7}{H:ad}{k:K}(h:hc P call ops o ae H=D k):H.next<=(k.heap H).next:=by
 rcases ou h with⟨_,h⟩|⟨_,rfl⟩
 ·cases k with
  |dM v H'=>exact h.1
  |new v b=>simp[K.heap]
  |_=>exact bf _
 ·exact bf _
def pS{P:Program}{call:ax}{ops:Array Oper}:∀{is:List Nat} {ae:a7} {H:ad} {T:List bC} {cu:a7} {bI:ad},canRun P call ops is ae H=D (T,cu,bI)->eh H T
 |[],ae,H,T,cu,bI,h=>by
  simp only[canRun,aS,bT]at h;obtain⟨rfl,rfl,rfl⟩:=h;trivial
 |i::is,ae,H,T,cu,bI,h=>by
  simp only[canRun]at h;split at h
  ·cases h
  ·rename_i o j;split at h
   ·cases h
   ·rename_i k a;split at h
    ·cases h
    ·split at h
     ·cases h
     ·rename_i e d c aX;simp only[aS,bT]at h;obtain⟨rfl,rfl,rfl⟩:=h;exact⟨uT a,pS aX⟩
def dN(L:Nat->Bool):List bC->ad->Nat->Option bN
 |[],_,_=>Z
 |t::ts,H,l=>match t.k with
  | .new _ b=>if l=H.next then(if L t.i=X then D b else Z)else dN L ts (H.push b) l
  |k=>dN L ts (k.heap H) l
def qF{L:Nat->Bool}:∀{T:List bC} {H:ad} {l:Nat} {b:bN},eh H T->dN L T H l=D b->H.next<=l
 |[],_,_,_,_,h=>by cases h
 |t::ts,H,l,b,hm,h=>by
  unfold dN at h;split at h
  ·rename_i v cj a;split at h
   ·omega
   ·have:=qF (by have:=hm.2;rwa[a]at this) h;simp at this;omega
  ·have c:=hm.1;have:=qF hm.2 h;omega
def qE{L L':Nat->Bool}:∀{T:List bC} {H:ad},(∀t∈T,∀v b,t.k= .new v b->L t.i=L' t.i)->dN L T H=dN L' T H
 |[],_,_=>rfl
 |t::ts,H,h=>by
  funext l
  unfold dN;split
  ·rename_i v b a;rw[h t (by simp) v b a,qE (T:=ts) (λu hu=>h u (by simp[hu]))]
  ·rw[qE (T:=ts) (λu hu=>h u (by simp[hu]))]
def qG{L:Nat->Bool}{t:bC}{ts:List bC}{H:ad}(h:∀v b,t.k≠ .new v b):dN L (t::ts) H=dN L ts (t.k.heap H):=by
 funext l
 show(match t.k with
  | .new _ b=>if l=H.next then(if L t.i=X then D b else Z)else dN L ts (H.push b) l
  |k=>dN L ts (k.heap H) l)=_
 split
 ·rename_i v b a;exact absurd a (h v b)
 ·rfl
def CG{L L':Nat->Bool}{t:bC}{v:aa}{b:bN}(o:t.k= .new v b)(n:L t.i=U)(q:L' t.i=X):∀{zC zD:List bC} {H:ad},eh H (zC++t::zD)->
  (∀u∈zC,L u.i=L' u.i)->(∀u∈zD,L u.i=L' u.i)->
  dN L' (zC++t::zD) H=(λk=>if k=(cb zC H).next then D b else dN L (zC++t::zD) H k)/\dN L (zC++t::zD) H (cb zC H).next=Z
 |[],zD,H,hm,l,m=>by
  constructor
  ·funext k
   simp only[List.nil_append,cb,dN,o,n,q,if_true,Bool.false_eq_true,if_false];rw[qE (T:=zD) λu hu _ _ _=>m u hu];split<;>rfl
  ·simp[dN,o,n,cb]
 |c::zC,zD,H,hm,l,m=>by
  obtain⟨y,p⟩:=hm;obtain⟨d,e⟩:=CG o n q (zC:=zC) (zD:=zD) p (λu hu=>l u (by simp[hu])) m;by_cases a:∃x cj,c.k= .new x cj
  ·obtain⟨x,cj,a⟩:=a;have hle:(c.k.heap H).next<=(cb zC (c.k.heap H)).next:=(eh.append p).1.le
   rw[a]at d e hle;simp only[K.heap,ad.bQ]at hle d e;constructor
   ·funext k
    simp only[List.cons_append,dN,a,cb,K.heap];rw[<-l c (by simp),d];by_cases s:k=H.next
    ·subst s;simp only[if_true];by_cases j:H.next=(cb zC (H.push cj)).next
     ·omega
     ·simp only[j,if_false]
    ·simp only[s,if_false];by_cases j:k=(cb zC (H.push cj)).next
     ·simp only[j,if_true]
     ·simp only[j,if_false]
   ·simp only[List.cons_append,dN,a,cb,K.heap];rw[if_neg af];exact e
  ·have w:∀v b,c.k≠ .new v b:=λv b h=>a ⟨v,b,h⟩
   rw[List.cons_append,qG w,qG w,cb];exact⟨d,e⟩
section
mutual
def aa.beq:aa->aa->Bool
 | .bool a,.bool b=>a==b
 | .int k n,.int o m=>decide (k=o)&&decide (n=m)
 | .str s,.str t=>decide (s=t)
 | .ptr l i c,.ptr l' d c'=>decide (l=l')&&decide (i=d)&&decide (c=c')
 | .nilPtr,.nilPtr=>X
 | .ay l i n e c,.ay l' d p j c'=>decide (l=l')&&decide (i=d)&&decide (n=p)&&decide (e=j)&&decide (c=c')
 | .ar,.ar=>X
 | .map l,.map l'=>decide (l=l')
 | .hz,.hz=>X
 | .nilFunc,.nilFunc=>X
 | .iface t v,.iface q u=>decide (t=q)&&aa.beq v u
 | .nilIface,.nilIface=>X
 | .agg xs,.agg h=>gf.beq xs h
 | .tuple xs,.tuple h=>gf.beq xs h
 |_,_=>U
def gf.beq:List aa->List aa->Bool
  |[],[]=>X
  |x::xs,y::a=>aa.beq x y&&gf.beq xs a
  |_,_=>U
 end
mutual
def aa.beq_eq:∀{a b:aa},aa.beq a b=X->a=b:=by
 intro a b h;cases a<;>cases b<;>simp only[aa.beq]at h<;>first
  |(cases h;done)
  |rfl
  |(simp at h;simp[h];done)
  |skip
 ·simp only[Bool.and_eq_true,decide_eq_true_eq]at h;obtain⟨rfl,h⟩:=h;rw[aa.beq_eq h]
 ·rw[gf.beq_eq h]
 ·rw[gf.beq_eq h]
def gf.beq_eq:∀{a b:List aa},gf.beq a b=X->a=b:=by
  intro a b h;cases a with
  |nil=>cases b with
   |nil=>rfl
   |cons y c=>simp[gf.beq]at h
  |cons x xs=>cases b with
   |nil=>simp[gf.beq]at h
   |cons y c=>
    simp only[gf.beq,Bool.and_eq_true]at h;rw[aa.beq_eq h.1,gf.beq_eq h.2]
 end
def qD(ops:Array Oper)(ms:List Nat)(i j:Nat):Bool:=
 match ops[i]?,ops[j]? with
 |some o,D q=>(i != j)&&(!c6 ms j i)&&(c6 ms i j||o.apart ops q)
 |_,_=>U
def r_(ops:Array Oper)(ms:List Nat):List Nat->Bool
 |[]=>X
 |i::is=>is.all (qD ops ms i)&&r_ ops ms is
def CC{ops:Array Oper}{ms:List Nat}:∀{is:List Nat},r_ ops ms is=X->is.Pairwise λi j=>qD ops ms i j=X
 |[],_=> .nil
 |i::is,h=>by
  simp only[r_,Bool.and_eq_true,List.all_eq_true]at h;exact .cons h.1 (CC h.2)
def yx(n:Nat)(o:Oper):Bool:=o.after.toList.all λe=> !Region.binds .any e||decide (e.on<n)
def oJ(ops:Array Oper)(ms ord:List Nat):Bool:=(List.range ops.size).all (λi=>ord.contains i)&&(ord.all (λi=> !c6 ms i i)&&(ops.toList.all (yx ops.size)&&r_ ops ms ord))
def iH(ms:List Nat):List bC->List Nat->Bool
 |[],_=>X
 |t::ts,ids=>match t.k with
  | .dM _ _=>ids.all (λj=>c6 ms j t.i)&&iH ms ts (t.i::ids)
  | .new _ _=>iH ms ts (t.i::ids)
  |_=>iH ms ts ids
def rA{ms:List Nat}:∀{A:List bC} {t:bC} {B:List bC} {ids:List Nat} {v:aa} {H:ad},iH ms (A++t::B) ids=X->t.k= .dM v H->
  (∀j∈ids,c6 ms j t.i=X)/\∀u∈A,u.k.eV=X->c6 ms u.i t.i=X
 |[],t,B,ids,v,H,h,l=>by
  simp only[List.nil_append,iH,l,Bool.and_eq_true,List.all_eq_true]at h;exact⟨h.1,λu hu=>by simp at hu⟩
 |c::A,t,B,ids,v,H,h,l=>by
  simp only[List.cons_append,iH]at h;split at h
  ·simp only[Bool.and_eq_true]at h;obtain⟨a,e⟩:=rA h.2 l;refine⟨λj m=>a j (by simp[m]),λu hu d=> ?_⟩;rcases List.mem_cons.1 hu with rfl|hu
   ·exact a _ (by simp)
   ·exact e u hu d
  ·obtain⟨a,e⟩:=rA h l;refine⟨λj m=>a j (by simp[m]),λu hu d=> ?_⟩;rcases List.mem_cons.1 hu with rfl|hu
   ·exact a _ (by simp)
   ·exact e u hu d
  ·rename_i o p;obtain⟨a,e⟩:=rA h l;refine⟨a,λu hu d=> ?_⟩;rcases List.mem_cons.1 hu with rfl|hu
   ·exfalso;cases n:u.k with
    |new v b=>exact p v b n
    |dM v H=>exact o v H n
    |_=>rw[n]at d;cases d
   ·exact e u hu d
def jr(ms:List Nat)(rd:ad->Bool)(i:Nat):List bC->ad->Bool
 |[],H=>rd H
 |t::ts,H=>if t.k.eV then(c6 ms t.i i||rd H)&&(c6 ms i t.i||jr ms rd i ts (t.k.heap H))else jr ms rd i ts H
def rK{k:K}(h:k.eV=U)(H:ad):k.heap H=H:=by
 cases k<;>first|rfl|cases h
def wO{ms:List Nat}{rd:ad->Bool}{i:Nat}:∀{A B:List bC} {H:ad},jr ms rd i (A++B) H=X->(∀u∈A,u.k.eV=X->c6 ms i u.i=U)->
  (∀u e,B=u::e->u.k.eV=X/\c6 ms u.i i=U)->rd (cb A H)=X
 |[],[],H,h,_,_=>h
 |[],u::B,H,h,_,a=>by
  obtain⟨j,l⟩:=a u B rfl;simp only[List.nil_append,jr,j,if_true,Bool.and_eq_true,Bool.or_eq_true,l]at h;simpa [cb]using h.1
 |t::A,B,H,h,c,a=>by
  simp only[List.cons_append,jr]at h;split at h
  ·rename_i d;simp only[Bool.and_eq_true,Bool.or_eq_true,c t (by simp) d]at h;rw[cb];exact wO (h.2.resolve_left (by simp)) (λu hu=>c u (by simp[hu])) a
  ·rename_i d;rw[cb,rK (by simpa using d)];exact wO h (λu hu=>c u (by simp[hu])) a
def mY(P:Program)(o:Op)(ae:a7)(v:aa)(H:ad):Bool:=
 match gJ P o ae H with
 |some u=>aa.beq u v
 |none=>U
def C4{P:Program}{o:Op}{ae:a7}{v:aa}{H:ad}(h:mY P o ae v H=X):gJ P o ae H=D v:=by
 unfold mY at h;split at h
 ·rename_i u hu;rw[hu,aa.beq_eq h]
 ·cases h
def ad.only(H:ad):ad:=match H.get (H.next-1)with
 |some b=>⟨bk.put b H.next .leaf (H.next-1),H.next⟩
 |none=>⟨.leaf,H.next⟩
def ad.qw{H:ad}{b:bN}{l:Nat}{x:bN}(h:(H.push b).only.get l=D x):l=H.next/\x=b:=by
 have e:(H.push b).get ((H.push b).next-1)=D b:=ad.bx H b;unfold ad.only at h;rw[e]at h;simp only[ad.get,ad.bQ,Nat.add_sub_cancel]at h;split at h
 ·by_cases a:H.next=l
  ·subst a;rw[bk.p_ _ _ _ _ af]at h;exact⟨rfl,by simpa using h.symm⟩
  ·rw[bk.p9 _ _ _ _ _ a]at h;rw[bk.p5]at h;cases h
 ·cases h
def lL(k:K):Bool:=match k with
 | .dM _ _=>U
 |_=>X
def mA(ms:List Nat)(i:Nat):List bC->Bool->Bool
 |[],_=>U
 |t::ts,s=>match t.k with
  | .new _ _=>(s&&c6 ms t.i i&&ts.all λu=>lL u.k)||mA ms i ts (s|| !c6 ms t.i i)
  | .dM _ _=>mA ms i ts (s|| !c6 ms t.i i)
  |_=>mA ms i ts s
def jJ(ms:List Nat)(rd:ad->Bool)(i:Nat):List bC->ad->Bool->Bool
 |[],_,_=>U
 |t::ts,H,s=>match t.k with
  | .new _ b=>bif s&&c6 ms t.i i&&ts.all (λu=>lL u.k)then rd (H.push b).only||jJ ms rd i ts (H.push b) (s|| !c6 ms t.i i)else jJ ms rd i ts (H.push b) (s|| !c6 ms t.i i)
  | .dM _ H'=>jJ ms rd i ts H' (s|| !c6 ms t.i i)
  |_=>jJ ms rd i ts H s
def Cf{ms:List Nat}{rd:ad->Bool}{i:Nat}:∀{T:List bC} {H:ad} {s:Bool},jJ ms rd i T H s=X->
  ∃A u B v b,T=A++u::B/\u.k= .new v b/\c6 ms u.i i=X/\(∀x∈B,lL x.k=X)/\rd ((cb A H).push b).only=X
 |[],H,s,h=>by cases h
 |t::ts,H,s,h=>by
  have d:∀{H':ad} {s':Bool},t.k.heap H=H'->jJ ms rd i ts H' s'=X->∃A u B v b,t::ts=A++u::B/\u.k= .new v b/\c6 ms u.i i=X/\(∀x∈B,lL x.k=X)/\rd ((cb A H).push b).only=true:=by
   intro H' s' e aX;obtain⟨A,u,B,v,b,l,m,n,o,p⟩:=Cf aX;exact⟨t::A,u,B,v,b,by rw[l];rfl,m,n,o,by rw[cb,e];exact p⟩
  unfold jJ at h;split at h
  ·rename_i v b a;have j:t.k.heap H=H.push b:=by rw[a];rfl
   cases c:(s&&c6 ms t.i i&&ts.all λu=>lL u.k)with
   |true=>
    rw[c,aU,Bool.or_eq_true]at h;simp only[Bool.and_eq_true,List.all_eq_true]at c;rcases h with h|h
    ·exact⟨[],t,ts,v,b,rfl,a,c.1.2,c.2,h⟩
    ·exact d j h
   |false=>rw[c,aO]at h;exact d j h
  ·rename_i v H' a;exact d (by rw[a];rfl) h
  ·rename_i q w;refine d (rK ?_ H) h;cases a:t.k with
   |new v b=>exact absurd a (q v b)
   |dM v H'=>exact absurd a (w v H')
   |_=>rfl
def pc(ms:List Nat)(rd:ad->Bool)(i:Nat)(T:List bC)(H:ad):Bool:=bif mA ms i T U then jr ms rd i T H||jJ ms rd i T H U else jr ms rd i T H
def MD{ms:List Nat}{rd:ad->Bool}{i:Nat}{T:List bC}{H:ad}(h:pc ms rd i T H=X):jr ms rd i T H=X\/jJ ms rd i T H U=true:=by
 unfold pc at h;cases a:mA ms i T U with
 |true=>rw[a,aU,Bool.or_eq_true]at h;exact h
 |false=>rw[a,aO]at h;exact .inl h
def kD(P:Program)(ms:List Nat)(a:Nat->Bool)(T:List bC)(H:ad):List bC->Bool
 |[]=>X
 |t::ts=>(match t.k with
  | .read v=>a t.i||pc ms (mY P t.o.op t.ae v) t.i T H
  |_=>X)&&kD P ms a T H ts
def Fh{P:Program}{ms:List Nat}{a:Nat->Bool}{T:List bC}{H:ad}{t:bC}{v:aa}(c:t.k= .read v):∀{ts:List bC},kD P ms a T H ts=X->t∈ts->a t.i=X\/pc ms (mY P t.o.op t.ae v) t.i T H=X
 |[],_,hm=>by simp at hm
 |u::ts,h,hm=>by
  simp only[kD,Bool.and_eq_true]at h;rcases List.mem_cons.1 hm with rfl|hm
  ·have:=h.1;rw[c]at this;simpa using this
  ·exact Fh c h.2 hm
section
variable {P:Program}{call:ax}{ops:Array Oper}{ord:List Nat}{eb cu:a7}{H0 bI:ad}{T:List bC}{ρ0:Env}{w0:World}{Q:Exit->Act->World->Prop}
def cZ(listed:Array Bool)(i:Nat):Bool:=listed.getD i U
def CA{i j:Nat}{o q:Oper}(a:ops[i]? =D o)(c:ops[j]? =D q)(h:qD ops (dx ops) i j=X):
  i≠j/\c6 (dx ops) j i=U/\(c6 (dx ops) i j=X\/o.apart ops q=X):=by
 unfold qD at h;rw[a,c]at h;simp only[Bool.and_eq_true,bne_iff_ne,ne_eq,Bool.not_eq_true',Bool.or_eq_true]at h;exact⟨h.1.1,h.1.2,h.2⟩
def tied(ops:Array Oper)(ms ord:List Nat)(i:Nat):Bool:=
 ord.all λj=>(j==i)||(match ops[j]? with|some o=> !mJ o.op|none=>X)||c6 ms j i||c6 ms i j
def Nc{ms ord:List Nat}{i j:Nat}{o:Oper}(h:tied ops ms ord i=X)(c:j∈ord)(d:j≠i)(e:ops[j]? =D o)(a:mJ o.op=X):c6 ms j i=X\/c6 ms i j=true:=by
 unfold tied at h;rw[List.all_eq_true]at h;have:=h j c;rw[e]at this;simpa [d,a]using this
structure Ctx(P:Program)(call:ax)(ops:Array Oper)(ord:List Nat)(eb:a7)(H0:ad)(T:List bC)(cu:a7)(bI:ad):Prop where
 aE:canRun P call ops ord eb H0=some (T,cu,bI)
 vD:oJ ops (dx ops) ord=true
 dM:iH (dx ops) T []=true
 NI:kD P (dx ops) (tied ops (dx ops) ord) T H0 T=true
def Ctx.CB(c:Ctx P call ops ord eb H0 T cu bI):T.Pairwise λt u=>qD ops (dx ops) t.i u.i=true:=by
 have h:=c.vD;simp only[oJ,Bool.and_eq_true]at h;have a:=CC h.2.2.2;rw[<-(j5 c.aE).1]at a;exact(List.pairwise_map.1 a)
def Ctx.at(c:Ctx P call ops ord eb H0 T cu bI){A B:List bC}{t:bC}(h:T=A++t::B):
  ops[t.i]? =D t.o/\(∀d,t.ae.get d=ft (λ_=>X) d A (eb.get d))/\hc P call ops t.o t.ae (cb A H0)=D t.k/\(∀d,t.o.dst=D d->d<eb.size):=
 tX (by rw[<-h];exact c.aE)
def Ctx.mem(c:Ctx P call ops ord eb H0 T cu bI){t:bC}(h:t∈T):ops[t.i]? =D t.o:=by
 obtain⟨A,B,h⟩:=List.append_of_mem h;exact(c.at h).1
def Ctx.before(c:Ctx P call ops ord eb H0 T cu bI){A B:List bC}{t:bC}(h:T=A++t::B){u:bC}(hu:u∈A):
  u.i≠t.i/\c6 (dx ops) t.i u.i=U/\(c6 (dx ops) u.i t.i=X\/u.o.apart ops t.o=X):=by
 have aF:=c.CB;rw[h,List.pairwise_append]at aF;exact CA (c.mem (by rw[h];simp[hu])) (c.mem (by rw[h];simp)) (aF.2.2 u hu t (by simp))
def Ctx.after(c:Ctx P call ops ord eb H0 T cu bI){A B:List bC}{t:bC}(h:T=A++t::B){u:bC}(hu:u∈B):
  t.i≠u.i/\c6 (dx ops) u.i t.i=U/\(c6 (dx ops) t.i u.i=X\/t.o.apart ops u.o=X):=by
 have aF:=c.CB;rw[h,List.pairwise_append,List.pairwise_cons]at aF;exact CA (c.mem (by rw[h];simp)) (c.mem (by rw[h];simp[hu])) (aF.2.1.1 u hu)
def Ctx.looks(c:Ctx P call ops ord eb H0 T cu bI){A B:List bC}{t:bC}(h:T=A++t::B){L:Nat->Bool}(e:pA ops L)(hw:n1 L t.o)(l:L t.i=U):
  ∀d∈t.o.looksAt ops,ft L d T (eb.get d)=t.ae.get d:=by
 intro d m;obtain⟨p,q,_,_⟩:=c.at h;rw[q d,h,vJ,ft];rw[if_neg (by rintro⟨k,_⟩;rw[l]at k;cases k)];rw[si (A:=B),qL (L':=λ_=>X)]
 ·intro u hu j;obtain⟨_,_,a⟩:=c.before h hu;rcases a with a|a
  ·exact j4 e _ _ p hw _ a
  ·exact absurd m ((Oper.apart_spec a).1 d j)
 ·intro u hu j;obtain⟨_,_,a⟩:=c.after h hu;rcases a with a|a
  ·cases s:L u.i with
   |false=>rfl
   |true=>
    have n:=c.mem (t:=u) (by rw[h];simp[hu]);have:=j4 e _ _ n (e _ _ n s) _ a;rw[l]at this;cases this
  ·exact absurd m ((Oper.apart_spec a).2.2 d j)
def Ctx.tE(c:Ctx P call ops ord eb H0 T cu bI){A B:List bC}{t:bC}(h:T=A++t::B){L L':Nat->Bool}(l:pA ops L)(q:L t.i=U)(s:L' t.i=X)(az:∀j,j≠t.i->L' j=L j)(d:Nat)(v:aa):
  ft L' d T v=if t.o.dst=D d then t.k.val else ft L d T v:=by
 have n:∀u∈A,u.o.dst=D d->L' u.i=L u.i:=λu hu _=>az _ (c.before h hu).1
 have p:∀u∈B,u.o.dst=D d->L' u.i=L u.i:=λu hu _=>az _ (Ne.symm (c.after h hu).1)
 rw[h,vJ,vJ,qL n];simp only[ft];rw[qL p];by_cases a:t.o.dst=D d
 ·rw[if_pos ⟨s,a⟩,if_pos a];refine si λu hu y=> ?_
  obtain⟨_,_,e⟩:=c.after h hu;rcases e with e|e
  ·cases w:L u.i with
   |false=>rfl
   |true=>
    have m:=c.mem (t:=u) (by rw[h];simp[hu]);have:=j4 l _ _ m (l _ _ m w) _ e;rw[q]at this;cases this
  ·exact absurd y ((Oper.apart_spec e).2.1 d a)
 ·rw[if_neg (λx=>a x.2),if_neg a,if_neg (λx=>a x.2)]
def eL.turns{N:Nat}{ρ:Env}{w:World}{L:Nat->Bool}:∀{zC zD:List bC} {H:ad},eh H (zC++zD)->(∀u∈zC,u.k.eV=X->L u.i=X/\∃v b,u.k= .new v b)->
  eL ρ0 H0 w0 N (dN L (zC++zD) H) ρ H w->eL ρ0 H0 w0 N (dN L zD (cb zC H)) ρ (cb zC H) w
 |[],zD,H,_,_,m=>m
 |c::zC,zD,H,hm,e,m=>by
  by_cases a:c.k.eV=X
  ·obtain⟨o,v,b,d⟩:=e c (by simp) a;have aF:dN L (c::zC++zD) H H.next=D b:=by simp[dN,d,o]
   have m1:=m.EZ aF;have l:eh (H.push b) (zC++zD):=by have:=hm.2;rw[d]at this;exact this
   have heq:(λk=>if k=H.next then Z else dN L (c::zC++zD) H k)=dN L (zC++zD) (H.push b):=by
    funext k
    by_cases j:k=H.next
    ·rw[if_pos j];cases q:dN L (zC++zD) (H.push b) k with
     |none=>rfl
     |some cj=>have:=qF l q;simp at this;omega
    ·rw[if_neg j];simp[dN,d,j]
   rw[heq]at m1;have:=eL.turns l (λu hu=>e u (by simp[hu])) m1;rw[cb,d];exact this
  ·have p:∀v b,c.k≠ .new v b:=λv b h=>by rw[h]at a;exact a rfl
   rw[List.cons_append,qG p]at m;have n:=rK (by simpa using a) H;rw[cb];rw[n]at m ⊢;refine eL.turns ?_ (λu hu=>e u (by simp[hu])) m;have:=hm.2;rwa[n]at this
structure Inv(ops:Array Oper)(eb:a7)(H0:ad)(T:List bC)(N:Nat)(ρ0:Env)(w0:World)(listed:Array Bool)(a:Act)(w:World):Prop where
 size:listed.size=ops.size
 closed:pA ops (cZ listed)
 mid:∃ρ T1 T2,T=T1++T2/\(∀t∈T1,t.k.eV=true->cZ listed t.i=true)/\(∀t∈T2,(∃v H,t.k= .dM v H)->cZ listed t.i=false)/\
  eL ρ0 H0 w0 N (dN (cZ listed) T2 (cb T1 H0)) ρ (cb T1 H0) w/\∃c:a7,dC ρ c a/\c.size=eb.size/\∀d,c.get d=ft (cZ listed) d T (eb.get d)
def Ctx.final(c:Ctx P call ops ord eb H0 T cu bI){listed:Array Bool}{a:Act}{w:World}(y:Inv ops eb H0 T bI.next ρ0 w0 listed a w)(j:∀t∈T,cZ listed t.i=X):
  ∃ρ,dC ρ cu a/\Step ρ0 H0 w0 ρ bI w:=by
 obtain⟨ρ,T1,T2,aE,K,x,m,F,h,B,E⟩:=y.mid;obtain⟨G,p,q,s⟩:=j5 c.aE;have o:=pS c.aE;rw[aE]at o;have z:=(eh.append o).2;have m':=eL.turns (zC:=T2) (zD:=[]) (L:=cZ listed) (by simpa using z) (λu hu l=>by
  have e:=j u (by rw[aE];simp[hu]);refine⟨e,?_⟩;cases n:u.k with
  |new v b=>exact⟨v,b,rfl⟩
  |dM v H=>rw[x u hu ⟨v,H,n⟩]at e;cases e
  |_=>rw[n]at l;cases l) (by simpa using m)
 rw[<-jD,<-aE,<-p]at m';refine⟨ρ,⟨by rw[q,<-B];exact h.size,λd=> ?_,h.none⟩,m'.done rfl⟩;have:=h.get d;rw[E d,qL (L':=λ_=>X) (λt A _=>j t A),<-s d]at this;exact this
def C6{listed:Array Bool}{i:Nat}(h:i∈Region.ready .any ops listed)(az:listed.size=ops.size):
  ∃o,ops[i]? =D o/\cZ listed i=U/\n1 (cZ listed) o/\i<ops.size:=by
 unfold Region.ready at h;simp only[List.mem_filter,List.mem_range,Bool.and_eq_true,Bool.not_eq_true']at h;obtain⟨d,a,c⟩:=h;have j:ops[i]? =D ops[i]:=by simp[d]
 refine⟨ops[i],j,?_,?_,d⟩
 ·unfold cZ;rw[Array.getD_eq_getD_getElem?]at a ⊢;have:i<listed.size:=af;simp[this]at a ⊢;exact a
 ·rw[j]at c;simp only[Option.map_some,Option.getD_some,Array.all_eq_true']at c;intro e he k;have:=c e he;simpa [k,cZ]using this
def JI{listed:Array Bool}{i:Nat}{o:Oper}(d:ops[i]? =D o)(a:cZ listed i=U)(hw:n1 (cZ listed) o)(az:listed.size=ops.size):i∈Region.ready .any ops listed:=by
 unfold Region.ready;have h:i<ops.size:=(Array.getElem?_eq_some_iff.1 d).1;simp only[List.mem_filter,List.mem_range,Bool.and_eq_true,Bool.not_eq_true'];refine⟨h,?_,?_⟩
 ·unfold cZ at a;rw[Array.getD_eq_getD_getElem?]at a ⊢;have:i<listed.size:=af;simp[this]at a ⊢;exact a
 ·rw[d];simp only[Option.map_some,Option.getD_some,Array.all_eq_true'];intro e he;by_cases c:Region.binds .any e=X
  ·have:=hw e he c;unfold cZ at this;rw[this];simp
  ·simp[c]
def Ctx.F6(c:Ctx P call ops ord eb H0 T cu bI){listed:Array Bool}(az:listed.size=ops.size)(K:Region.ready .any ops listed=[]):∀t∈T,cZ listed t.i=true:=by
 have w:=c.vD;simp only[oJ,Bool.and_eq_true,List.all_eq_true,List.mem_range]at w;obtain⟨z,F,E,_⟩:=w;have s:=(j5 c.aE).1;have key:∀(n:Nat) (A:List bC) (t:bC) (B:List bC),A.length=n->T=A++t::B->cZ listed t.i=true:=by
  intro n
  induction n using Nat.strongRecOn with
  |_ n M=>
   intro A t B hlen h;have j:=(c.at h).1;cases G:cZ listed t.i with
   |true=>rfl
   |false=>
    have:t.i∈Region.ready .any ops listed:=by
     refine JI j G (λe he q=> ?_) az;have d:=GQ j he q;have H:e.on<ops.size:=by
      have a:=E t.o (by
       have:=(Array.getElem?_eq_some_iff.1 j);obtain⟨m,y⟩:=this;rw[<-y];simp)
      unfold yx at a;rw[List.all_eq_true]at a;have m:=a e (by simpa using he);simpa [q]using m
     have v:=z e.on H;rw[List.contains_iff_mem,<-s,List.mem_map]at v;obtain⟨u,hu,k⟩:=v;rw[h]at hu;rcases List.mem_append.1 hu with hu|hu
     ·obtain⟨l,x,p⟩:=List.append_of_mem hu;rw[<-k];refine M l.length ?_ l u (x++t::B) rfl (by rw[h,p];simp);rw[<-hlen,p];simp
     ·rcases List.mem_cons.1 hu with rfl|hu
      ·exfalso;have a:=F u.i (by rw[<-s,List.mem_map];exact⟨u,by rw[h];simp,rfl⟩);rw[<-k]at d;rw[d]at a;cases a
      ·exfalso;have a:=(c.after h hu).2.1;rw[k,d]at a;cases a
    rw[K]at this;simp at this
 intro t L;obtain⟨A,B,h⟩:=List.append_of_mem L;exact key _ A t B rfl h
def ys{p q:Nat->Bool}{i:Nat}:∀{l:List Nat},i∈l->(∀j,q j=X->p j=X)->p i=X->q i=U->l.countP q<l.countP p
 |[],h,_,_,_=>by simp at h
 |j::l,h,himp,aF,a=>by
  have hle:∀l:List Nat,l.countP q<=l.countP p:=λl=>List.countP_mono_left λx _ d=>himp x d
  simp only[List.countP_cons];rcases List.mem_cons.1 h with rfl|h
  ·rw[aF,a];have:=hle l;simp;omega
  ·have:=ys h himp aF a;cases c:q j with
   |true=>rw[himp j c];simp;omega
   |false=>cases p j<;>simp<;>omega
def r0{listed:Array Bool}{i:Nat}(a:i<listed.size)(j:Nat):cZ (listed.setIfInBounds i X) j=if j=i then X else cZ listed j:=by
 unfold cZ;rw[Array.getD_eq_getD_getElem?,Array.getD_eq_getD_getElem?,Array.getElem?_setIfInBounds];by_cases h:i=j
 ·subst h;simp[a]
 ·have aX:¬j=i:=λe=>h e.symm
  simp[h,aX]
