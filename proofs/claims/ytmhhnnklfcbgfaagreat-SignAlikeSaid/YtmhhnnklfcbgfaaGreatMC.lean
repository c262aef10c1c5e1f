/-
  Texts of one proof, laid together: Hv11 Hv12 Hv13 Hv14 Hv15.
-/
import Derived.Test.YtmhhnnklfcbgfaaGreatMB
import Derived.Orders
set_option linter.unusedVariables false
set_option linter.unusedSimpArgs false
set_option linter.defProp false
open Option renaming some→D,none→I
open Bool renaming true→C,false→Z
namespace Go.bo
structure bl where
 t:bJ aa
 size:Nat
def bl.get(R:bl)(d:Nat):aa:=match R.t.get d with
 |some v=>v
 |none=> .tuple []
def bl.put(R:bl)(dst:Option Nat)(v:aa):Option bl:=match dst with
 |none=>D R
 |some d=>if d<R.size then D {R with t:=bJ.put v (d+1) R.t d}else I
structure dO(ρ:Env)(R:bl)(a:Act):Prop where
 size:R.size=a.tmps.size
 get:∀d,bB ρ (R.get d) (a.tmps.getD d undef)
 none:a.defers=[]
def dO.mono{ρ b:Env}{R:bl}{a:Act}(h:dO ρ R a)(hle:ρ.le b):dO b R a:=⟨h.size,λd=>(h.get d).mono hle,h.none⟩
def bl.p0{R bm:bl}{dst:Option Nat}{v:aa}(h:R.put dst v=D bm)(d:Nat):bm.get d=if dst=D d then v else R.get d:=by
 cases dst with
 |none=>simp only[bl.put,bn]at h;subst h;simp
 |some e=>
  simp only[bl.put]at h;split at h
  ·simp only[bn]at h;subst h;by_cases he:e=d
   ·subst he;simp[bl.get,bJ.sK v (e+1) R.t e ai]
   ·have:(D e=D d)=False:=by simp[he]
    simp[bl.get,bJ.p1 v (e+1) R.t e d he,he]
  ·cases h
def bl.size_put{R bm:bl}{dst:Option Nat}{v:aa}(h:R.put dst v=D bm):bm.size=R.size:=by
 cases dst with
 |none=>simp only[bl.put,bn]at h;subst h;rfl
 |some e=>
  simp only[bl.put]at h;split at h
  ·simp only[bn]at h;subst h;rfl
  ·cases h
def bl.Gj{R bm:bl}{d:Nat}{v:aa}(h:R.put (D d) v=D bm):d<R.size:=by
 simp only[bl.put]at h;split at h
 ·assumption
 ·cases h
def dO.put{ρ:Env}{R bm:bl}{a:Act}{dst:Option Nat}{v:aa}{x:Value}(h:dO ρ R a)(b:R.put dst v=D bm)(f:bB ρ v x):dO ρ bm (a.put dst x):=by
 refine⟨?_,λd=> ?_,?_⟩
 ·rw[bl.size_put b,h.size];cases dst<;>simp[Act.put]
 ·rw[bl.p0 b];cases dst with
  |none=>simpa [Act.put]using h.get d
  |some e=>
   have c:=bl.Gj b;rw[h.size]at c;by_cases he:e=d
   ·subst he;simpa [Act.put,c]using f
   ·have:=h.get d;simp only[bn,he,if_false,Act.put,Array.getD_eq_getD_getElem?,Array.getElem?_setIfInBounds];simpa using this
 ·cases dst<;>simpa [Act.put]using h.none
def cb(R:bl):Operand->Option aa
 | .tmp t=>D (R.get t)
 | .const v=>s4 v
 | .global _=>I
 | .func f=>D (.func (.func f) [] [])
section
variable {P:Program}{ρ:Env}{H:ad}{w:World}{R:bl}{a:Act}
def dF(b:dO ρ R a){x:Operand}{v:aa}(h:cb R x=D v):bB ρ v (a.eval x):=by
 cases x with
 |tmp t=>simp only[cb,bn]at h;subst h;exact b.get t
 |const c=>exact wX h ρ
 |global g=>cases h
 |func f=>simp only[cb,bn]at h;subst h;exact .func (.func f) [] [] [] [] .nil .nil
def gP(R:bl):List Operand->Option (List aa)
 |[]=>D []
 |x::xs=>match cb R x,gP R xs with
  |some v,D a=>D (v::a)
  |_,_=>I
def nU(c:dO ρ R a):∀{xs:List Operand} {b:List aa},gP R xs=D b->bV ρ b (xs.map a.eval)
 |[],b,h=>by simp only[gP,bn]at h;subst h;exact .nil
 |x::xs,b,h=>by
  simp only[gP]at h;split at h
  ·rename_i v f d e;simp only[bn]at h;subst h;exact .cons _ _ _ _ (dF c d) (nU c e)
  ·cases h
def ik(R:bl):List (Nat×Operand)->Option (List (Nat×aa))
 |[]=>D []
 |(i,x)::xs=>match cb R x,ik R xs with
  |some v,D a=>D ((i,v)::a)
  |_,_=>I
def y3(c:dO ρ R a):∀{xs:List (Nat×Operand)} {b:List (Nat×aa)},ik R xs=D b->pw ρ b (xs.map λ(i,x)=>(i,a.eval x))
 |[],b,h=>by simp only[ik,bn]at h;subst h;exact trivial
 |(i,x)::xs,b,h=>by
  simp only[ik]at h;split at h
  ·rename_i v f d e;simp only[bn]at h;subst h;exact⟨rfl,dF c d,y3 c e⟩
  ·cases h
def jC(R:bl):Option Operand->Option (Option aa)
 |none=>D I
 |some x=>match cb R x with
  |some v=>D (D v)
  |none=>I
def y6(b:dO ρ R a){x:Option Operand}{v:Option aa}(h:jC R x=D v):pv ρ v (x.map a.eval):=by
 cases x with
 |none=>simp only[jC,bn]at h;subst h;exact .none
 |some x=>
  simp only[jC]at h;split at h
  ·rename_i u hu;simp only[bn]at h;subst h;exact .some _ _ (dF b hu)
  ·cases h
def cr:aa->Option aa
 | .ptr l i c=>D (.ptr l i c)
 | .iface t v=>D (.iface t v)
 | .func (.func f) x y=>D (.func (.func f) x y)
 |_=>I
def ih(P:Program)(t:TypeId)(v:aa):Option aa:=
 match P.underlying t with
 |some (.interface _)=>I
 |some _=>D (.iface t v)
 |none=>I
def a2(P:Program)(H:ad)(b:Builtin)(ts:List TypeId)(a:List aa):Option aa:=
 match b,ts,a with
 | .len,[t],[x]=>su P H t x
 | .max,_,[x,y]=>yY x y
 | .min,_,[x,y]=>yZ x y
 | .cap,[t],[x]=>yQ P t x
 |_,_,_=>I
def nR(P:Program)(t:TypeId)(ok:Bool)(v:aa):Option aa:=
 match v with
 | .iface d u=>if d=t/\ok=Z then(match P.underlying t with|some (.interface _)=>I|some _=>D u|none=>I)else I
 |_=>I
def hF(P:Program)(o:Op)(R:bl):Option aa:=
 match o with
 | .move x=>cb R x
 | .assign x=>cb R x
 | .pick c a b=>match cb R c with
  |some (.bool t)=>if t then cb R a else cb R b
  |_=>I
 | .build t j=>(ik R j.toList).bind (c7 P t)
 | .nilCheck x=>(cb R x).bind cr
 | .binOp op t x y _=>(cb R x).bind λu=>(cb R y).bind λv=>sk P op t x y u v
 | .unOp op _ x=>(cb R x).bind (dg op)
 | .convert s d x=>(cb R x).bind (sn P s d)
 | .makeInterface t x=>(cb R x).bind (ih P t)
 | .makeFunc fn f c=>(gP R f.toList).bind λfs=>(gP R c.toList).bind λcs=>D (.func fn fs cs)
 | .slice t x fZ e g=>(cb R x).bind λv=>(jC R fZ).bind λl=>(jC R e).bind λh=>(jC R g).bind λm=>fX P t v l h m
 | .fieldAddr t x f=>(cb R x).bind λv=>av P t v f
 | .field t x f=>(cb R x).bind λv=>lP P t v f
 | .indexAddr t x i=>(cb R x).bind λu=>(cb R i).bind λv=>a6 P t u v
 | .index t x i=>(cb R x).bind λu=>(cb R i).bind λv=>gf P t u v
 | .extract x i=>(cb R x).bind λv=>gC v i
 | .typeAssert x _ t ok=>(cb R x).bind (nR P t ok)
 | .call c=>match c.callee with
  | .builtin b=>(gP R c.args.toList).bind (a2 P .empty b c.argTypes.toList)
  |_=>I
 |_=>I
def fp{s:Sem Value}{x:Value}{w a:World}(h:s.run P w= .ok x a):(do pure (.value (<-s)):Sem Next).run P w= .ok (.value x) a:=by
 simp[h]
def AX{s:Sem Unit}{w a:World}(h:s.run P w= .ok () a):(do s;pure .skip:Sem Next).run P w= .ok .skip a:=by
 simp[h]
def Rel.empty(ρ:Env)(w:World)(n:Nat):Rel ρ ⟨.leaf,n⟩ w:=by
 have:∀l,(⟨.leaf,n⟩:ad).get l=none:=λl=>by unfold ad.get;split<;>first|exact bJ.pZ _|rfl
 refine⟨λl _ _ _ h=> ?_,λl _ h=> ?_,λl _ _ _ h=> ?_,λl a _ _ h=> ?_⟩
 ·rw[this]at h;cases h
 ·rw[this]at h;cases h
 ·rw[this]at h;cases h
 ·rcases h with⟨_,_,h⟩|⟨_,h⟩|⟨_,_,_,h⟩<;>(rw[this]at h;cases h)
def B0(f:Rel ρ H w){b:Builtin}{ts:List TypeId}{e:List aa}{v:aa}{xs:List Value}(h:a2 P H b ts e=D v)(d:bV ρ e xs)(ty:TypeId)(cs:Array Bool):
  ∃x,(builtin b ts.toArray ty cs xs.toArray).run P w= .ok (.value x) w/\bB ρ v x:=by
 unfold a2 at h;split at h
 ·cases d with|cons _ x _ _ ae ah=>
  cases ah;obtain⟨r,a,c⟩:=Kd f ty h ae;exact⟨r,fp a,c⟩
 ·cases d with|cons _ x _ _ ae ah=>
  cases ah with|cons _ y _ _ ak au=>
  cases au;obtain⟨r,a,c⟩:=Ko (P:=P) ts.toArray ty h ae ak w;exact⟨r,fp a,c⟩
 ·cases d with|cons _ x _ _ ae ah=>
  cases ah with|cons _ y _ _ ak au=>
  cases au;obtain⟨r,a,c⟩:=Kq (P:=P) ts.toArray ty h ae ak w;exact⟨r,fp a,c⟩
 ·cases d with|cons _ x _ _ ae ah=>
  cases ah;obtain⟨r,a,c⟩:=JX (P:=P) ty h ae w;exact⟨r,fp a,c⟩
 ·cases h
def map_toArray{α β:Type}(f:α->β)(xs:Array α):xs.map f=(xs.toList.map f).toArray:=by cases xs;simp
def xe{o:Oper}{c:Call}{b:Builtin}(a7:o.op= .call c)(aA:c.callee= .builtin b)(w:World):
  (execOp a.eval o).run P w=(builtin b c.argTypes o.type (c.args.map λ | .const _=>C|_=>Z) (c.args.map a.eval)).run P w:=by
 unfold execOp;rw[a7];simp only[resolve,aA];rfl
def KF{o:Oper}{v:aa}(h:hF P o.op R=D v)(e:dO ρ R a)(w:World):∃x,(execOp a.eval o).run P w= .ok (.value x) w/\bB ρ v x:=by
 unfold hF at h;split at h
 ·rename_i x a7;exact⟨_,by unfold execOp;rw[a7];rfl,dF e h⟩
 ·rename_i x a7;exact⟨_,by unfold execOp;rw[a7];rfl,dF e h⟩
 ·rename_i c x y a7;split at h
  ·rename_i t q;have ae:=dF e q;have ah:a.eval c= .bool t:=by
    generalize a.eval c=z at ae;cases ae;rfl
   cases t
   ·exact⟨_,by unfold execOp;rw[a7];simp only[ah];rfl,dF e h⟩
   ·exact⟨_,by unfold execOp;rw[a7];simp only[ah];rfl,dF e h⟩
  ·cases h
 ·rename_i t K a7;simp only[dP]at h;obtain⟨B,ae,ah⟩:=h;obtain⟨x,g,j⟩:=JU ah (y3 e ae) w;refine⟨x,?_,j⟩;unfold execOp;rw[a7];rw[<-map_toArray]at g;exact fp g
 ·rename_i x a7;simp only[dP]at h;obtain⟨u,ae,ah⟩:=h;have ak:=dF e ae;refine⟨a.eval x,?_,?_⟩
  ·unfold execOp;rw[a7];simp only
   generalize a.eval x=z at ak;unfold cr at ah;split at ah
   ·cases ak;rfl
   ·cases ak;rfl
   ·cases ak;rfl
   ·cases ah
  ·unfold cr at ah;split at ah<;>first|(simp only[bn]at ah;subst ah;exact ak)|cases ah
 ·rename_i op t x y N a7;simp only[dP]at h;obtain⟨u,ae,z,ah,ak⟩:=h;obtain⟨r,g,j⟩:=JR ak (dF e ae) (dF e ah) w;exact⟨r,by unfold execOp;rw[a7];exact fp g,j⟩
 ·rename_i op t x a7;simp only[dP]at h;obtain⟨u,ae,ak⟩:=h;obtain⟨r,g,j⟩:=KR ak (dF e ae) w;exact⟨r,by unfold execOp;rw[a7];exact fp g,j⟩
 ·rename_i s d x a7;simp only[dP]at h;obtain⟨u,ae,ak⟩:=h;obtain⟨r,g,j⟩:=JZ ak (dF e ae) w;exact⟨r,by unfold execOp;rw[a7];exact fp g,j⟩
 ·rename_i t x a7;simp only[dP]at h;obtain⟨u,ae,ak⟩:=h;have au:=dF e ae;unfold ih at ak;split at ak
  ·cases ak
  ·rename_i d p hu;simp only[bn]at ak;subst ak;refine⟨.iface t (a.eval x),?_,.iface _ _ _ au⟩;unfold execOp;rw[a7];refine fp ?_;unfold Instr.makeInterface;simp only[Sem.run_bind,run_underlying hu,Result.andThen_ok];cases d<;>first|rfl|exact absurd rfl (p _)
  ·cases ak
 ·rename_i fn f c a7;simp only[dP,bn]at h;obtain⟨fs,ae,cs,ah,rfl⟩:=h;refine⟨_,?_,.func fn fs cs _ _ (nU e ae) (nU e ah)⟩;unfold execOp;rw[a7];rw[<-map_toArray,<-map_toArray];rfl
 ·rename_i t x fZ G H a7;simp only[dP]at h;obtain⟨u,ae,l,ah,k,ak,m,au,n⟩:=h;obtain⟨r,g,j⟩:=KO n (dF e ae) (y6 e ah) (y6 e ak) (y6 e au) w;exact⟨r,by unfold execOp;rw[a7];exact fp g,j⟩
 ·rename_i t x f a7;simp only[dP]at h;obtain⟨u,ae,ak⟩:=h;obtain⟨r,g,j⟩:=J9 ak (dF e ae) w;exact⟨r,by unfold execOp;rw[a7];exact fp g,j⟩
 ·rename_i t x f a7;simp only[dP]at h;obtain⟨u,ae,ak⟩:=h;obtain⟨r,g,j⟩:=J_ ak (dF e ae) w;exact⟨r,by unfold execOp;rw[a7];exact fp g,j⟩
 ·rename_i t x i a7;simp only[dP]at h;obtain⟨u,ae,z,ah,ak⟩:=h;obtain⟨r,g,j⟩:=Kb ak (dF e ae) (dF e ah) w;exact⟨r,by unfold execOp;rw[a7];exact fp g,j⟩
 ·rename_i t x i a7;simp only[dP]at h;obtain⟨u,ae,z,ah,ak⟩:=h;obtain⟨r,g,j⟩:=Kc ak (dF e ae) (dF e ah) w;exact⟨r,by unfold execOp;rw[a7];exact fp g,j⟩
 ·rename_i x i a7;simp only[dP]at h;obtain⟨u,ae,ak⟩:=h;obtain⟨r,g,j⟩:=J8 ak (dF e ae) w;exact⟨r,by unfold execOp;rw[a7];exact fp g,j⟩
 ·rename_i x M t ok a7;simp only[dP]at h;obtain⟨u,ae,ak⟩:=h;have au:=dF e ae;unfold nR at ak;split at ak
  ·rename_i d L;split at ak
   ·rename_i aA;obtain⟨rfl,rfl⟩:=aA;generalize he:a.eval x=z at au;cases au with|iface _ _ E n=>
    split at ak
    ·cases ak
    ·rename_i A p hu;simp only[bn]at ak;subst ak;refine⟨E,?_,n⟩;unfold execOp;rw[a7];refine fp ?_;rw[he];unfold Instr.typeAssert;simp only[Sem.run_bind,run_underlying hu,Result.andThen_ok];cases A<;>first|exact absurd rfl (p _)|simp
    ·cases ak
   ·cases ak
  ·cases ak
 ·rename_i c a7;split at h
  ·rename_i b aA;simp only[dP]at h;obtain⟨B,ae,ah⟩:=h;obtain⟨x,g,j⟩:=B0 (Rel.empty ρ w 0) ah (nU e ae) o.type (c.args.map λ | .const _=>C|_=>Z);refine⟨x,?_,j⟩;rw[xe a7 aA,map_toArray a.eval];simpa using g
  ·cases h
 ·cases h
def gD(P:Program)(o:Op)(R:bl)(H:ad):Option aa:=
 match o with
 | .load t x=>(cb R x).bind (aj P H t)
 | .lookup t x k ok=>(cb R x).bind λu=>(cb R k).bind λv=>hh P H t u v ok
 | .convert s d x=>(cb R x).bind (sm P H s d)
 | .call c=>match c.callee with
  | .builtin b=>(gP R c.args.toList).bind (a2 P H b c.argTypes.toList)
  |_=>I
 |_=>I
def KK(i:Rel ρ H w){o:Oper}{v:aa}(h:gD P o.op R H=D v)(g:dO ρ R a):∃x,(execOp a.eval o).run P w= .ok (.value x) w/\bB ρ v x:=by
 unfold gD at h;split at h
 ·rename_i t x a7;simp only[dP]at h;obtain⟨u,ae,ak⟩:=h;obtain⟨r,e,f⟩:=yW i ak (dF g ae);exact⟨r,by unfold execOp;rw[a7];exact fp e,f⟩
 ·rename_i t x k ok a7;simp only[dP]at h;obtain⟨u,ae,z,ah,ak⟩:=h;obtain⟨r,e,f⟩:=Kk i ak (dF g ae) (dF g ah);exact⟨r,by unfold execOp;rw[a7];exact fp e,f⟩
 ·rename_i s d x a7;simp only[dP]at h;obtain⟨u,ae,ak⟩:=h;obtain⟨r,e,f⟩:=JV i ak (dF g ae);exact⟨r,by unfold execOp;rw[a7];exact fp e,f⟩
 ·rename_i c a7;split at h
  ·rename_i b aA;simp only[dP]at h;obtain⟨j,ae,ah⟩:=h;obtain⟨x,e,f⟩:=B0 i ah (nU g ae) o.type (c.args.map λ | .const _=>C|_=>Z);refine⟨x,?_,f⟩;rw[xe a7 aA,map_toArray a.eval];simpa using e
  ·cases h
 ·cases h
def nS(P:Program)(o:Op)(R:bl)(H:ad):Option (aa×ad):=
 match o with
 | .alloc t=>vv P H t
 | .box t x=>(cb R x).bind (py (p_ P t) H)
 | .buildSlice t n a=>(ik R a.toList).bind (sl P H t n)
 | .makeMap _ I=>D (yX H)
 | .makeSlice t l c=>(cb R l).bind λu=>(cb R c).bind λv=>fw P H t u v
 |_=>I
def Kt(i:Rel ρ H w)(aN:ρ H.next=I){o:Oper}{v:aa}{H':ad}(h:nS P o.op R H=D (v,H'))(j:dO ρ R a):
  ∃x b d,(execOp a.eval o).run P w= .ok (.value x) b/\bB d v x/\Step ρ H w d H' b:=by
 unfold nS at h;split at h
 ·rename_i t a7;obtain⟨r,b,d,e,f,g⟩:=JP i aN h;exact⟨r,b,d,by unfold execOp;rw[a7];exact fp e,f,g⟩
 ·rename_i t x a7;simp only[dP]at h;obtain⟨u,ae,ak⟩:=h;obtain⟨r,b,d,e,f,g⟩:=BZ (P:=P) i aN ak (dF j ae) t (λm h=>FE h);exact⟨r,b,d,by unfold execOp;rw[a7];exact fp e,f,g⟩
 ·rename_i t n k a7;simp only[dP]at h;obtain⟨u,ae,ak⟩:=h;obtain⟨r,b,d,e,f,g⟩:=JS i aN ak (y3 j ae);refine⟨r,b,d,?_,f,g⟩;unfold execOp;rw[a7];rw[<-map_toArray]at e;exact fp e
 ·rename_i t a7;simp only[bn]at h;obtain⟨r,b,d,e,f,g⟩:=Kl (P:=P) i aN t;rw[h]at f g;exact⟨r,b,d,by unfold execOp;rw[a7];exact fp e,f,g⟩
 ·rename_i t l c a7;simp only[dP]at h;obtain⟨u,ae,z,ah,ak⟩:=h;obtain⟨r,b,d,e,f,g⟩:=Kn i aN ak (dF j ae) (dF j ah);exact⟨r,b,d,by unfold execOp;rw[a7];exact fp e,f,g⟩
 ·cases h
def bL.iZ:bL->Bool
 | .row Z _ _=>C
 | .map _=>C
 | .dz _ _ _=>C
 |_=>Z
def bL.iZ.ro{b:bL}(h:b.iZ=C):b.sN=false:=by
 cases b with
 |row ro e s=>cases ro<;>first|rfl|cases h
 |map es=>rfl
 |dz t e s=>rfl
 |dead=>rfl
def e5(r:Option (aa×ad))(l:Nat):Option (aa×bL):=
 match r with
 |some (v,H')=>if H'.next=l+1 then(match H'.get l with
  |some b=>if b.iZ then D (v,b)else I
  |none=>I)else I
 |none=>I
def iO(P:Program)(o:Op)(R:bl)(l:Nat):Option (aa×bL):=e5 (nS P o R ⟨.leaf,l⟩) l
def iS(P:Program)(o:Op)(R:bl)(H:ad):Option (aa×ad):=
 match o with
 | .store t x y=>(cb R x).bind λu=>(cb R y).bind λv=>(bA P H t u v).map λH'=>(.tuple [],H')
 | .mapUpdate t m k x=>(cb R m).bind λu=>(cb R k).bind λv=>(cb R x).bind λz=>(iN P H t u v z).map λH'=>(.tuple [],H')
 | .insert t m k x=>(cb R m).bind λu=>(cb R k).bind λv=>(cb R x).bind λz=>(iN P H t u v z).map λH'=>(.tuple [],H')
 | .call c=>match c.callee,c.args.toList with
  | .builtin .append,[s,x]=>(cb R s).bind λu=>(cb R x).bind λv=>cS P H c.argTypes.toList u v
  | .builtin .clear,[x]=>(cb R x).bind λu=>(vx P H c.argTypes.toList u).map λH'=>(.tuple [],H')
  |_,_=>I
 |_=>I
def BV(x:Value):Next->Prop
 | .value y=>y=x
 | .skip=>x=undef
 |_=>False
def KW(g:Rel ρ H w){o:Oper}{v:aa}{H':ad}(h:iS P o.op R H=D (v,H'))(aN:H.next<H'.next->ρ H.next=I)(d:dO ρ R a):
  ∃n x b i,(execOp a.eval o).run P w= .ok n b/\BV x n/\bB i v x/\Step ρ H w i H' b:=by
 unfold iS at h;split at h
 ·rename_i t x y a7;simp only[dP,Option.map_eq_some_iff,cM]at h;obtain⟨u,ae,z,ah,H1,ak,rfl,rfl⟩:=h;obtain⟨b,e,f⟩:=KP g ak (dF d ae) (dF d ah);exact⟨.skip,undef,b,ρ,by unfold execOp;rw[a7];exact AX e,rfl,.tuple [] [] .nil,f⟩
 ·rename_i t m k x a7;simp only[dP,Option.map_eq_some_iff,cM]at h;obtain⟨u,ae,z,ah,y,au,H1,ak,rfl,rfl⟩:=h;obtain⟨b,e,f⟩:=Cd g ak (dF d ae) (dF d ah) (dF d au);exact⟨.skip,undef,b,ρ,by unfold execOp;rw[a7];exact AX e,rfl,.tuple [] [] .nil,f⟩
 ·rename_i t m k x a7;simp only[dP,Option.map_eq_some_iff,cM]at h;obtain⟨u,ae,z,ah,y,au,H1,ak,rfl,rfl⟩:=h;obtain⟨b,e,f⟩:=Cd g ak (dF d ae) (dF d ah) (dF d au);exact⟨.skip,undef,b,ρ,by unfold execOp;rw[a7];exact AX e,rfl,.tuple [] [] .nil,f⟩
 ·rename_i c a7;split at h
  ·rename_i s x aA j;simp only[dP]at h;obtain⟨u,ae,z,ah,ak⟩:=h;obtain⟨r,b,i,e,f,l⟩:=JQ g o.type ak aN (dF d ae) (dF d ah);refine⟨.value r,r,b,i,?_,rfl,f,l⟩;rw[xe a7 aA,map_toArray a.eval,j];refine fp (s:=Builtin.append_ c.argTypes o.type _) ?_;simpa using e
  ·rename_i x aA j;simp only[dP,Option.map_eq_some_iff,cM]at h;obtain⟨u,ae,H1,ak,rfl,rfl⟩:=h;obtain⟨b,e,f⟩:=JY g o.type ak (dF d ae);refine⟨.value (.tuple #[]),.tuple #[],b,ρ,?_,rfl,.tuple [] [] .nil,f⟩;rw[xe a7 aA,map_toArray a.eval,j];refine fp (s:=Builtin.clear_ c.argTypes o.type _) ?_;simpa using e
  ·cases h
 ·cases h
end
section
variable {P:Program}{ρ:Env}{H:ad}{w:World}{R:bl}{a:Act}
def ib(ρ:Env)(w:World)(loc:Loc):bL->Prop
 | .row ro esz els=>ft ρ w loc ro esz els
 | .map es=>yM ρ w loc es
 | .dz t esz els=>lN ρ w loc t esz els
 | .dead=>True
def ib.frame{l:Env}{k:World}{loc:Loc}{b:bL}(h:ib ρ w loc b)(hle:ρ.le l)(a:k.heap[loc.block]? =w.heap[loc.block]?):ib l k loc b:=by
 cases b with
 |row ro esz els=>
  obtain⟨d,c,t,m,f,g,o⟩:=h;refine⟨d,c,t,m,by rw[a];exact f,g,λi e he=> ?_⟩;obtain⟨p,q⟩:=o i e he;refine⟨p,λj v n=> ?_⟩;obtain⟨r,x,s,u⟩:=q j v n;exact⟨r,x,s,u.mono hle⟩
 |map es=>
  obtain⟨ents,clock,d,f,g⟩:=h;exact⟨ents,clock,by rw[a];exact d,f.mono hle,g.mono hle⟩
 |dz t esz els=>exact lN.frame h hle a
 |dead=>trivial
def ib.lt{loc:Loc}{b:bL}(h:ib ρ w loc b)(a:b.iZ=C):loc.block<w.heap.size:=by
 cases b with
 |row ro esz els=>obtain⟨_,c,t,f,e,_⟩:=h;exact iX e
 |map es=>obtain⟨ents,clock,d,_⟩:=h;exact iX d
 |dz t esz els=>exact h.1.lt
 |dead=>cases a
def Rel.grow{m:Env}{o:World}(h:Rel ρ H w)(hle:ρ.le m)(i:∀b,b<w.heap.size->o.heap[b]? =w.heap[b]?):Rel m H o:=by
 refine⟨λl ro esz els e=> ?_,λl es e=> ?_,λl t esz els e=> ?_,λl s loc g ae ah r p q=> ?_⟩
 ·obtain⟨loc,a,d⟩:=h.row l ro esz els e;refine⟨loc,hle _ _ a,?_⟩;have:=d;obtain⟨_,c,t,u,j,_⟩:=this;exact ib.frame (b:= .row ro esz els) d hle (i _ (iX j))
 ·obtain⟨loc,a,d⟩:=h.map l es e;refine⟨loc,hle _ _ a,?_⟩;have:=d;obtain⟨_,_,j,_⟩:=this;exact ib.frame (b:= .map es) d hle (i _ (iX j))
 ·obtain⟨loc,a,d⟩:=h.dz l t esz els e;exact⟨loc,hle _ _ a,d.frame hle (i _ d.1.lt)⟩
 ·have n:∀k loc,H.live k->m k=D loc->ρ k=D loc:=λk loc f e=>by
   rcases f with⟨ro,esz,els,f⟩|⟨es,f⟩|⟨t,esz,els,f⟩
   ·obtain⟨g,a,_⟩:=h.row _ _ _ _ f;rw[hle _ _ a]at e;rw[a];exact e
   ·obtain⟨g,a,_⟩:=h.map _ _ f;rw[hle _ _ a]at e;rw[a];exact e
   ·obtain⟨g,a,_⟩:=h.dz _ _ _ _ f;rw[hle _ _ a]at e;rw[a];exact e
  exact h.apart l s loc g ae ah r (n _ _ ae.live p) (n _ _ ah q)
def Rel.Ae(h:Rel ρ H w){l:Nat}(az:H.live l):∃loc,ρ l=D loc/\loc.block<w.heap.size:=by
 rcases az with⟨ro,esz,els,a⟩|⟨es,a⟩|⟨t,esz,els,a⟩
 ·obtain⟨loc,b,_,c,t,f,d,_⟩:=h.row _ _ _ _ a;exact⟨loc,b,iX d⟩
 ·obtain⟨loc,b,_,_,d,_⟩:=h.map _ _ a;exact⟨loc,b,iX d⟩
 ·obtain⟨loc,b,e⟩:=h.dz _ _ _ _ a;exact⟨loc,b,e.1.lt⟩
def Kv{o:Oper}{l:Nat}{v:aa}{b:bL}(h:iO P o.op R l=D (v,b))(z:dO ρ R a)(aN:ρ l=I)(w:World):
  ∃x d e loc,(execOp a.eval o).run P w= .ok (.value x) d/\bB e v x/\ρ.le e/\(∀k,k≠l->e k=ρ k)/\e l=D loc/\w.heap.size<=loc.block/\b.iZ=C/\ib e d loc b/\
   d.os=w.os/\d.tape=w.tape/\d.output=w.output/\w.heap.size<=d.heap.size/\∀k,k<w.heap.size->d.heap[k]? =w.heap[k]? :=by
 unfold iO e5 at h;split at h
 ·rename_i E H' q;split at h
  ·rename_i aS;split at h
   ·rename_i b' f;split at h
    ·rename_i g;simp only[bn,cM]at h;obtain⟨rfl,rfl⟩:=h;obtain⟨x,d,e,n,p,c⟩:=Kt (Rel.empty ρ w l) aN q z;have j:∀k,¬gX ρ ⟨.leaf,l⟩ k:=by
      rintro k ⟨A,loc,ae,_,_⟩;have s:(⟨.leaf,l⟩:ad).get A=none:=by unfold ad.get;split<;>first|exact bJ.pZ _|rfl
      rcases ae with⟨_,_,h⟩|⟨_,h⟩|⟨_,_,_,h⟩<;>(rw[s]at h;cases h)
     have u:H'.rw l:=by
      cases b' with
      |row ro esz els=>cases ro with
       |true=>cases g
       |false=>exact .inl ⟨_,_,f⟩
      |map es=>exact .inr (.inl ⟨_,f⟩)
      |dz t esz els=>exact .inr (.inr ⟨_,_,_,f⟩)
      |dead=>cases g
     have r:∃loc,e l=D loc/\ib e d loc b':=by
      cases b' with
      |row ro esz els=>exact c.rel.row _ _ _ _ f
      |map es=>exact c.rel.map _ _ f
      |dz t esz els=>exact c.rel.dz _ _ _ _ f
      |dead=>cases g
     obtain⟨loc,m,B⟩:=r;refine⟨x,d,e,loc,n,p,c.le,λk i=>c.keep k ?_,m,?_,g,B,c.os,c.tape,c.output,c.size,λk i=>c.frame k i (j k)⟩
     ·rw[aS];show k<l\/_;omega
     ·exact(c.own loc.block ⟨l,loc,u,m,rfl⟩).resolve_left (j _)
    ·cases h
   ·cases h
  ·cases h
 ·cases h
structure eY(ρ0:Env)(H0:ad)(w0:World)(N:Nat)(hO:Nat->Option bL)(ρ:Env)(H:ad)(w:World):Prop where
 tg:Rel ρ0 H0 w0
 le:ρ0.le ρ
 next:H0.next<=H.next
 keep:∀l,l<H0.next\/N<=l->ρ l=ρ0 l
 rel:Rel ρ H w
 os:w.os=w0.os
 tape:w.tape=w0.tape
 output:w.output=w0.output
 size:w0.heap.size<=w.heap.size
 frame:∀b,b<w0.heap.size->¬gX ρ0 H0 b->w.heap[b]? =w0.heap[b]?
 own:∀b,gX ρ H b->gX ρ0 H0 b\/w0.heap.size<=b
 ro:∀l esz els,H.get l=some (.row true esz els)->H0.get l=some (.row true esz els)
 fresh:∀l,H.next<=l->l<N->hO l=none->ρ l=none
 iA:∀l b,hO l=some b->H.next<=l/\l<N/\b.iZ=true/\∃loc,ρ l=some loc/\ib ρ w loc b/\w0.heap.size<=loc.block/\¬gX ρ H loc.block
 sep:∀l a b b' loc c,hO l=some b->hO a=some b'->l≠a->ρ l=some loc->ρ a=some c->loc.block≠c.block
variable {ρ0:Env}{H0:ad}{w0:World}{N:Nat}{hO:Nat->Option bL}
def eY.start(h:Rel ρ0 H0 w0)(aN:BW ρ0 H0.next N):eY ρ0 H0 w0 N (λ_=>I) ρ0 H0 w0:=
 ⟨h,ρ0.le_refl,b4 _,λ_ _=>rfl,h,rfl,rfl,rfl,b4 _,λ_ _ _=>rfl,λ_ h=> .inl h,λ_ _ _ h=>h,λl a b _=>aN l a b,λ_ _ h=>by simp at h,λ_ _ _ _ _ _ h=>by simp at h⟩
def eY.done(m:eY ρ0 H0 w0 N hO ρ H w)(a:H.next=N):Step ρ0 H0 w0 ρ H w:=
 ⟨m.le,m.next,λl az=>m.keep l (by rw[<-a];exact az),m.rel,m.os,m.tape,m.output,m.size,m.frame,m.own,m.ro⟩
def eY.step{p:Env}{H':ad}{o:World}(m:eY ρ0 H0 w0 N hO ρ H w)(s:Step ρ H w p H' o)(r:H'.next<=N)(v:∀l b,hO l=D b->H'.next<=l):eY ρ0 H0 w0 N hO p H' o where
 tg:=m.tg
 le:=Env.le_trans m.le s.le
 next:=Nat.le_trans m.next s.next
 keep:=λl az=>(s.keep l (az.imp (λh=>Nat.lt_of_lt_of_le h m.next) (λh=>Nat.le_trans r h))).trans (m.keep l az)
 rel:=s.rel
 os:=s.os.trans m.os
 tape:=s.tape.trans m.tape
 output:=s.output.trans m.output
 size:=Nat.le_trans m.size s.size
 frame:=λb d aS=>by
  rw[s.frame b (Nat.lt_of_lt_of_le d m.size) (λa7=>(m.own b a7).elim aS (λhle=>ai)),m.frame b d aS]
 own:=λb d=>(s.own b d).elim (λa7=>m.own b a7) (λhle=> .inr (Nat.le_trans m.size hle))
 ro:=λl esz els e=>m.ro l esz els (s.ro l esz els e)
 fresh:=λl a b c=>by rw[s.keep l (.inr a)];exact m.fresh l (Nat.le_trans s.next a) b c
 iA:=λl b h=>by
  obtain⟨G,x,i,loc,f,j,z,k⟩:=m.iA l b h;have t:=j.lt i;refine⟨v l b h,x,i,loc,s.le _ _ f,j.frame s.le (s.frame _ t k),z,λa7=> ?_⟩;rcases s.own _ a7 with h|h
  ·exact k h
  ·omega
 sep:=λl g b b' loc A h ca u e q=>by
  obtain⟨_,_,_,B,f,_⟩:=m.iA l b h;obtain⟨_,_,_,E,n,_⟩:=m.iA g b' ca;have ae:=s.le _ _ f;rw[e]at ae;cases ae;have ah:=s.le _ _ n;rw[q]at ah;cases ah;exact m.sep l g b b' _ _ h ca u f n
def eY.early{i:Env}{g:World}{l:Nat}{b:bL}{loc:Loc}(m:eY ρ0 H0 w0 N hO ρ H w)(az:H.next<=l)(G:l<N)(W:hO l=I)
  (hle:ρ.le i) (q:∀k,k≠l->i k=ρ k) (v:i l=D loc) (L:w.heap.size<=loc.block) (R:b.iZ=C) (K:ib i g loc b) (O:g.os=w.os) (T:g.tape=w.tape) (P:g.output=w.output)
  (S:w.heap.size<=g.heap.size) (u:∀k,k<w.heap.size->g.heap[k]? =w.heap[k]?):eY ρ0 H0 w0 N (λk=>if k=l then D b else hO k) i H g:=by
 have hold:∀k c,H.live k->i k=D c->ρ k=D c:=λk c q e=>by
  obtain⟨B,f,_⟩:=m.rel.Ae q;have:=hle _ _ f;rw[e]at this;cases this;exact f
 have x:∀k,gX i H k->gX ρ H k:=by
  rintro k ⟨A,c,ae,ah,ak⟩;exact⟨A,c,ae,hold _ _ ae.live ah,ak⟩
 have Q:∀k,gX ρ H k->k<w.heap.size:=by
  rintro k ⟨A,c,ae,ah,ak⟩;obtain⟨B,f,z⟩:=m.rel.Ae ae.live;rw[ah]at f;cases f;rw[<-ak];exact z
 refine⟨m.tg,Env.le_trans m.le hle,m.next,λk h=> ?_,m.rel.grow hle u,O.trans m.os,T.trans m.tape,P.trans m.output,Nat.le_trans m.size S,λk ae ah=> ?_,
  λk h=>m.own k (x k h),m.ro,λk ae ah ak=> ?_,λk b' h=> ?_,λk o s t B Y h ca M e p=> ?_⟩
 ·rw[q k (by have:=m.next;omega)];exact m.keep k h
 ·rw[u k (Nat.lt_of_lt_of_le ae m.size)];exact m.frame k ae ah
 ·by_cases a:k=l
  ·subst a;simp at ak
  ·simp only[a,if_false]at ak;rw[q k a];exact m.fresh k ae ah ak
 ·by_cases a:k=l
  ·subst a;simp only[if_true,bn]at h;subst h;exact⟨az,G,R,loc,v,K,Nat.le_trans m.size L,λa7=>by have:=Q _ (x _ a7);omega⟩
  ·simp only[a,if_false]at h;obtain⟨f,z,j,c,d,n,U,V⟩:=m.iA k b' h;exact⟨f,z,j,c,hle _ _ d,n.frame hle (u _ (n.lt j)),U,λa7=>V (x _ a7)⟩
 ·by_cases a:k=l
  ·by_cases r:o=l
   ·omega
   ·subst a;simp only[r,if_false]at ca;obtain⟨_,_,j,c,d,n,_,_⟩:=m.iA o t ca;have:=hle _ _ d;rw[p]at this;cases this;rw[v]at e;cases e;have:=n.lt j;omega
  ·by_cases r:o=l
   ·subst r;simp only[a,if_false]at h;obtain⟨_,_,j,c,d,n,_,_⟩:=m.iA k s h;have:=hle _ _ d;rw[e]at this;cases this;rw[v]at p;cases p;have:=n.lt j;omega
   ·simp only[a,if_false]at h;simp only[r,if_false]at ca;obtain⟨_,_,_,aa,d,_⟩:=m.iA k s h;obtain⟨_,_,_,ab,E,_⟩:=m.iA o t ca;have ae:=hle _ _ d;rw[e]at ae;cases ae;have ah:=hle _ _ E;rw[p]at ah;cases ah;exact m.sep k o s t _ _ h ca M d E
def eY.I0{b:bL}(m:eY ρ0 H0 w0 N hO ρ H w)(v:hO H.next=D b):eY ρ0 H0 w0 N (λk=>if k=H.next then I else hO k) ρ (H.push b) w:=by
 obtain⟨_,T,L,loc,g,q,M,O⟩:=m.iA _ _ v;have r:∀k,(H.push b).rw k->k≠H.next->H.rw k:=λk h a=>by simpa [ad.rw,ad.eN a]using h
 have x:∀k,(H.push b).live k->k≠H.next->H.live k:=λk h a=>by simpa [ad.live,ad.eN a]using h
 have s:∀k d,H.live k->ρ k=D d->d.block≠loc.block:=by
  intro k d a e heq;by_cases p:H.rw k
  ·exact O ⟨k,d,p,e,heq⟩
  ·rcases a with⟨ro,esz,els,a⟩|a
   ·cases ro with
    |false=>exact p (.inl ⟨_,_,a⟩)
    |true=>
     have K:=m.ro _ _ _ a;obtain⟨U,z,A⟩:=m.tg.Ae (.inl ⟨_,_,_,K⟩);have:=m.le _ _ z;rw[e]at this;cases this;omega
   ·exact p (.inr a)
 have u:∀k,gX ρ (H.push b) k->gX ρ H k\/k=loc.block:=by
  rintro k ⟨c,d,ae,ah,ak⟩;by_cases az:c=H.next
  ·subst az;rw[g]at ah;cases ah;exact .inr ak.symm
  ·exact .inl ⟨c,d,r _ ae az,ah,ak⟩
 refine⟨m.tg,m.le,by have:=m.next;simp;omega,m.keep,⟨λl ro esz els h=> ?_,λl es h=> ?_,λl t esz els h=> ?_,λl c j n h ca o e i=> ?_⟩,m.os,m.tape,m.output,m.size,m.frame,
  λk h=> ?_,λl esz els h=>m.ro l esz els (ad.AS (bL.iZ.ro L) l esz els h),λl ae ah ak=> ?_,λl b' h=> ?_,λl c E G j n h ca o e i=> ?_⟩
 ·by_cases az:l=H.next
  ·subst az;rw[ad.bq]at h;simp only[bn]at h;subst h;exact⟨loc,g,q⟩
  ·rw[ad.eN az]at h;exact m.rel.row _ _ _ _ h
 ·by_cases az:l=H.next
  ·subst az;rw[ad.bq]at h;simp only[bn]at h;subst h;exact⟨loc,g,q⟩
  ·rw[ad.eN az]at h;exact m.rel.map _ _ h
 ·by_cases az:l=H.next
  ·subst az;rw[ad.bq]at h;simp only[bn]at h;subst h;exact⟨loc,g,q⟩
  ·rw[ad.eN az]at h;exact m.rel.dz _ _ _ _ h
 ·by_cases az:l=H.next
  ·by_cases f:c=H.next
   ·omega
   ·subst az;rw[g]at e;cases e;exactλheq=>s c n (x _ ca f) i heq.symm
  ·by_cases f:c=H.next
   ·subst f;rw[g]at i;cases i;exact s l j (r _ h az).live e
   ·exact m.rel.apart l c j n (r _ h az) (x _ ca f) o e i
 ·rcases u k h with h|rfl
  ·exact m.own k h
  ·exact .inr M
 ·simp only[ad.ds]at ae;have az:l≠H.next:=ai
  simp only[az,if_false]at ak;exact m.fresh l ai ah ak
 ·by_cases az:l=H.next
  ·simp[az]at h
  ·simp only[az,if_false]at h;obtain⟨z,A,P,d,B,Q,R,S⟩:=m.iA l b' h;refine⟨by simp;omega,A,P,d,B,Q,R,λa7=> ?_⟩;rcases u _ a7 with ca|ca
   ·exact S ca
   ·exact m.sep l H.next b' b d loc h v az B g ca
 ·by_cases az:l=H.next
  ·simp[az]at h
  ·by_cases f:c=H.next
   ·simp[f]at ca
   ·simp only[az,if_false]at h;simp only[f,if_false]at ca;exact m.sep l c E G j n h ca o e i
end
def jz(P:Program)(H:ad)(r:aa)(name:String):Option (Nat×aa):=
 match r with
 | .iface t v=>(match P.info? t with
  |some i=>(match i.methods.find? (·.name==name)with
   |some m=>(match m.path.toList,m.func,P.underlying t with
    |[],D (f,C),D (.pointer _)=>D (f,v)
    |[],D (f,Z),D (.pointer e)=>(match v with
     | .ptr .. =>(aj P H e v).bind λu=>D (f,u)
     |_=>I)
    |_,_,_=>I)
   |none=>I)
  |none=>I)
 |_=>I
def GM{P:Program}{w:World}{n:Nat}{t:TypeId}{v:Value}{name:String}{i:TypeInfo}{m:Method}{f:FuncId}{b:Bool}(c:P.info? t=D i)(hm:i.methods.find? (·.name==name)=D m)(a:m.path.toList=[])(aN:m.func=D (f,b)){x:Value}
  (aD:(receiverAt t (.val v) b (D ((name.splitOn ".").getLastD name))).run P w= .ok x w):(method (n+1) t v name).run P w= .ok (f,x) w:=by
 have d:m.path.isEmpty=true:=by simpa using a
 have e:(typeInfo t).run P w= .ok i w:=by simp[typeInfo,c]
 unfold method;simp only[Sem.run_bind,e,Result.andThen_ok,hm,a,follow,Sem.run_pure,aN,d,if_true,aD]
def Kp{P:Program}{ρ:Env}{H:ad}{w:World}(z:Rel ρ H w){r u:aa}{dj:Value}{name:String}{f:Nat}(h:jz P H r name=D (f,u))(A:bB ρ r dj)(args:Array Value):
  ∃n,bB ρ u n/\(callMethod dj name args).run P w=(callFunc f (#[n]++args)).run P w:=by
 unfold jz at h;split at h
 ·rename_i t v;cases A with|iface _ _ o b=>
  split at h
  ·rename_i i g;split at h
   ·rename_i m hm;have d:P.types.size+Made.depth=(P.types.size+99)+1:=rfl;split at h
    ·rename_i a aN hu;simp only[bn,cM]at h;obtain⟨rfl,rfl⟩:=h;refine⟨o,b,?_⟩;simp only[callMethod,Sem.run_bind,run_program,Result.andThen_ok,d];rw[GM (x:=o) g hm a aN (by simp only[receiverAt,Sem.run_bind,run_underlying hu,Result.andThen_ok,Place.get,Sem.run_pure])];rfl
    ·rename_i e a aN hu;split at h
     ·rename_i l j c;simp only[dP,bn,cM]at h;obtain⟨E,ae,rfl,rfl⟩:=h;obtain⟨x,p,q⟩:=yW z ae b;cases b with|ptr _ _ _ loc az=>
      refine⟨x,q,?_⟩;have s:(loadVar e ⟨loc.block,loc.off+j*loc.esz+c,I⟩).run P w= .ok x w:=by simpa [Instr.loadAt,Instr.sureAddr]using p
      have B:∀k:String,(Builtin.ssaWrapNilChk_ #[t] t #[.pointer (D ⟨loc.block,loc.off+j*loc.esz+c,I⟩),strVal "",strVal k]).run P w= .ok (.pointer (D ⟨loc.block,loc.off+j*loc.esz+c,I⟩)) w:=λk=>rfl
      simp only[callMethod,Sem.run_bind,run_program,Result.andThen_ok,d];rw[GM (x:=x) g hm a aN (by simp only[receiverAt,Sem.run_bind,run_underlying hu,Result.andThen_ok,Place.get,Sem.run_pure,B,asAddr,s])];rfl
     ·cases h
    ·cases h
   ·cases h
  ·cases h
 ·cases h
def kW(P:Program)(H:ad)(R:bl)(c:Call):Option (Nat×List aa):=
 match c.callee with
 | .value f=>match cb R f with
  |some (.func (.func g) first captured)=>match gP R c.args.toList with
   |some a=>D (g,first++a++captured)
   |none=>I
  |_=>I
 | .invoke r name=>match cb R r with
  |some v=>match jz P H v name,gP R c.args.toList with
   |some (g,u),D a=>D (g,u::a)
   |_,_=>I
  |none=>I
 |_=>I
inductive K where
 |skip
 |pure (v:aa)
 |read (v:aa)
 |new (v:aa) (b:bL)
 |cF (v:aa) (H:ad)
def K.val:K->aa
 | .skip=> .tuple []
 | .pure v=>v
 | .read v=>v
 | .new v _=>v
 | .cF v _=>v
def K.heap(H:ad):K->ad
 | .new _ b=>H.push b
 | .cF _ H'=>H'
 |_=>H
def K.eu:K->Bool
 | .new _ _=>C
 | .cF _ _=>C
 |_=>Z
abbrev an:=Nat->List aa->ad->Option (aa×ad)
def k6:Option aa->Option K
 |some v=>D (.pure v)
 |none=>I
def km:Option aa->Option K
 |some v=>D (.read v)
 |none=>I
def wy:Option (aa×bL)->Option K
 |some (v,b)=>D (.new v b)
 |none=>I
def i_(H:ad):Option (aa×ad)->Option K
 |some (v,H')=>if H.next<=H'.next then D (.cF v H')else I
 |none=>I
inductive eg where
 |pure|read|both|new|write|call
def cls:Op->eg
 | .load .. => .read
 | .lookup .. => .read
 | .alloc _=> .new
 | .box .. => .new
 | .buildSlice .. => .new
 | .makeMap .. => .new
 | .makeSlice .. => .new
 | .store .. => .write
 | .mapUpdate .. => .write
 | .insert .. => .write
 | .convert .. => .both
 | .call c=>match c.callee with
  | .builtin .append=> .write
  | .builtin .clear=> .write
  | .builtin _=> .both
  |_=> .call
 |_=> .pure
def gz(P:Program)(call:an)(o:Op)(R:bl)(H:ad):Option K:=
 match cls o with
 | .pure=>k6 (hF P o R)
 | .read=>km (gD P o R H)
 | .both=>match hF P o R with
  |some v=>D (.pure v)
  |none=>km (gD P o R H)
 | .new=>wy (iO P o R H.next)
 | .write=>i_ H (iS P o R H)
 | .call=>match o with
  | .call c=>match kW P H R c with
   |some (g,a)=>i_ H (call g a H)
   |none=>I
  |_=>I
def n_(o:Op):Bool:=match cls o with
 | .new=>C
 | .write=>C
 | .call=>C
 |_=>Z
def Z4{P:Program}{call:an}{o:Op}{R:bl}{H:ad}{k:K}(h:gz P call o R H=D k)(a:k.eu=C):n_ o=true:=by
 unfold gz at h;unfold n_;split at h
 ·unfold k6 at h;split at h
  ·simp only[bn]at h;subst h;cases a
  ·cases h
 ·unfold km at h;split at h
  ·simp only[bn]at h;subst h;cases a
  ·cases h
 ·split at h
  ·simp only[bn]at h;subst h;cases a
  ·unfold km at h;split at h
   ·simp only[bn]at h;subst h;cases a
   ·cases h
 ·rename_i aA;rw[aA]
 ·rename_i aA;rw[aA]
 ·rename_i aA;rw[aA]
def kU(P:Program)(call:an)(o:Op)(R:bl)(H:ad):K->Prop
 | .skip=>False
 | .pure v=>hF P o R=D v
 | .read v=>gD P o R H=D v
 | .new v b=>iO P o R H.next=D (v,b)
 | .cF v H'=>H.next<=H'.next/\(iS P o R H=D (v,H')\/∃c g a,o= .call c/\kW P H R c=D (g,a)/\call g a H=D (v,H'))
def Z6{P:Program}{call:an}{o:Op}{R:bl}{H:ad}{k:K}(h:gz P call o R H=D k):kU P call o R H k:=by
 unfold gz at h;split at h
 ·unfold k6 at h;split at h
  ·rename_i v a;simp only[bn]at h;subst h;exact a
  ·cases h
 ·unfold km at h;split at h
  ·rename_i v a;simp only[bn]at h;subst h;exact a
  ·cases h
 ·split at h
  ·rename_i v a;simp only[bn]at h;subst h;exact a
  ·unfold km at h;split at h
   ·rename_i v a;simp only[bn]at h;subst h;exact a
   ·cases h
 ·unfold wy at h;split at h
  ·rename_i v b a;simp only[bn]at h;subst h;exact a
  ·cases h
 ·unfold i_ at h;split at h
  ·rename_i v H' a;split at h
   ·rename_i aS;simp only[bn]at h;subst h;exact⟨aS,.inl a⟩
   ·cases h
  ·cases h
 ·split at h
  ·rename_i c _;split at h
   ·rename_i g d aA;unfold i_ at h;split at h
    ·rename_i v H' a;split at h
     ·rename_i aS;simp only[bn]at h;subst h;exact⟨aS,.inr ⟨c,g,d,rfl,aA,a⟩⟩
     ·cases h
    ·cases h
   ·cases h
  ·cases h
section congr
variable {P:Program}{R bm:bl}
def nT:∀{xs:List Operand},(∀x∈xs,cb R x=cb bm x)->gP R xs=gP bm xs
 |[],_=>rfl
 |x::xs,h=>by
  simp only[gP,h x (by simp),nT (xs:=xs) λy a=>h y (by simp[a])]
def y2:∀{xs:List (Nat×Operand)},(∀x∈xs.map (·.2),cb R x=cb bm x)->ik R xs=ik bm xs
 |[],_=>rfl
 |(i,x)::xs,h=>by
  simp only[ik,h x (by simp),y2 (xs:=xs) λy a=>h y (by simp at a ⊢;exact .inr a)]
def y5{x:Option Operand}(h:∀y,x=D y->cb R y=cb bm y):jC R x=jC bm x:=by
 cases x with
 |none=>rfl
 |some x=>simp only[jC,h x rfl]
def KE{o:Op}(h:∀x∈o.operands,cb R x=cb bm x):hF P o R=hF P o bm:=by
 cases o<;>simp only[hF,Op.operands]at h ⊢ <;>first
  |rfl
  |(simp at h;simp[h];done)
  |skip
 ·rename_i t g;rw[y2 λx aD=>h x (by simpa using aD)]
 ·rename_i fn f c;rw[nT λx aD=>h x (by simp at aD ⊢;exact .inl aD),nT (xs:=c.toList) λx aD=>h x (by simp at aD ⊢;exact .inr aD)]
 ·rename_i t x fZ d e;rw[h x (by simp),y5 (x:=fZ) λy a=>h y (by simp[a]),y5 (x:=d) λy a=>h y (by simp[a]),y5 (x:=e) λy a=>h y (by simp[a])]
 ·rename_i c;cases aA:c.callee with
  |builtin b=>
   simp only[Call.operands,aA]at h ⊢;rw[nT λx aD=>h x (by simpa using aD)]
  |value f=>rfl
  |invoke r m=>rfl
def Co{o:Op}{H:ad}(h:∀x∈o.operands,cb R x=cb bm x):gD P o R H=gD P o bm H:=by
 cases o<;>simp only[gD,Op.operands]at h ⊢ <;>first
  |rfl
  |(simp at h;simp[h];done)
  |skip
 ·rename_i c;cases aA:c.callee with
  |builtin b=>
   simp only[Call.operands,aA]at h ⊢;rw[nT λx aD=>h x (by simpa using aD)]
  |value f=>rfl
  |invoke r m=>rfl
def Ks{o:Op}{H:ad}(h:∀x∈o.operands,cb R x=cb bm x):nS P o R H=nS P o bm H:=by
 cases o<;>simp only[nS,Op.operands]at h ⊢ <;>first
  |rfl
  |(simp at h;simp[h];done)
  |skip
 ·rename_i t n a;rw[y2 λx aD=>h x (by simpa using aD)]
 ·rename_i t r;cases r<;>rfl
def Ku{o:Op}{l:Nat}(h:∀x∈o.operands,cb R x=cb bm x):iO P o R l=iO P o bm l:=by
 unfold iO;rw[Ks h]
def KV{o:Op}{H:ad}(h:∀x∈o.operands,cb R x=cb bm x):iS P o R H=iS P o bm H:=by
 cases o<;>simp only[iS,Op.operands]at h ⊢ <;>first
  |rfl
  |(simp at h;simp[h];done)
  |skip
 ·rename_i c;cases aA:c.callee with
  |builtin b=>
   simp only[Call.operands,aA]at h ⊢;cases a:c.args.toList with
   |nil=>cases b<;>rfl
   |cons s r=>
    cases r with
    |nil=>
     have ae:s∈c.args.toList:=by simp[a]
     cases b<;>first
      |rfl
      |(simp only;rw[h s (by simpa using ae)])
    |cons x r=>
     cases r with
     |nil=>
      have ae:s∈c.args.toList:=by simp[a]
      have ah:x∈c.args.toList:=by simp[a]
      cases b<;>first
       |rfl
       |(simp only;rw[h s (by simpa using ae),h x (by simpa using ah)])
     |cons y r=>cases b<;>rfl
  |value f=>rfl
  |invoke r m=>rfl
def JW{c:Call}{H:ad}(h:∀x∈c.operands,cb R x=cb bm x):kW P H R c=kW P H bm c:=by
 unfold kW;cases aA:c.callee with
 |builtin b=>rfl
 |value f=>
  simp only[Call.operands,aA]at h ⊢;rw[h f (by simp),nT λx aD=>h x (by simp at aD ⊢;exact .inr aD)]
 |invoke r m=>
  simp only[Call.operands,aA]at h ⊢;rw[h r (by simp),nT λx aD=>h x (by simp at aD ⊢;exact .inr aD)]
def kU.congr{call:an}{o:Op}{H:ad}{k:K}(h:∀x∈o.operands,cb R x=cb bm x)(a:kU P call o R H k):kU P call o bm H k:=by
 cases k with
 |skip=>exact a
 |pure v=>exact(KE h).symm.trans a
 |read v=>exact(Co h).symm.trans a
 |new v b=>exact(Ku h).symm.trans a
 |cF v H'=>
  obtain⟨ae,ah|⟨c,g,d,rfl,ah,ak⟩⟩:=a
  ·exact⟨ae,.inl ((KV h).symm.trans ah)⟩
  ·exact⟨ae,.inr ⟨c,g,d,rfl,(JW h).symm.trans ah,ak⟩⟩
end congr
def lO(P:Program)(m:Sem Next)(w:World)(next:Value->World->Prop):Prop:=
 match m.run P w with
 | .ok (.value x) a=>next x a
 | .ok (.enter f args) a=>Calls P f args a λ
  | .returned x,b=>next x b
  |_,_=>False
 |_=>False
def fO(E:Env)(P:Program)(g:Nat)(args:List aa)(H:ad)(v:aa)(H':ad):Prop:=∀(ρ:Env) (w:World) (xs:List Value),Rel ρ H w->ha E ρ H.next H'.next->bV ρ args xs->H.next<=H'.next->∀next:Value->World->Prop,(∀x a b,bB b v x->Step ρ H w b H' a->next x a)->lO P (callFunc g xs.toArray) w next
def dT(E:Env)(P:Program)(call:an):Prop:=∀g args H v H',call g args H=D (v,H')->fO E P g args H v H'
section
variable {E:Env}{P:Program}{call:an}{ρ:Env}{H H':ad}{w:World}{R:bl}{a:Act}{o:Oper}{v:aa}{hX:Act->World->Prop}{Q:Exit->Act->World->Prop}
def Gh(h:hF P o.op R=D v)(e:dO ρ R a)(d:∀x,bB ρ v x->hX (a.put o.dst x) w):o.wp P a w hX Q:=by
 obtain⟨x,b,c⟩:=KF h e w;unfold Oper.wp;rw[b];exact d x c
def Gt(d:Rel ρ H w)(h:gD P o.op R H=D v)(f:dO ρ R a)(e:∀x,bB ρ v x->hX (a.put o.dst x) w):o.wp P a w hX Q:=by
 obtain⟨x,b,c⟩:=KK d h f;unfold Oper.wp;rw[b];exact e x c
def Fz{l:Nat}{b:bL}(h:iO P o.op R l=D (v,b))(A:dO ρ R a)(aN:ρ l=I)
  (z:∀x c d loc,bB d v x->ρ.le d->(∀k,k≠l->d k=ρ k)->d l=D loc->w.heap.size<=loc.block->b.iZ=C->ib d c loc b->
   c.os=w.os->c.tape=w.tape->c.output=w.output->w.heap.size<=c.heap.size->(∀k,k<w.heap.size->c.heap[k]? =w.heap[k]?)->hX (a.put o.dst x) c):o.wp P a w hX Q:=by
 obtain⟨x,c,d,loc,e,m,n,p,q,r,s,t,u,f,g,i,j⟩:=Kv h A aN w;unfold Oper.wp;rw[e];exact z x c d loc m n p q r s t u f g i j
def Du(N:dT E P call)(m:Rel ρ H w)(aN:ha E ρ H.next H'.next)(h:kU P call o.op R H (.cF v H'))(l:dO ρ R a)
  (p:∀x b i,bB i v x->Step ρ H w i H' b->hX (a.put o.dst x) b):o.wp P a w hX Q:=by
 obtain⟨aS,ae|⟨c,g,ad,aA,ah,ak⟩⟩:=h
 ·obtain⟨n,x,b,i,S,j,L,M⟩:=KW m ae (aN.new _ (b4 _)) l;unfold Oper.wp;rw[S];unfold BV at j;split at j
  ·subst j;exact p _ b i L M
  ·subst j;exact p _ b i L M
  ·exact j.elim
 ·unfold kW at ah;split at ah
  ·rename_i f t;split at ah
   ·rename_i r first captured V
    split at ah
    ·rename_i aa B;simp only[bn,cM]at ah;obtain⟨rfl,rfl⟩:=ah;have au:=dF l V;have s:=nU l B;generalize he:a.eval f=z at au;cases au with|func _ _ _ T O G K=>
     have d:=N _ _ _ _ _ ak ρ w _ m aN ((G.append s).append K) aS (λx b=>hX (a.put o.dst x) b) (λx b i=>p x b i);have A:(execOp a.eval o).run P w=(callFunc r ((T++c.args.toList.map a.eval++O).toArray)).run P w:=by
      unfold execOp;rw[aA];simp only[resolve,t,he,Deferred.ofValue,pure_bind,invoke]
      congr 2
      rw[map_toArray a.eval];simp
     unfold Oper.wp;rw[A];unfold lO at d;split at d
     ·rename_i e;rw[e];exact d
     ·rename_i e;rw[e];refine Calls.mono d λq ab k=> ?_
      cases q<;>first|exact k|exact k.elim
     ·exact d.elim
    ·cases ah
   ·cases ah
  ·rename_i rv name t;split at ah
   ·rename_i v0 W;split at ah
    ·rename_i r u aa hm B;simp only[bn,cM]at ah;obtain⟨rfl,rfl⟩:=ah;have au:=dF l W;have s:=nU l B;obtain⟨Y,G,K⟩:=Kp m hm au (c.args.toList.map a.eval).toArray;have d:=N _ _ _ _ _ ak ρ w _ m aN (.cons _ _ _ _ G s) aS (λx b=>hX (a.put o.dst x) b) (λx b i=>p x b i);have A:(execOp a.eval o).run P w=(callFunc r ((Y::c.args.toList.map a.eval).toArray)).run P w:=by
      unfold execOp;rw[aA];simp only[resolve,t,pure_bind,invoke];rw[map_toArray a.eval];have U:(#[a.eval rv]++(c.args.toList.map a.eval).toArray)[0]? =D (a.eval rv):=by simp
      have ae:(#[a.eval rv]++(c.args.toList.map a.eval).toArray).extract 1 (#[a.eval rv]++(c.args.toList.map a.eval).toArray).size=(c.args.toList.map a.eval).toArray:=by
       apply Array.ext';simp;exact List.take_of_length_le (by simp)
      rw[U,ae];simp only
      rw[K];simp
     unfold Oper.wp;rw[A];unfold lO at d;split at d
     ·rename_i e;rw[e];exact d
     ·rename_i e;rw[e];refine Calls.mono d λq ab k=> ?_
      cases q<;>first|exact k|exact k.elim
     ·exact d.elim
    ·cases ah
   ·cases ah
  ·cases ah
end
def iq(acc:List Nat):List Edge->Nat
 |[]=>0
 |e::es=>if Region.binds .any e then 2^e.on|||(acc[e.on]?.getD 0|||iq acc es)else iq acc es
def jb:List Oper->List Nat->List Nat
 |[],acc=>acc
 |o::os,acc=>jb os (acc++[iq acc o.after.toList])
def cO(ops:Array Oper):List Nat:=jb ops.toList []
def cV(ms:List Nat)(j i:Nat):Bool:=(ms[i]?.getD 0).testBit j
def Ff:∀(os pre:List Oper) (acc:List Nat),acc.length=pre.length->(∀i o,pre[i]? =D o->acc[i]? =D (iq (acc.take i) o.after.toList))->
  ∀i o,(pre++os)[i]? =D o->(jb os acc)[i]? =D (iq ((jb os acc).take i) o.after.toList)
 |[],pre,acc,az,h,i,o,a7=>by simpa [jb]using h i o (by simpa using a7)
 |p::os,pre,acc,az,h,i,o,a7=>by
  unfold jb;refine Ff os (pre++[p]) _ (by simp[az]) (λj q a=> ?_) i o (by simpa using a7);rcases Nat.lt_or_ge j pre.length with c|b
  ·rw[List.getElem?_append_left c]at a;rw[List.getElem?_append_left ai,h j q a,List.take_append_of_le_length ai]
  ·rw[List.getElem?_append_right b]at a;have:j=pre.length:=by
    have:=(List.getElem?_eq_some_iff.1 a).1;simp at this;omega
   subst this;simp at a;subst a;rw[List.getElem?_append_right ai,<-az];simp
def wP{ops:Array Oper}{i:Nat}{o:Oper}(h:ops[i]? =D o):(cO ops)[i]? =D (iq ((cO ops).take i) o.after.toList):=
 Ff ops.toList [] [] rfl (by simp) i o (by simpa using h)
def vQ{acc:List Nat}{e:Edge}:∀{es:List Edge},e∈es->Region.binds .any e=C->(iq acc es).testBit e.on=C
 |[],h,_=>by simp at h
 |d::es,h,a=>by
  unfold iq;rcases List.mem_cons.1 h with rfl|h
  ·rw[if_pos a];simp[Nat.testBit_two_pow_self]
  ·split
   ·simp[vQ h a]
   ·exact vQ h a
def vP{acc:List Nat}{j:Nat}:∀{es:List Edge},(iq acc es).testBit j=C->∃e∈es,Region.binds .any e=C/\(j=e.on\/(acc[e.on]?.getD 0).testBit j=C)
 |[],h=>by simp[iq]at h
 |d::es,h=>by
  unfold iq at h;split at h
  ·rename_i a;simp only[Nat.testBit_or,Bool.or_eq_true]at h;rcases h with h|h|h
   ·refine⟨d,by simp,a,.inl ?_⟩;rw[Nat.testBit_two_pow]at h;simpa using(of_decide_eq_true h).symm
   ·exact⟨d,by simp,a,.inr h⟩
   ·obtain⟨e,ae,ah,ak⟩:=vP h;exact⟨e,by simp[ae],ah,ak⟩
  ·obtain⟨e,ae,ah,ak⟩:=vP h;exact⟨e,by simp[ae],ah,ak⟩
def jw(L:Nat->Bool)(o:Oper):Prop:=∀e∈o.after,Region.binds .any e=C->L e.on=C
def sg(ops:Array Oper)(L:Nat->Bool):Prop:=∀i o,ops[i]? =D o->L i=C->jw L o
def kh{ops:Array Oper}{L:Nat->Bool}(aA:sg ops L):∀(i:Nat) (o:Oper),ops[i]? =D o->jw L o->∀j,cV (cO ops) j i=C->L j=true:=by
 intro i
 induction i using Nat.strongRecOn with
 |_ i c=>
  intro o a7 hw j a;unfold cV at a;rw[wP a7]at a;simp only[Option.getD_some]at a;obtain⟨e,ae,ah,ak⟩:=vP a;have d:=hw e (by simpa using ae) ah;rcases ak with rfl|ak
  ·exact d
  ·rcases Nat.lt_or_ge e.on i with f|k
   ·rw[List.getElem?_take_of_lt f]at ak;cases b:ops[e.on]? with
    |none=>
     cases hm:(cO ops)[e.on]? with
     |none=>rw[hm]at ak;simp at ak
     |some m=>
      exfalso;have hlen:∀(os:List Oper) (acc:List Nat),(jb os acc).length=acc.length+os.length:=by
       intro os
       induction os with
       |nil=>intro acc;simp[jb]
       |cons o os c=>intro acc;simp[jb,c];omega
      have au:=(List.getElem?_eq_some_iff.1 hm).1;have g:(cO ops).length=ops.size:=by unfold cO;rw[hlen];simp
      have h:ops.size<=e.on:=by simpa using b
      omega
    |some fj=>exact c e.on f fj b (aA _ _ b d) j ak
   ·rw[List.getElem?_eq_none (by simp;omega)]at ak;simp at ak
def K7{ops:Array Oper}{i:Nat}{o:Oper}(a7:ops[i]? =D o){e:Edge}(he:e∈o.after)(a:Region.binds .any e=C):cV (cO ops) e.on i=true:=by
 unfold cV;rw[wP a7];exact vQ (by simpa using he) a
def hG(ops:Array Oper)(R:bl)(o:Oper):Bool:=
 match o.guard with
 |none=>C
 |some (j,want)=>match ops[j]? with
  |some q=>(match q.dst with
   |some d=>(match R.get d with
    | .bool b=>b==want
    |_=>Z)
   |none=>Z)
  |none=>Z
def CA{ρ:Env}{ops:Array Oper}{R:bl}{a:Act}(e:dO ρ R a)(o:Oper):Region.wanted o (yielded ops a.tmps)=hG ops R o:=by
 unfold Region.wanted hG;cases g:o.guard with
 |none=>rfl
 |some p=>
  obtain⟨j,want⟩:=p;simp only
  unfold yielded;cases h:ops[j]? with
  |none=>simp
  |some q=>
   cases b:q.dst with
   |none=>simp[b]
   |some d=>
    simp only[Option.bind_some,b];have ae:=e.get d;rw[Array.getD_eq_getD_getElem?]at ae;cases c:a.tmps[d]? with
    |none=>
     rw[c]at ae;simp only[Option.getD_none]at ae;generalize f:R.get d=v at ae;cases v<;>first|rfl|(exfalso;cases ae)
    |some x=>
     rw[c]at ae;simp only[Option.getD_some]at ae;generalize f:R.get d=v at ae;cases ae<;>first|rfl|(simp;done)
def KU{ops:Array Oper}{R bm:bl}{o:Oper}(h:∀d∈o.looksAt ops,R.get d=bm.get d):hG ops R o=hG ops bm o:=by
 unfold hG;cases b:o.guard with
 |none=>rfl
 |some p=>
  obtain⟨j,want⟩:=p;simp only
  cases c:ops[j]? with
  |none=>rfl
  |some q=>
   cases a:q.dst with
   |none=>simp[a]
   |some d=>
    simp only[a];rw[h d (by simp[Oper.looksAt,b,c,a])]
def KS{ops:Array Oper}{R bm:bl}{o:Oper}(h:∀d∈o.looksAt ops,R.get d=bm.get d):∀x∈o.op.operands,cb R x=cb bm x:=by
 intro x aD;cases x with
 |tmp t=>
  simp only[cb];rw[h t ?_];unfold Oper.looksAt;refine List.mem_append.2 (.inl ?_);rw[List.mem_filterMap];exact⟨.tmp t,by simpa using aD,rfl⟩
 |const v=>rfl
 |global g=>rfl
 |func f=>rfl
structure bN where
 i:Nat
 o:Oper
 R:bl
 k:K
def e2(P:Program)(call:an)(ops:Array Oper)(o:Oper)(R:bl)(H:ad):Option K:=
 match hG ops R o with
 |true=>gz P call o.op R H
 |false=>D .skip
def canRun(P:Program)(call:an)(ops:Array Oper):List Nat->bl->ad->Option (List bN×bl×ad)
 |[],R,H=>D ([],R,H)
 |i::is,R,H=>match ops[i]? with
  |none=>I
  |some o=>match e2 P call ops o R H with
   |none=>I
   |some k=>match R.put o.dst k.val with
    |none=>I
    |some bm=>match canRun P call ops is bm (k.heap H)with
     |none=>I
     |some (T,cy,cZ)=>D (⟨i,o,R,k⟩::T,cy,cZ)
def cB:List bN->ad->ad
 |[],H=>H
 |t::ts,H=>cB ts (t.k.heap H)
def jK(A B:List bN)(H:ad):cB (A++B) H=cB B (cB A H):=by
 induction A generalizing H with
 |nil=>rfl
 |cons t A a=>simp[cB,a]
def eV(L:Nat->Bool)(d:Nat):List bN->aa->aa
 |[],v=>v
 |t::ts,v=>eV L d ts (if L t.i=C/\t.o.dst=D d then t.k.val else v)
def ld(L:Nat->Bool)(d:Nat)(A B:List bN)(v:aa):eV L d (A++B) v=eV L d B (eV L d A v):=by
 induction A generalizing v with
 |nil=>rfl
 |cons t A a=>simp[eV,a]
def te{L L':Nat->Bool}{d:Nat}:∀{A:List bN} {v:aa},(∀t∈A,t.o.dst=D d->L t.i=L' t.i)->eV L d A v=eV L' d A v
 |[],_,_=>rfl
 |t::A,v,h=>by
  simp only[eV];have:(L t.i=C/\t.o.dst=D d)↔(L' t.i=C/\t.o.dst=D d):=by
   constructor
   ·rintro⟨ae,ah⟩;exact⟨by rw[<-h t (by simp) ah];exact ae,ah⟩
   ·rintro⟨ae,ah⟩;exact⟨by rw[h t (by simp) ah];exact ae,ah⟩
  simp only[this];exact te λu hu=>h u (by simp[hu])
def tf{L:Nat->Bool}{d:Nat}:∀{A:List bN} {v:aa},(∀t∈A,t.o.dst=D d->L t.i=Z)->eV L d A v=v
 |[],_,_=>rfl
 |t::A,v,h=>by
  simp only[eV];rw[if_neg (by rintro⟨ae,ah⟩;rw[h t (by simp) ah]at ae;cases ae)];exact tf λu hu=>h u (by simp[hu])
def iT{P:Program}{call:an}{ops:Array Oper}:∀{is:List Nat} {R:bl} {H:ad} {T:List bN} {cy:bl} {cZ:ad},canRun P call ops is R H=D (T,cy,cZ)->
  T.map (·.i)=is/\cZ=cB T H/\cy.size=R.size/\∀d,cy.get d=eV (λ_=>C) d T (R.get d)
 |[],R,H,T,cy,cZ,h=>by
  simp only[canRun,bn,cM]at h;obtain⟨rfl,rfl,rfl⟩:=h;exact⟨rfl,rfl,rfl,λ_=>rfl⟩
 |i::is,R,H,T,cy,cZ,h=>by
  simp only[canRun]at h;split at h
  ·cases h
  ·rename_i o a7;split at h
   ·cases h
   ·rename_i k m;split at h
    ·cases h
    ·rename_i bm a;split at h
     ·cases h
     ·rename_i l j g ca;simp only[bn,cM]at h;obtain⟨rfl,rfl,rfl⟩:=h;obtain⟨b,c,e,f⟩:=iT ca;refine⟨by simp[b],c,by rw[e,bl.size_put a],λd=> ?_⟩;rw[f d,bl.p0 a d];simp[eV]
def vI{P:Program}{call:an}{ops:Array Oper}:∀{A:List bN} {is:List Nat} {R:bl} {H:ad} {t:bN} {B:List bN} {cy:bl} {cZ:ad},canRun P call ops is R H=D (A++t::B,cy,cZ)->
  ops[t.i]? =D t.o/\(∀d,t.R.get d=eV (λ_=>C) d A (R.get d))/\e2 P call ops t.o t.R (cB A H)=D t.k/\(∀d,t.o.dst=D d->d<R.size)
 |A,[],R,H,t,B,cy,cZ,h=>by
  simp only[canRun,bn,cM]at h;have:=h.1;simp at this
 |A,i::is,R,H,t,B,cy,cZ,h=>by
  simp only[canRun]at h;split at h
  ·cases h
  ·rename_i o a7;split at h
   ·cases h
   ·rename_i k j;split at h
    ·cases h
    ·rename_i bm a;split at h
     ·cases h
     ·rename_i n m l ca;simp only[bn,cM]at h;obtain⟨ae,rfl,rfl⟩:=h;cases A with
      |nil=>
       simp only[List.nil_append,List.cons.injEq]at ae;obtain⟨rfl,rfl⟩:=ae;refine⟨a7,λ_=>rfl,j,λd b=> ?_⟩;simp only at b;rw[b]at a;exact bl.Gj a
      |cons u A=>
       simp only[List.cons_append,List.cons.injEq]at ae;obtain⟨rfl,rfl⟩:=ae;obtain⟨c,e,f,g⟩:=vI ca;refine⟨c,λd=> ?_,f,λd b=>by rw[<-bl.size_put a];exact g d b⟩;rw[e d,bl.p0 a d];simp[eV]
def eJ:ad->List bN->Prop
 |_,[]=>True
 |H,t::ts=>H.next<=(t.k.heap H).next/\eJ (t.k.heap H) ts
def eJ.append:∀{A B:List bN} {H:ad},eJ H (A++B)->eJ H A/\eJ (cB A H) B
 |[],_,_,h=>⟨trivial,h⟩
 |_::A,_,_,h=>by
  obtain⟨ae,ah⟩:=h;obtain⟨ak,au⟩:=eJ.append (A:=A) ah;exact⟨⟨ae,ak⟩,au⟩
def eJ.le:∀{A:List bN} {H:ad},eJ H A->H.next<=(cB A H).next
 |[],_,_=>b4 _
 |_::A,_,h=>Nat.le_trans h.1 (eJ.le (A:=A) h.2)
def p5{P:Program}{call:an}{ops:Array Oper}{o:Oper}{R:bl}{H:ad}{k:K}(h:e2 P call ops o R H=D k):
  (hG ops R o=C/\kU P call o.op R H k)\/(hG ops R o=Z/\k= .skip):=by
 unfold e2 at h;split at h
 ·rename_i hw;exact .inl ⟨hw,Z6 h⟩
 ·rename_i hw;simp only[bn]at h;exact .inr ⟨hw,h.symm⟩
def EG{P:Program}{call:an}{ops:Array Oper}{o:Oper}{R:bl}{H:ad}{k:K}(h:e2 P call ops o R H=D k)(a:k.eu=C):n_ o.op=true:=by
 unfold e2 at h;split at h
 ·exact Z4 h a
 ·simp only[bn]at h;subst h;cases a
def zN{P:Program}{call:an}{ops:Array Oper}{o:Oper}{R:bl}{H:ad}{k:K}(h:e2 P call ops o R H=D k):H.next<=(k.heap H).next:=by
 rcases p5 h with⟨_,h⟩|⟨_,rfl⟩
 ·cases k with
  |cF v H'=>exact h.1
  |new v b=>simp[K.heap]
  |_=>exact b4 _
 ·exact b4 _
def pL{P:Program}{call:an}{ops:Array Oper}:∀{is:List Nat} {R:bl} {H:ad} {T:List bN} {cy:bl} {cZ:ad},canRun P call ops is R H=D (T,cy,cZ)->eJ H T
 |[],R,H,T,cy,cZ,h=>by
  simp only[canRun,bn,cM]at h;obtain⟨rfl,rfl,rfl⟩:=h;trivial
 |i::is,R,H,T,cy,cZ,h=>by
  simp only[canRun]at h;split at h
  ·cases h
  ·rename_i o a7;split at h
   ·cases h
   ·rename_i k a;split at h
    ·cases h
    ·split at h
     ·cases h
     ·rename_i d c b ca;simp only[bn,cM]at h;obtain⟨rfl,rfl,rfl⟩:=h;exact⟨zN a,pL ca⟩
def dH(L:Nat->Bool):List bN->ad->Nat->Option bL
 |[],_,_=>I
 |t::ts,H,l=>match t.k with
  | .new _ b=>if l=H.next then(if L t.i=C then D b else I)else dH L ts (H.push b) l
  |k=>dH L ts (k.heap H) l
def s9{L:Nat->Bool}:∀{T:List bN} {H:ad} {l:Nat} {b:bL},eJ H T->dH L T H l=D b->H.next<=l
 |[],_,_,_,_,h=>by cases h
 |t::ts,H,l,b,hm,h=>by
  unfold dH at h;split at h
  ·rename_i v b' a;split at h
   ·omega
   ·have:=s9 (by have:=hm.2;rwa[a]at this) h;simp at this;omega
  ·have ae:=hm.1;have:=s9 hm.2 h;omega
def s8{L L':Nat->Bool}:∀{T:List bN} {H:ad},(∀t∈T,∀v b,t.k= .new v b->L t.i=L' t.i)->dH L T H=dH L' T H
 |[],_,_=>rfl
 |t::ts,H,h=>by
  funext l
  unfold dH;split
  ·rename_i v b a;rw[h t (by simp) v b a,s8 (T:=ts) (λu hu=>h u (by simp[hu]))]
  ·rw[s8 (T:=ts) (λu hu=>h u (by simp[hu]))]
def qb{L:Nat->Bool}{t:bN}{ts:List bN}{H:ad}(h:∀v b,t.k≠ .new v b):dH L (t::ts) H=dH L ts (t.k.heap H):=by
 funext l
 show(match t.k with
  | .new _ b=>if l=H.next then(if L t.i=C then D b else I)else dH L ts (H.push b) l
  |k=>dH L ts (k.heap H) l)=_
 split
 ·rename_i v b a;exact absurd a (h v b)
 ·rfl
def Ga{L L':Nat->Bool}{t:bN}{v:aa}{b:bL}(j:t.k= .new v b)(g:L t.i=Z)(l:L' t.i=C):∀{zC zD:List bN} {H:ad},eJ H (zC++t::zD)->
  (∀u∈zC,L u.i=L' u.i)->(∀u∈zD,L u.i=L' u.i)->
  dH L' (zC++t::zD) H=(λk=>if k=(cB zC H).next then D b else dH L (zC++t::zD) H k)/\dH L (zC++t::zD) H (cB zC H).next=I
 |[],zD,H,hm,e,f=>by
  constructor
  ·funext k
   simp only[List.nil_append,cB,dH,j,g,l,if_true,Bool.false_eq_true,if_false];rw[s8 (T:=zD) λu hu _ _ _=>f u hu];split<;>rfl
  ·simp[dH,j,g,cB]
 |c::zC,zD,H,hm,e,f=>by
  obtain⟨ae,ah⟩:=hm;obtain⟨a,d⟩:=Ga j g l (zC:=zC) (zD:=zD) ah (λu hu=>e u (by simp[hu])) f;by_cases aA:∃n b',c.k= .new n b'
  ·obtain⟨n,b',aA⟩:=aA;have hle:(c.k.heap H).next<=(cB zC (c.k.heap H)).next:=(eJ.append ah).1.le
   rw[aA]at a d hle;simp only[K.heap,ad.ds]at hle a d;constructor
   ·funext k
    simp only[List.cons_append,dH,aA,cB,K.heap];rw[<-e c (by simp),a];by_cases m:k=H.next
    ·subst m;simp only[if_true];by_cases aD:H.next=(cB zC (H.push b')).next
     ·omega
     ·simp only[aD,if_false]
    ·simp only[m,if_false];by_cases aD:k=(cB zC (H.push b')).next
     ·simp only[aD,if_true]
     ·simp only[aD,if_false]
   ·simp only[List.cons_append,dH,aA,cB,K.heap];rw[if_neg ai];exact d
  ·have aS:∀v b,c.k≠ .new v b:=λv b h=>aA ⟨v,b,h⟩
   rw[List.cons_append,qb aS,qb aS,cB];exact⟨a,d⟩
section
mutual
def aa.beq:aa->aa->Bool
 | .bool a,.bool b=>a==b
 | .int k n,.int o m=>decide (k=o)&&decide (n=m)
 | .str s,.str t=>decide (s=t)
 | .ptr l i c,.ptr d g f=>decide (l=d)&&decide (i=g)&&decide (c=f)
 | .fD,.fD=>C
 | .aJ l i n e c,.aJ d g p j f=>decide (l=d)&&decide (i=g)&&decide (n=p)&&decide (e=j)&&decide (c=f)
 | .aB,.aB=>C
 | .map l,.map d=>decide (l=d)
 | .hv,.hv=>C
 | .nilFunc,.nilFunc=>C
 | .iface t v,.iface q r=>decide (t=q)&&aa.beq v r
 | .nilIface,.nilIface=>C
 | .agg xs,.agg h=>eE.beq xs h
 | .tuple xs,.tuple h=>eE.beq xs h
 |_,_=>Z
def eE.beq:List aa->List aa->Bool
  |[],[]=>C
  |x::xs,y::a=>aa.beq x y&&eE.beq xs a
  |_,_=>Z
 end
mutual
def aa.beq_eq:∀{a b:aa},aa.beq a b=C->a=b:=by
 intro a b h;cases a<;>cases b<;>simp only[aa.beq]at h<;>first
  |(cases h;done)
  |rfl
  |(simp at h;simp[h];done)
  |skip
 ·simp only[Bool.and_eq_true,decide_eq_true_eq]at h;obtain⟨rfl,h⟩:=h;rw[aa.beq_eq h]
 ·rw[eE.beq_eq h]
 ·rw[eE.beq_eq h]
def eE.beq_eq:∀{a b:List aa},eE.beq a b=C->a=b:=by
  intro a b h;cases a with
  |nil=>cases b with
   |nil=>rfl
   |cons y c=>simp[eE.beq]at h
  |cons x xs=>cases b with
   |nil=>simp[eE.beq]at h
   |cons y c=>
    simp only[eE.beq,Bool.and_eq_true]at h;rw[aa.beq_eq h.1,eE.beq_eq h.2]
 end
def s7(ops:Array Oper)(ms:List Nat)(i j:Nat):Bool:=
 match ops[i]?,ops[j]? with
 |some o,D q=>(i != j)&&(!cV ms j i)&&(cV ms i j||o.apart ops q)
 |_,_=>Z
def w3(ops:Array Oper)(ms:List Nat):List Nat->Bool
 |[]=>C
 |i::is=>is.all (s7 ops ms i)&&w3 ops ms is
def F9{ops:Array Oper}{ms:List Nat}:∀{is:List Nat},w3 ops ms is=C->is.Pairwise λi j=>s7 ops ms i j=C
 |[],_=> .nil
 |i::is,h=>by
  simp only[w3,Bool.and_eq_true,List.all_eq_true]at h;exact .cons h.1 (F9 h.2)
def Ds(n:Nat)(o:Oper):Bool:=o.after.toList.all λe=> !Region.binds .any e||decide (e.on<n)
def ou(ops:Array Oper)(ms ord:List Nat):Bool:=(List.range ops.size).all (λi=>ord.contains i)&&(ord.all (λi=> !cV ms i i)&&(ops.toList.all (Ds ops.size)&&w3 ops ms ord))
def hI(ms:List Nat):List bN->List Nat->Bool
 |[],_=>C
 |t::ts,ids=>match t.k with
  | .cF _ _=>ids.all (λj=>cV ms j t.i)&&hI ms ts (t.i::ids)
  | .new _ _=>hI ms ts (t.i::ids)
  |_=>hI ms ts ids
def vR{ms:List Nat}:∀{A:List bN} {t:bN} {B:List bN} {ids:List Nat} {v:aa} {H:ad},hI ms (A++t::B) ids=C->t.k= .cF v H->
  (∀j∈ids,cV ms j t.i=C)/\∀u∈A,u.k.eu=C->cV ms u.i t.i=C
 |[],t,B,ids,v,H,h,d=>by
  simp only[List.nil_append,hI,d,Bool.and_eq_true,List.all_eq_true]at h;exact⟨h.1,λu hu=>by simp at hu⟩
 |c::A,t,B,ids,v,H,h,d=>by
  simp only[List.cons_append,hI]at h;split at h
  ·simp only[Bool.and_eq_true]at h;obtain⟨ae,ah⟩:=vR h.2 d;refine⟨λj e=>ae j (by simp[e]),λu hu a=> ?_⟩;rcases List.mem_cons.1 hu with rfl|hu
   ·exact ae _ (by simp)
   ·exact ah u hu a
  ·obtain⟨ae,ah⟩:=vR h d;refine⟨λj e=>ae j (by simp[e]),λu hu a=> ?_⟩;rcases List.mem_cons.1 hu with rfl|hu
   ·exact ae _ (by simp)
   ·exact ah u hu a
  ·rename_i g l;obtain⟨ae,ah⟩:=vR h d;refine⟨ae,λu hu a=> ?_⟩;rcases List.mem_cons.1 hu with rfl|hu
   ·exfalso;cases f:u.k with
    |new v b=>exact l v b f
    |cF v H=>exact g v H f
    |_=>rw[f]at a;cases a
   ·exact ah u hu a
def fk(ms:List Nat)(rd:ad->Bool)(i:Nat):List bN->ad->Bool
 |[],H=>rd H
 |t::ts,H=>if t.k.eu then(cV ms t.i i||rd H)&&(cV ms i t.i||fk ms rd i ts (t.k.heap H))else fk ms rd i ts H
def wc{k:K}(h:k.eu=Z)(H:ad):k.heap H=H:=by
 cases k<;>first|rfl|cases h
def BJ{ms:List Nat}{rd:ad->Bool}{i:Nat}:∀{A B:List bN} {H:ad},fk ms rd i (A++B) H=C->(∀u∈A,u.k.eu=C->cV ms i u.i=Z)->
  (∀u d,B=u::d->u.k.eu=C/\cV ms u.i i=Z)->rd (cB A H)=C
 |[],[],H,h,_,_=>h
 |[],u::B,H,h,_,a=>by
  obtain⟨ae,ah⟩:=a u B rfl;simp only[List.nil_append,fk,ae,if_true,Bool.and_eq_true,Bool.or_eq_true,ah]at h;simpa [cB]using h.1
 |t::A,B,H,h,b,a=>by
  simp only[List.cons_append,fk]at h;split at h
  ·rename_i c;simp only[Bool.and_eq_true,Bool.or_eq_true,b t (by simp) c]at h;rw[cB];exact BJ (h.2.resolve_left (by simp)) (λu hu=>b u (by simp[hu])) a
  ·rename_i c;rw[cB,wc (by simpa using c)];exact BJ h (λu hu=>b u (by simp[hu])) a
def iB(P:Program)(o:Op)(R:bl)(v:aa)(H:ad):Bool:=
 match gD P o R H with
 |some u=>aa.beq u v
 |none=>Z
def Gs{P:Program}{o:Op}{R:bl}{v:aa}{H:ad}(h:iB P o R v H=C):gD P o R H=D v:=by
 unfold iB at h;split at h
 ·rename_i u hu;rw[hu,aa.beq_eq h]
 ·cases h
def ad.only(H:ad):ad:=match H.get (H.next-1)with
 |some b=>⟨bJ.put b H.next .leaf (H.next-1),H.next⟩
 |none=>⟨.leaf,H.next⟩
def ad.s6{H:ad}{b:bL}{l:Nat}{x:bL}(h:(H.push b).only.get l=D x):l=H.next/\x=b:=by
 have e:(H.push b).get ((H.push b).next-1)=D b:=ad.bq H b;unfold ad.only at h;rw[e]at h;simp only[ad.get,ad.ds,Nat.add_sub_cancel]at h;split at h
 ·by_cases az:H.next=l
  ·subst az;rw[bJ.sK _ _ _ _ ai]at h;exact⟨rfl,by simpa using h.symm⟩
  ·rw[bJ.p1 _ _ _ _ _ az]at h;rw[bJ.pZ]at h;cases h
 ·cases h
def l9(k:K):Bool:=match k with
 | .cF _ _=>Z
 |_=>C
def lV(ms:List Nat)(i:Nat):List bN->Bool->Bool
 |[],_=>Z
 |t::ts,s=>match t.k with
  | .new _ _=>(s&&cV ms t.i i&&ts.all λu=>l9 u.k)||lV ms i ts (s|| !cV ms t.i i)
  | .cF _ _=>lV ms i ts (s|| !cV ms t.i i)
  |_=>lV ms i ts s
def jX(ms:List Nat)(rd:ad->Bool)(i:Nat):List bN->ad->Bool->Bool
 |[],_,_=>Z
 |t::ts,H,s=>match t.k with
  | .new _ b=>bif s&&cV ms t.i i&&ts.all (λu=>l9 u.k)then rd (H.push b).only||jX ms rd i ts (H.push b) (s|| !cV ms t.i i)else jX ms rd i ts (H.push b) (s|| !cV ms t.i i)
  | .cF _ H'=>jX ms rd i ts H' (s|| !cV ms t.i i)
  |_=>jX ms rd i ts H s
def Fx{ms:List Nat}{rd:ad->Bool}{i:Nat}:∀{T:List bN} {H:ad} {s:Bool},jX ms rd i T H s=C->
  ∃A u B v b,T=A++u::B/\u.k= .new v b/\cV ms u.i i=C/\(∀x∈B,l9 x.k=C)/\rd ((cB A H).push b).only=C
 |[],H,s,h=>by cases h
 |t::ts,H,s,h=>by
  have c:∀{H':ad} {f:Bool},t.k.heap H=H'->jX ms rd i ts H' f=C->∃A u B v b,t::ts=A++u::B/\u.k= .new v b/\cV ms u.i i=C/\(∀x∈B,l9 x.k=C)/\rd ((cB A H).push b).only=true:=by
   intro H' f e ca;obtain⟨A,u,B,v,b,g,j,l,m,n⟩:=Fx ca;exact⟨t::A,u,B,v,b,by rw[g];rfl,j,l,m,by rw[cB,e];exact n⟩
  unfold jX at h;split at h
  ·rename_i v b a;have d:t.k.heap H=H.push b:=by rw[a];rfl
   cases aA:(s&&cV ms t.i i&&ts.all λu=>l9 u.k)with
   |true=>
    rw[aA,gG,Bool.or_eq_true]at h;simp only[Bool.and_eq_true,List.all_eq_true]at aA;rcases h with h|h
    ·exact⟨[],t,ts,v,b,rfl,a,aA.1.2,aA.2,h⟩
    ·exact c d h
   |false=>rw[aA,jF]at h;exact c d h
  ·rename_i v H' a;exact c (by rw[a];rfl) h
  ·rename_i ae ah;refine c (wc ?_ H) h;cases a:t.k with
   |new v b=>exact absurd a (ae v b)
   |cF v H'=>exact absurd a (ah v H')
   |_=>rfl
def pc(ms:List Nat)(rd:ad->Bool)(i:Nat)(T:List bN)(H:ad):Bool:=bif lV ms i T Z then fk ms rd i T H||jX ms rd i T H Z else fk ms rd i T H
def ZE{ms:List Nat}{rd:ad->Bool}{i:Nat}{T:List bN}{H:ad}(h:pc ms rd i T H=C):fk ms rd i T H=C\/jX ms rd i T H Z=true:=by
 unfold pc at h;cases aA:lV ms i T Z with
 |true=>rw[aA,gG,Bool.or_eq_true]at h;exact h
 |false=>rw[aA,jF]at h;exact .inl h
def jq(P:Program)(ms:List Nat)(a:Nat->Bool)(T:List bN)(H:ad):List bN->Bool
 |[]=>C
 |t::ts=>(match t.k with
  | .read v=>a t.i||pc ms (iB P t.o.op t.R v) t.i T H
  |_=>C)&&jq P ms a T H ts
def Jo{P:Program}{ms:List Nat}{a:Nat->Bool}{T:List bN}{H:ad}{t:bN}{v:aa}(b:t.k= .read v):∀{ts:List bN},jq P ms a T H ts=C->t∈ts->a t.i=C\/pc ms (iB P t.o.op t.R v) t.i T H=C
 |[],_,hm=>by simp at hm
 |u::ts,h,hm=>by
  simp only[jq,Bool.and_eq_true]at h;rcases List.mem_cons.1 hm with rfl|hm
  ·have:=h.1;rw[b]at this;simpa using this
  ·exact Jo b h.2 hm
section
variable {P:Program}{call:an}{ops:Array Oper}{ord:List Nat}{c9 cy:bl}{H0 cZ:ad}{T:List bN}{ρ0:Env}{w0:World}{Q:Exit->Act->World->Prop}
def cR(a:Array Bool)(i:Nat):Bool:=a.getD i Z
def F7{i j:Nat}{o q:Oper}(a:ops[i]? =D o)(b:ops[j]? =D q)(h:s7 ops (cO ops) i j=C):
  i≠j/\cV (cO ops) j i=Z/\(cV (cO ops) i j=C\/o.apart ops q=C):=by
 unfold s7 at h;rw[a,b]at h;simp only[Bool.and_eq_true,bne_iff_ne,ne_eq,Bool.not_eq_true',Bool.or_eq_true]at h;exact⟨h.1.1,h.1.2,h.2⟩
def g9(ops:Array Oper)(ms ord:List Nat)(i:Nat):Bool:=
 ord.all λj=>(j==i)||(match ops[j]? with|some o=> !n_ o.op|none=>C)||cV ms j i||cV ms i j
def aaG{ms ord:List Nat}{i j:Nat}{o:Oper}(h:g9 ops ms ord i=C)(b:j∈ord)(c:j≠i)(a7:ops[j]? =D o)(a:n_ o.op=C):cV ms j i=C\/cV ms i j=true:=by
 unfold g9 at h;rw[List.all_eq_true]at h;have:=h j b;rw[a7]at this;simpa [c,a]using this
structure Ctx(P:Program)(call:an)(ops:Array Oper)(ord:List Nat)(c9:bl)(H0:ad)(T:List bN)(cy:bl)(cZ:ad):Prop where
 dp:canRun P call ops ord c9 H0=some (T,cy,cZ)
 AI:ou ops (cO ops) ord=true
 cF:hI (cO ops) T []=true
 iJ:jq P (cO ops) (g9 ops (cO ops) ord) T H0 T=true
def Ctx.F8(c:Ctx P call ops ord c9 H0 T cy cZ):T.Pairwise λt u=>s7 ops (cO ops) t.i u.i=true:=by
 have h:=c.AI;simp only[ou,Bool.and_eq_true]at h;have ah:=F9 h.2.2.2;rw[<-(iT c.dp).1]at ah;exact(List.pairwise_map.1 ah)
def Ctx.at(c:Ctx P call ops ord c9 H0 T cy cZ){A B:List bN}{t:bN}(h:T=A++t::B):
  ops[t.i]? =D t.o/\(∀d,t.R.get d=eV (λ_=>C) d A (c9.get d))/\e2 P call ops t.o t.R (cB A H0)=D t.k/\(∀d,t.o.dst=D d->d<c9.size):=
 vI (by rw[<-h];exact c.dp)
def Ctx.mem(c:Ctx P call ops ord c9 H0 T cy cZ){t:bN}(h:t∈T):ops[t.i]? =D t.o:=by
 obtain⟨A,B,h⟩:=List.append_of_mem h;exact(c.at h).1
def Ctx.before(c:Ctx P call ops ord c9 H0 T cy cZ){A B:List bN}{t:bN}(h:T=A++t::B){u:bN}(hu:u∈A):
  u.i≠t.i/\cV (cO ops) t.i u.i=Z/\(cV (cO ops) u.i t.i=C\/u.o.apart ops t.o=C):=by
 have a:=c.F8;rw[h,List.pairwise_append]at a;exact F7 (c.mem (by rw[h];simp[hu])) (c.mem (by rw[h];simp)) (a.2.2 u hu t (by simp))
def Ctx.after(c:Ctx P call ops ord c9 H0 T cy cZ){A B:List bN}{t:bN}(h:T=A++t::B){u:bN}(hu:u∈B):
  t.i≠u.i/\cV (cO ops) u.i t.i=Z/\(cV (cO ops) t.i u.i=C\/t.o.apart ops u.o=C):=by
 have a:=c.F8;rw[h,List.pairwise_append,List.pairwise_cons]at a;exact F7 (c.mem (by rw[h];simp)) (c.mem (by rw[h];simp[hu])) (a.2.1.1 u hu)
def Ctx.looks(c:Ctx P call ops ord c9 H0 T cy cZ){A B:List bN}{t:bN}(h:T=A++t::B){L:Nat->Bool}(aA:sg ops L)(hw:jw L t.o)(b:L t.i=Z):
  ∀d∈t.o.looksAt ops,eV L d T (c9.get d)=t.R.get d:=by
 intro d e;obtain⟨g,j,_,_⟩:=c.at h;rw[j d,h,ld,eV];rw[if_neg (by rintro⟨ae,_⟩;rw[b]at ae;cases ae)];rw[tf (A:=B),te (L':=λ_=>C)]
 ·intro u hu a;obtain⟨_,_,ak⟩:=c.before h hu;rcases ak with ak|ak
  ·exact kh aA _ _ g hw _ ak
  ·exact absurd e ((Oper.apart_spec ak).1 d a)
 ·intro u hu a;obtain⟨_,_,ak⟩:=c.after h hu;rcases ak with ak|ak
  ·cases k:L u.i with
   |false=>rfl
   |true=>
    have f:=c.mem (t:=u) (by rw[h];simp[hu]);have:=kh aA _ _ f (aA _ _ f k) _ ak;rw[b]at this;cases this
  ·exact absurd e ((Oper.apart_spec ak).2.2 d a)
def Ctx.J1(c:Ctx P call ops ord c9 H0 T cy cZ){A B:List bN}{t:bN}(h:T=A++t::B){L L':Nat->Bool}(aA:sg ops L)(l:L t.i=Z)(m:L' t.i=C)(e:∀j,j≠t.i->L' j=L j)(d:Nat)(v:aa):
  eV L' d T v=if t.o.dst=D d then t.k.val else eV L d T v:=by
 have f:∀u∈A,u.o.dst=D d->L' u.i=L u.i:=λu hu _=>e _ (c.before h hu).1
 have g:∀u∈B,u.o.dst=D d->L' u.i=L u.i:=λu hu _=>e _ (Ne.symm (c.after h hu).1)
 rw[h,ld,ld,te f];simp only[eV];rw[te g];by_cases a:t.o.dst=D d
 ·rw[if_pos ⟨m,a⟩,if_pos a];refine tf λu hu p=> ?_
  obtain⟨_,_,ak⟩:=c.after h hu;rcases ak with ak|ak
  ·cases n:L u.i with
   |false=>rfl
   |true=>
    have b:=c.mem (t:=u) (by rw[h];simp[hu]);have:=kh aA _ _ b (aA _ _ b n) _ ak;rw[l]at this;cases this
  ·exact absurd p ((Oper.apart_spec ak).2.1 d a)
 ·rw[if_neg (λx=>a x.2),if_neg a,if_neg (λx=>a x.2)]
def eY.turns{N:Nat}{ρ:Env}{w:World}{L:Nat->Bool}:∀{zC zD:List bN} {H:ad},eJ H (zC++zD)->(∀u∈zC,u.k.eu=C->L u.i=C/\∃v b,u.k= .new v b)->
  eY ρ0 H0 w0 N (dH L (zC++zD) H) ρ H w->eY ρ0 H0 w0 N (dH L zD (cB zC H)) ρ (cB zC H) w
 |[],zD,H,_,_,m=>m
 |c::zC,zD,H,hm,e,m=>by
  by_cases a:c.k.eu=C
  ·obtain⟨az,v,b,d⟩:=e c (by simp) a;have o:dH L (c::zC++zD) H H.next=D b:=by simp[dH,d,az]
   have l:=m.I0 o;have g:eJ (H.push b) (zC++zD):=by have:=hm.2;rw[d]at this;exact this
   have heq:(λk=>if k=H.next then I else dH L (c::zC++zD) H k)=dH L (zC++zD) (H.push b):=by
    funext k
    by_cases f:k=H.next
    ·rw[if_pos f];cases a8:dH L (zC++zD) (H.push b) k with
     |none=>rfl
     |some b'=>have:=s9 g a8;simp at this;omega
    ·rw[if_neg f];simp[dH,d,f]
   rw[heq]at l;have:=eY.turns g (λu hu=>e u (by simp[hu])) l;rw[cB,d];exact this
  ·have n:∀v b,c.k≠ .new v b:=λv b h=>by rw[h]at a;exact a rfl
   rw[List.cons_append,qb n]at m;have j:=wc (by simpa using a) H;rw[cB];rw[j]at m ⊢;refine eY.turns ?_ (λu hu=>e u (by simp[hu])) m;have:=hm.2;rwa[j]at this
structure Inv(ops:Array Oper)(c9:bl)(H0:ad)(T:List bN)(N:Nat)(ρ0:Env)(w0:World)(b:Array Bool)(a:Act)(w:World):Prop where
 size:b.size=ops.size
 closed:sg ops (cR b)
 mid:∃ρ T1 T2,T=T1++T2/\(∀t∈T1,t.k.eu=true->cR b t.i=true)/\(∀t∈T2,(∃v H,t.k= .cF v H)->cR b t.i=false)/\
  eY ρ0 H0 w0 N (dH (cR b) T2 (cB T1 H0)) ρ (cB T1 H0) w/\∃c:bl,dO ρ c a/\c.size=c9.size/\∀d,c.get d=eV (cR b) d T (c9.get d)
def Ctx.final(c:Ctx P call ops ord c9 H0 T cy cZ){e:Array Bool}{a:Act}{w:World}(q:Inv ops c9 H0 T cZ.next ρ0 w0 e a w)(g:∀t∈T,cR e t.i=C):
  ∃ρ,dO ρ cy a/\Step ρ0 H0 w0 ρ cZ w:=by
 obtain⟨ρ,T1,T2,dp,ae,ah,m,A,f,x,z⟩:=q.mid;obtain⟨B,n,o,p⟩:=iT c.dp;have l:=pL c.dp;rw[dp]at l;have r:=(eJ.append l).2;have eU:=eY.turns (zC:=T2) (zD:=[]) (L:=cR e) (by simpa using r) (λu hu h=>by
  have az:=g u (by rw[dp];simp[hu]);refine⟨az,?_⟩;cases j:u.k with
  |new v b=>exact⟨v,b,rfl⟩
  |cF v H=>rw[ah u hu ⟨v,H,j⟩]at az;cases az
  |_=>rw[j]at h;cases h) (by simpa using m)
 rw[<-jK,<-dp,<-n]at eU;refine⟨ρ,⟨by rw[o,<-x];exact f.size,λd=> ?_,f.none⟩,eU.done rfl⟩;have:=f.get d;rw[z d,te (L':=λ_=>C) (λt s _=>g t s),<-p d]at this;exact this
def mf{a:Array Bool}{i:Nat}(h:i∈Region.ready .any ops a)(d:a.size=ops.size):
  ∃o,ops[i]? =D o/\cR a i=Z/\jw (cR a) o/\i<ops.size:=by
 unfold Region.ready at h;simp only[List.mem_filter,List.mem_range,Bool.and_eq_true,Bool.not_eq_true']at h;obtain⟨b,ae,ah⟩:=h;have a7:ops[i]? =D ops[i]:=by simp[b]
 refine⟨ops[i],a7,?_,?_,b⟩
 ·unfold cR;rw[Array.getD_eq_getD_getElem?]at ae ⊢;have:i<a.size:=ai;simp[this]at ae ⊢;exact ae
 ·rw[a7]at ah;simp only[Option.map_some,Option.getD_some,Array.all_eq_true']at ah;intro e he c;have:=ah e he;simpa [c,cR]using this
def xa{a:Array Bool}{i:Nat}{o:Oper}(a7:ops[i]? =D o)(az:cR a i=Z)(hw:jw (cR a) o)(d:a.size=ops.size):i∈Region.ready .any ops a:=by
 unfold Region.ready;have c:i<ops.size:=(Array.getElem?_eq_some_iff.1 a7).1;simp only[List.mem_filter,List.mem_range,Bool.and_eq_true,Bool.not_eq_true'];refine⟨c,?_,?_⟩
 ·unfold cR at az;rw[Array.getD_eq_getD_getElem?]at az ⊢;have:i<a.size:=ai;simp[this]at az ⊢;exact az
 ·rw[a7];simp only[Option.map_some,Option.getD_some,Array.all_eq_true'];intro e he;by_cases b:Region.binds .any e=C
  ·have:=hw e he b;unfold cR at this;rw[this];simp
  ·simp[b]
def Ctx.Ca(c:Ctx P call ops ord c9 H0 T cy cZ){a:Array Bool}(w:a.size=ops.size)(aS:Region.ready .any ops a=[]):∀t∈T,cR a t.i=true:=by
 have m:=c.AI;simp only[ou,Bool.and_eq_true,List.all_eq_true,List.mem_range]at m;obtain⟨q,s,r,_⟩:=m;have k:=(iT c.dp).1;have key:∀(n:Nat) (A:List bN) (t:bN) (B:List bN),A.length=n->T=A++t::B->cR a t.i=true:=by
  intro n
  induction n using Nat.strongRecOn with
  |_ n z=>
   intro A t B hlen h;have a7:=(c.at h).1;cases az:cR a t.i with
   |true=>rfl
   |false=>
    have:t.i∈Region.ready .any ops a:=by
     refine xa a7 az (λe he j=> ?_) w;have b:=K7 a7 he j;have v:e.on<ops.size:=by
      have ae:=r t.o (by
       have:=(Array.getElem?_eq_some_iff.1 a7);obtain⟨ah,ak⟩:=this;rw[<-ak];simp)
      unfold Ds at ae;rw[List.all_eq_true]at ae;have ah:=ae e (by simpa using he);simpa [j]using ah
     have l:=q e.on v;rw[List.contains_iff_mem,<-k,List.mem_map]at l;obtain⟨u,hu,d⟩:=l;rw[h]at hu;rcases List.mem_append.1 hu with hu|hu
     ·obtain⟨f,p,g⟩:=List.append_of_mem hu;rw[<-d];refine z f.length ?_ f u (p++t::B) rfl (by rw[h,g];simp);rw[<-hlen,g];simp
     ·rcases List.mem_cons.1 hu with rfl|hu
      ·exfalso;have ae:=s u.i (by rw[<-k,List.mem_map];exact⟨u,by rw[h];simp,rfl⟩);rw[<-d]at b;rw[b]at ae;cases ae
      ·exfalso;have ae:=(c.after h hu).2.1;rw[d,b]at ae;cases ae
    rw[aS]at this;simp at this
 intro t x;obtain⟨A,B,h⟩:=List.append_of_mem x;exact key _ A t B rfl h
def Dn{p q:Nat->Bool}{i:Nat}:∀{l:List Nat},i∈l->(∀j,q j=C->p j=C)->p i=C->q i=Z->l.countP q<l.countP p
 |[],h,_,_,_=>by simp at h
 |j::l,h,himp,a,a8=>by
  have hle:∀l:List Nat,l.countP q<=l.countP p:=λl=>List.countP_mono_left λx _ aD=>himp x aD
  simp only[List.countP_cons];rcases List.mem_cons.1 h with rfl|h
  ·rw[a,a8];have:=hle l;simp;omega
  ·have:=Dn h himp a a8;cases b:q j with
   |true=>rw[himp j b];simp;omega
   |false=>cases p j<;>simp<;>omega
def l4{a:Array Bool}{i:Nat}(b:i<a.size)(j:Nat):cR (a.setIfInBounds i C) j=if j=i then C else cR a j:=by
 unfold cR;rw[Array.getD_eq_getD_getElem?,Array.getD_eq_getD_getElem?,Array.getElem?_setIfInBounds];by_cases h:i=j
 ·subst h;simp[b]
 ·have ca:¬j=i:=λe=>h e.symm
  simp[h,ca]
