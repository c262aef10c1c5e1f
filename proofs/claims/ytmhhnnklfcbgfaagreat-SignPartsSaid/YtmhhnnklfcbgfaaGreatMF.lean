/-
  Texts of one proof, laid together: Hv26 Tab Ls Ma Hp Hq.
-/
import Derived.Test.YtmhhnnklfcbgfaaGreatME
import Derived.ProofKit
import Derived.OpenShut
import Derived.ShutString
import Derived.ChangeOld
import Derived.Below
import Derived.Carry
set_option linter.unusedVariables false
set_option linter.unusedSimpArgs false
set_option linter.defProp false
open Option renaming some→D,none→I
open Bool renaming true→C,false→Z
namespace Go.bz
section
open Go.ChangeShapes Go.WideShapes Go.ChangeAt Go.RowKit
def ze(E:Env)(P:Program)(f:Nat)(args:List Value)(W:World):Prop:=∃(ρ:Env) (H:ad) (a:List ae) (H':ad),Rel ρ H W/\(∀l,¬H.rw l)/\(∀l,H.next<=l->ρ l=I)/\E.le ρ/\H.next<=H'.next/\bO ρ a args/\gL E P f a H (.bool C) H'
def Uj{E:Env}{P:Program}{f:Nat}{fn:Func}{c:Code}{args:List Value}{W:World}(o:jB P)(i:P.funcs[f]? =D fn)(aq:fn.body=D c)(h:ze E P f args W):
  Calls P f args.toArray W λe d=>e= .returned (.bool C)/\Below W.heap.size W d:=by
 obtain⟨ρ,H,u,H',af,ah,an,n,aM,j,m⟩:=h;have s:∀b,¬d_ ρ H b:=by rintro b ⟨l,loc,al,_⟩;exact ah l al
 have g:=m ρ W args af ⟨λl al _=>an l al,n⟩ j aM (λx d=>x= .bool C/\Below W.heap.size W d) (λx d v aA a=>by
  cases aA;exact⟨rfl,a.os,a.tape,a.output,a.size,λk q=>a.frame k q (s k)⟩)
 have r:(fn.name== "runtime.NumGoroutine")=false:=o.names fn (Array.mem_of_getElem? i);have t:(callFunc f args.toArray).run P W= .ok (.enter f args.toArray) W:=by
  unfold callFunc;simp[i,aq];intro p;simp[p]at r
 unfold nj at g;rw[t]at g;simp only at g;refine g.mono λe d au=> ?_
 split at au
 ·exact⟨by rw[au.1],au.2⟩
 ·exact au.elim
def Mo{H:Type}{enc:TypeId×Value->H}{P:Program}{W c:World}(al:laidOutB P=C)(e:Below W.heap.size W c):∀{ts:List TypeId} {ak:List Value} {a:List (DataW H)} {db:List MemPlace},(∀t∈ts,P.readableRec t=C/\t<P.types.size)->
  DataW.TrodAll enc P W 0 (λ_=>C) C ts ak a db->∃f,DataW.TrodAll enc P c 0 (λb=>decide (b<W.heap.size)) C ts ak a f
 |[],ak,a,db,_,h=>by
  obtain⟨rfl,rfl,rfl⟩:=trodAll_nil h;exact⟨[],trodAll_mk0⟩
 |t::ts,ak,a,db,a1,h=>by
  obtain⟨v,k,d,j,p,q,rfl,rfl,rfl,af,ah⟩:=trodAll_cons h;obtain⟨f,an⟩:=Mo al e (λt i=>a1 t (List.mem_cons_of_mem _ i)) ah;have g:∀x∈p,x.block<W.heap.size:=by obtain⟨m,hm⟩:=af;exact DataW.trod_lt m _ _ _ hm
  exact⟨_,trodAll_cons_mk (Below.trod al (a1 t (List.mem_cons_self ..)).1 (a1 t (List.mem_cons_self ..)).2 af e g) an⟩
def pQ{a:Addr}(h:a.spot=I)(j:Nat):a.add j=⟨a.block,a.off+j,I⟩:=by
 obtain⟨b,o,s⟩:=a;cases h;exact lY b o j
structure Seen(ρ:Env)(H:ad)(W:World):Prop where
 rel:Rel ρ H W
 ro:∀l,¬H.rw l
 top:∀l,H.next<=l->ρ l=none
def Seen.empty(W:World):Seen (λ_=>I) ad.empty W:=
 have a:∀l,¬ad.empty.rw l:=λl al=>by
  rcases al with⟨e,s,h⟩|⟨es,h⟩|⟨t,e,s,h⟩<;>rw[ad.rQ]at h<;>cases h
 ⟨Kd W,a,λ_ _=>rfl⟩
def Seen.mQ{ρ:Env}{H:ad}{W:World}(h:Seen ρ H W)(loc:Go.bz.Loc):ρ.le (ρ.dn H.next loc):=λl a e=>by
 have:l≠H.next:=by rintro rfl;rw[h.top _ (bC _)]at e;cases e
 simp only[Env.dn,if_neg this];exact e
def fF.mono{ρ a:Env}(hle:ρ.le a){w:World}{loc:Go.bz.Loc}{ro:Bool}{esz:Nat}{els:List (List ae)}(h:fF ρ w loc ro esz els):fF a w loc ro esz els:=by
 obtain⟨af,c,t,b,ah,an,aM⟩:=h;refine⟨af,c,t,b,ah,an,λi e he=>⟨(aM i e he).1,λj v d=> ?_⟩⟩;obtain⟨f,x,g,k⟩:=(aM i e he).2 j v d;exact⟨f,x,g,k.mono hle⟩
def Seen.push{ρ:Env}{H:ad}{W:World}(h:Seen ρ H W){loc:Go.bz.Loc}{esz:Nat}{els:List (List ae)}(au:fF ρ W loc C esz els):Seen (ρ.dn H.next loc) (H.push (.row C esz els)) W:=by
 have hle:=h.mQ loc;have a:∀l,¬(H.push (.row C esz els)).rw l:=by
  rintro l (⟨e,s,aP⟩|⟨es,aP⟩|⟨t,e,s,aP⟩)
  ·rw[ad.iM]at aP;split at aP
   ·cases aP
   ·exact h.ro l (.inl ⟨e,s,aP⟩)
  ·rw[ad.iM]at aP;split at aP
   ·cases aP
   ·exact h.ro l (.inr (.inl ⟨es,aP⟩))
  ·rw[ad.iM]at aP;split at aP
   ·cases aP
   ·exact h.ro l (.inr (.inr ⟨t,e,s,aP⟩))
 refine⟨⟨λl ro e s aP=> ?_,λl es aP=> ?_,λl t e s aP=>absurd (.inr (.inr ⟨t,e,s,aP⟩)) (a l),λl d _ _ al=>absurd al (a l),λl s esz els aP=>(h.rel.old _ _ _ _ (ad.o1 rfl l s esz els aP)).step hle (bC _) (λ_ _ _=>rfl) λb ⟨l,_,al,_⟩=>absurd al (a l)⟩,a,λl al=> ?_⟩
 ·rw[ad.iM]at aP;split at aP
  ·rename_i al;cases aP;exact⟨loc,by simp[Env.dn,al],au.mono hle⟩
  ·obtain⟨c,af,ah⟩:=h.rel.row l ro e s aP;exact⟨c,hle _ _ af,ah.mono hle⟩
 ·exact absurd (.inr (.inl ⟨es,aP⟩)) (a l)
 ·simp only[ad.dm]at al;have:l≠H.next:=aa
  simp only[Env.dn,if_neg this];exact h.top l aa
def Seen.blank{ρ:Env}{H:ad}{W:World}(h:Seen ρ H W)(loc:Go.bz.Loc):Seen (ρ.dn H.next loc) (H.push .dead) W:=by
 have hle:=h.mQ loc;have a:∀l,¬(H.push .dead).rw l:=by
  rintro l (⟨e,s,aP⟩|⟨es,aP⟩|⟨t,e,s,aP⟩)
  ·rw[ad.iM]at aP;split at aP
   ·cases aP
   ·exact h.ro l (.inl ⟨e,s,aP⟩)
  ·rw[ad.iM]at aP;split at aP
   ·cases aP
   ·exact h.ro l (.inr (.inl ⟨es,aP⟩))
  ·rw[ad.iM]at aP;split at aP
   ·cases aP
   ·exact h.ro l (.inr (.inr ⟨t,e,s,aP⟩))
 refine⟨⟨λl ro e s aP=> ?_,λl es aP=> ?_,λl t e s aP=>absurd (.inr (.inr ⟨t,e,s,aP⟩)) (a l),λl d _ _ al=>absurd al (a l),λl s esz els aP=>(h.rel.old _ _ _ _ (ad.o1 rfl l s esz els aP)).step hle (bC _) (λ_ _ _=>rfl) λb ⟨l,_,al,_⟩=>absurd al (a l)⟩,a,λl al=> ?_⟩
 ·rw[ad.iM]at aP;split at aP
  ·cases aP
  ·obtain⟨c,af,ah⟩:=h.rel.row l ro e s aP;exact⟨c,hle _ _ af,ah.mono hle⟩
 ·exact absurd (.inr (.inl ⟨es,aP⟩)) (a l)
 ·simp only[ad.dm]at al;have:l≠H.next:=aa
  simp only[Env.dn,if_neg this];exact h.top l aa
def fh(P:Program)(t i:Nat):Option (Nat×Nat):=match P.underlying t with
 |some (.struct fs)=>(fs[i]?).map λf=>(f.type,f.offset)
 |_=>I
def gC{H:Type}{enc:TypeId×Value->H}{P:Program}{w:World}{base:Nat}{sp:Nat->Bool}{held:Bool}{n t:Nat}{cs:List Value}{x:DataW H×List MemPlace}{i ty off:Nat}
  (az:fh P t i=D (ty,off)) (h:DataW.trod enc P w base sp held n t cs=D x):∃m y,DataW.trod enc P w base sp held m ty ((cs.drop off).take (P.cellsOf ty))=D y:=by
 unfold fh at az;split at az
 ·rename_i fs a1;obtain⟨f,af,ah⟩:=Option.map_eq_some_iff.1 az;simp only[cK]at ah;obtain⟨rfl,rfl⟩:=ah;obtain⟨xs,m,_,_,_,al,aA⟩:=DataW.trod_struct a1 h;have a:i<xs.length:=by rw[al];exact(Array.getElem?_eq_some_iff.1 af).1
  exact⟨m,xs[i],by rw[aA i f af];simp[a]⟩
 ·cases az
def px{H:Type}{enc:TypeId×Value->H}{P:Program}{w:World}{base:Nat}{sp:Nat->Bool}{held:Bool}{n t:Nat}{cs:List Value}{x:DataW H×List MemPlace}{i ty off:Nat}
  (az:fh P t i=D (ty,off)) (h:DataW.trod enc P w base sp held n t cs=D x):cs.length=P.cellsOf t:=by
 unfold fh at az;split at az
 ·rename_i fs a1;obtain⟨xs,m,_,_,al,_⟩:=DataW.trod_struct a1 h;exact al
 ·cases az
def lN{H:Type}{enc:TypeId×Value->H}{P:Program}{w:World}{base:Nat}{sp:Nat->Bool}{held:Bool}{n t:Nat}{v:Value}{x:DataW H×List MemPlace}{k:IntKind}
  (a1:P.underlying t=D (.int k)) (h:DataW.trod enc P w base sp held n t [v]=D x):∃z,v= .int k z:=by
 obtain⟨z,af,_⟩:=DataW.trod_int a1 h;simp only[List.cons.injEq,and_true]at af;exact⟨z,af⟩
def Mp{H:Type}{enc:TypeId×Value->H}{P:Program}{w:World}{base:Nat}{sp:Nat->Bool}{held:Bool}{n t:Nat}{v:Value}{x:DataW H×List MemPlace}
  (a1:P.underlying t=D .string) (h:DataW.trod enc P w base sp held n t [v]=D x):∃s:List UInt8,v= .string ⟨s.toArray⟩:=by
 obtain⟨s,af,_⟩:=DataW.trod_string a1 h;simp only[List.cons.injEq,and_true]at af;exact⟨s.data.toList,by rw[af]⟩
def V8{H:Type}{enc:TypeId×Value->H}{P:Program}{w:World}{fuel t e:Nat}{cs:List Value}{x:DataW H×List MemPlace}(a1:P.underlying t=D (.slice e))(h:DataW.trod enc P w 0 (λ_=>C) C fuel t cs=D x):
  cs=[.slice I 0 0]\/∃a len cap q,fuel=q+1/\cs=[.slice (D a) len cap]/\len<=cap/\∀i,i<cap->∃b,w.cells? 0 (a.add (i*P.cellsOf e)) (P.cellsOf e)=D b/\∃z,DataW.trod enc P w 0 (λ_=>C) C q e b=D z:=by
 rcases DataW.trod_slice a1 h with⟨c,_⟩|⟨a,len,cap,elems,rest,n,az,rfl,_,_,al,_,hlen,d,k,_⟩
 ·exact .inl c
 ·refine .inr ⟨a,len,cap,n,az,rfl,al,λi m=> ?_⟩;obtain⟨au,j⟩:=k rfl;have key:∃z,(w.cells? 0 (a.add (i*P.cellsOf e)) (P.cellsOf e)).bind (DataW.trod enc P w 0 (λ_=>C) C n e)=D z:=by
   by_cases f:i<len
   ·exact⟨elems[i]'aa,by rw[d i f];simp⟩
   ·have g:i-len<cap-len:=aa;have:=j (i-len) g;rw[show len+(i-len)=i by omega]at this;exact⟨rest[i-len]'aa,by rw[this];simp⟩
  obtain⟨z,l⟩:=key;obtain⟨b,af,ah⟩:=dY.1 l;exact⟨b,af,z,ah⟩
end
end Go.bz
namespace Go.Proofs.YtmhhnnklfcbgfaaGreat
open Go.bz
def rB(place:Nat->Option (Nat×Nat))(cells:List ae):List (Nat×List ae)->Option (List ae)
 |[]=>D cells
 |(i,v)::rest=>match place i with
  |none=>I
  |some (off,size)=>if v.length=size/\off+v.length<=cells.length then rB place (eZ cells off v) rest else I
def zi(P:Program)(t:TypeId)(parts:List (Nat×List ae)):Option ae:=
 match e2 P t,P.underlying t with
 |some z,D (.struct fs)=>(match pS P fs.toList with|some pl=>(rB (pl[·]?) z.cells parts).map .agg|none=>I)
 |some z,D (.array _ e)=>(match cp P e with|some n=>(rB (λi=>D (i*n,n)) z.cells parts).map .agg|none=>I)
 |_,_=>I
def ET(place:Nat->Option (Nat×Nat)):∀(parts:List (Nat×ae)) (cells:List ae),np place cells parts=rB place cells (parts.map λp=>(p.1,p.2.cells))
 |[],_=>rfl
 |(i,v)::rest,cells=>by
  show(match place i with
   |none=>I
   |some (off,size)=>if v.cells.length=size/\off+v.cells.length<=cells.length then np place (eZ cells off v.cells) rest else I)=(match place i with
   |none=>I
   |some (off,size)=>if v.cells.length=size/\off+v.cells.length<=cells.length then rB place (eZ cells off v.cells) (rest.map λp=>(p.1,p.2.cells))else I)
  cases place i with
  |none=>rfl
  |some p=>simp only[ET place rest]
def Nj(Q:Program)(t:TypeId)(parts:List (Nat×ae)):dU Q t parts=zi Q t (parts.map λp=>(p.1,p.2.cells)):=by
 unfold dU zi;simp only[ET];generalize e2 Q t=z;generalize Q.underlying t=u;cases z with
 |none=>rfl
 |some z=>cases u with
  |none=>rfl
  |some d=>cases d<;>rfl
def hB(t:TypeId)(parts:List (Nat×ae)):dU P t parts=zi P t (parts.map λp=>(p.1,p.2.cells)):=Nj P t parts
def uB:dM P 3=D false:=aF
def Mq:cp P 3=D 1:=aF
def D9:dM P 4=D false:=aF
def Mr:cp P 4=D 1:=aF
def Qg{c:Bool}(a b:Bool):bm P .eql 4 c (.bool a) (.bool b)=D (.bool (a==b)):=aF
def Vx{c:Bool}(a b:Bool):bm P .neq 4 c (.bool a) (.bool b)=D (.bool (!(a==b))):=aF
def abI:dM P 9=D false:=aF
def acj:cp P 9=D 1:=aF
def UW{H:ad}{s:List UInt8}:bL P H .len [9] [.str s]=D (.int .i64 s.length):=aF
def abt:dM P 22=D false:=aF
def abY:cp P 22=D 1:=aF
def S5(l i n:Nat)(cap:Option Nat)(k:Int):cm P 22 (.aD l i n 2 cap) (.int .i64 k)=if 2=2/\0<=k/\k<n then D (.ptr l (i+k.toNat) 0)else none:=aF
def S4{l i n:Nat}{cap:Option Nat}{k:Int}(a:0<=k)(af:k<n):cm P 22 (.aD l i n 2 cap) (.int .i64 k)=D (.ptr l (i+k.toNat) 0):=by rw[S5,if_pos ⟨rfl,a,af⟩]
def UB{H:ad}{l i n e:Nat}{cap:Option Nat}:bL P H .len [22] [.aD l i n e cap]=D (.int .i64 n):=aF
def UC{H:ad}:bL P H .len [22] [.aB]=D (.int .i64 0):=aF
def abu:dM P 23=D false:=aF
def abZ:cp P 23=D 1:=aF
def S7(l i n:Nat)(cap:Option Nat)(k:Int):cm P 23 (.aD l i n 3 cap) (.int .i64 k)=if 3=3/\0<=k/\k<n then D (.ptr l (i+k.toNat) 0)else none:=aF
def S6{l i n:Nat}{cap:Option Nat}{k:Int}(a:0<=k)(af:k<n):cm P 23 (.aD l i n 3 cap) (.int .i64 k)=D (.ptr l (i+k.toNat) 0):=by rw[S7,if_pos ⟨rfl,a,af⟩]
def UD{H:ad}{l i n e:Nat}{cap:Option Nat}:bL P H .len [23] [.aD l i n e cap]=D (.int .i64 n):=aF
def UE{H:ad}:bL P H .len [23] [.aB]=D (.int .i64 0):=aF
def abv:dM P 24=D false:=aF
def ab0:cp P 24=D 1:=aF
def S9(l i n:Nat)(cap:Option Nat)(k:Int):cm P 24 (.aD l i n 7 cap) (.int .i64 k)=if 7=7/\0<=k/\k<n then D (.ptr l (i+k.toNat) 0)else none:=aF
def S8{l i n:Nat}{cap:Option Nat}{k:Int}(a:0<=k)(af:k<n):cm P 24 (.aD l i n 7 cap) (.int .i64 k)=D (.ptr l (i+k.toNat) 0):=by rw[S9,if_pos ⟨rfl,a,af⟩]
def UF{H:ad}{l i n e:Nat}{cap:Option Nat}:bL P H .len [24] [.aD l i n e cap]=D (.int .i64 n):=aF
def UI{H:ad}:bL P H .len [24] [.aB]=D (.int .i64 0):=aF
def abz:dM P 25=D false:=aF
def ab4:cp P 25=D 1:=aF
def Tg(l i n:Nat)(cap:Option Nat)(k:Int):cm P 25 (.aD l i n 4 cap) (.int .i64 k)=if 4=4/\0<=k/\k<n then D (.ptr l (i+k.toNat) 0)else none:=aF
def Tf{l i n:Nat}{cap:Option Nat}{k:Int}(a:0<=k)(af:k<n):cm P 25 (.aD l i n 4 cap) (.int .i64 k)=D (.ptr l (i+k.toNat) 0):=by rw[Tg,if_pos ⟨rfl,a,af⟩]
def UJ{H:ad}{l i n e:Nat}{cap:Option Nat}:bL P H .len [25] [.aD l i n e cap]=D (.int .i64 n):=aF
def UK{H:ad}:bL P H .len [25] [.aB]=D (.int .i64 0):=aF
def abB:dM P 27=D true:=aF
def ab6:cp P 27=D 5:=aF
def Q6(l i c:Nat):bN P 27 (.ptr l i c) 0=D (.ptr l i (c+0)):=aF
def Q7(l i c:Nat):bN P 27 (.ptr l i c) 1=D (.ptr l i (c+1)):=aF
def Q8(l i c:Nat):bN P 27 (.ptr l i c) 2=D (.ptr l i (c+2)):=aF
def Q9(l i c:Nat):bN P 27 (.ptr l i c) 3=D (.ptr l i (c+3)):=aF
def Q_(l i c:Nat):bN P 27 (.ptr l i c) 4=D (.ptr l i (c+4)):=aF
def yV:dM P 30=D false:=aF
def ab_:cp P 30=D 1:=aF
def Tk(l i n:Nat)(cap:Option Nat)(k:Int):cm P 30 (.aD l i n 1 cap) (.int .i64 k)=if 1=1/\0<=k/\k<n then D (.ptr l (i+k.toNat) 0)else none:=aF
def Tj{l i n:Nat}{cap:Option Nat}{k:Int}(a:0<=k)(af:k<n):cm P 30 (.aD l i n 1 cap) (.int .i64 k)=D (.ptr l (i+k.toNat) 0):=by rw[Tk,if_pos ⟨rfl,a,af⟩]
def UN{H:ad}{l i n e:Nat}{cap:Option Nat}:bL P H .len [30] [.aD l i n e cap]=D (.int .i64 n):=aF
def UO{H:ad}:bL P H .len [30] [.aB]=D (.int .i64 0):=aF
def abE:dM P 31=D false:=aF
def aca:cp P 31=D 1:=aF
def Tm(l i n:Nat)(cap:Option Nat)(k:Int):cm P 31 (.aD l i n 1 cap) (.int .i64 k)=if 1=1/\0<=k/\k<n then D (.ptr l (i+k.toNat) 0)else none:=aF
def Tl{l i n:Nat}{cap:Option Nat}{k:Int}(a:0<=k)(af:k<n):cm P 31 (.aD l i n 1 cap) (.int .i64 k)=D (.ptr l (i+k.toNat) 0):=by rw[Tm,if_pos ⟨rfl,a,af⟩]
def UP{H:ad}{l i n e:Nat}{cap:Option Nat}:bL P H .len [31] [.aD l i n e cap]=D (.int .i64 n):=aF
def UQ{H:ad}:bL P H .len [31] [.aB]=D (.int .i64 0):=aF
def abF:dM P 33=D true:=aF
def acb:cp P 33=D 4:=aF
def Rj(l i c:Nat):bN P 33 (.ptr l i c) 0=D (.ptr l i (c+0)):=aF
def Rk(l i c:Nat):bN P 33 (.ptr l i c) 1=D (.ptr l i (c+1)):=aF
def Rl(l i c:Nat):bN P 33 (.ptr l i c) 2=D (.ptr l i (c+2)):=aF
def Rm(l i c:Nat):bN P 33 (.ptr l i c) 3=D (.ptr l i (c+3)):=aF
def q_:dM P 46=D true:=aF
def acd:cp P 46=D 3:=aF
def Rn(l i c:Nat):bN P 46 (.ptr l i c) 0=D (.ptr l i (c+0)):=aF
def Ro(l i c:Nat):bN P 46 (.ptr l i c) 1=D (.ptr l i (c+1)):=aF
def Rp(l i c:Nat):bN P 46 (.ptr l i c) 2=D (.ptr l i (c+2)):=aF
def R6(a0 b a:ae):nm P 46 (.agg [a0,b,a]) 2=D a:=aF
def abG:dM P 47=D false:=aF
def ace:cp P 47=D 1:=aF
def To(l i n:Nat)(cap:Option Nat)(k:Int):cm P 47 (.aD l i n 6 cap) (.int .i64 k)=if 6=6/\0<=k/\k<n then D (.ptr l (i+k.toNat) 0)else none:=aF
def Tn{l i n:Nat}{cap:Option Nat}{k:Int}(a:0<=k)(af:k<n):cm P 47 (.aD l i n 6 cap) (.int .i64 k)=D (.ptr l (i+k.toNat) 0):=by rw[To,if_pos ⟨rfl,a,af⟩]
def UR{H:ad}{l i n e:Nat}{cap:Option Nat}:bL P H .len [47] [.aD l i n e cap]=D (.int .i64 n):=aF
def US{H:ad}:bL P H .len [47] [.aB]=D (.int .i64 0):=aF
def Mc:dM P 49=D true:=aF
def acf:cp P 49=D 7:=aF
def Rq(l i c:Nat):bN P 49 (.ptr l i c) 0=D (.ptr l i (c+0)):=aF
def Rr(l i c:Nat):bN P 49 (.ptr l i c) 1=D (.ptr l i (c+1)):=aF
def Rs(l i c:Nat):bN P 49 (.ptr l i c) 2=D (.ptr l i (c+2)):=aF
def Rt(l i c:Nat):bN P 49 (.ptr l i c) 3=D (.ptr l i (c+3)):=aF
def Ru(l i c:Nat):bN P 49 (.ptr l i c) 4=D (.ptr l i (c+6)):=aF
def abH:dM P 53=D false:=aF
def acg:cp P 53=D 1:=aF
def Tq(l i n:Nat)(cap:Option Nat)(k:Int):cm P 53 (.aD l i n 4 cap) (.int .i64 k)=if 4=4/\0<=k/\k<n then D (.ptr l (i+k.toNat) 0)else none:=aF
def Tp{l i n:Nat}{cap:Option Nat}{k:Int}(a:0<=k)(af:k<n):cm P 53 (.aD l i n 4 cap) (.int .i64 k)=D (.ptr l (i+k.toNat) 0):=by rw[Tq,if_pos ⟨rfl,a,af⟩]
def UT{H:ad}{l i n e:Nat}{cap:Option Nat}:bL P H .len [53] [.aD l i n e cap]=D (.int .i64 n):=aF
def UU{H:ad}:bL P H .len [53] [.aB]=D (.int .i64 0):=aF
def Md:dM P 56=D true:=aF
def ach:cp P 56=D 4:=aF
def Rv(l i c:Nat):bN P 56 (.ptr l i c) 0=D (.ptr l i (c+0)):=aF
def Rw(l i c:Nat):bN P 56 (.ptr l i c) 1=D (.ptr l i (c+1)):=aF
def Rx(l i c:Nat):bN P 56 (.ptr l i c) 2=D (.ptr l i (c+2)):=aF
def Ry(l i c:Nat):bN P 56 (.ptr l i c) 3=D (.ptr l i (c+3)):=aF
def Rz(l i c:Nat):bN P 76 (.ptr l i c) 0=D (.ptr l i (c+0)):=aF
def RA(l i c:Nat):bN P 76 (.ptr l i c) 1=D (.ptr l i (c+5)):=aF
def RB(l i c:Nat):bN P 76 (.ptr l i c) 2=D (.ptr l i (c+9)):=aF
def RC(l i c:Nat):bN P 76 (.ptr l i c) 3=D (.ptr l i (c+10)):=aF
def Me:dM P 89=D true:=aF
def aci:cp P 89=D 6:=aF
def RD(l i c:Nat):bN P 89 (.ptr l i c) 0=D (.ptr l i (c+0)):=aF
def RE(l i c:Nat):bN P 89 (.ptr l i c) 1=D (.ptr l i (c+1)):=aF
def RF(l i c:Nat):bN P 89 (.ptr l i c) 2=D (.ptr l i (c+2)):=aF
def RG(l i c:Nat):bN P 89 (.ptr l i c) 3=D (.ptr l i (c+3)):=aF
def RH(l i c:Nat):bN P 89 (.ptr l i c) 4=D (.ptr l i (c+4)):=aF
def RI(l i c:Nat):bN P 89 (.ptr l i c) 5=D (.ptr l i (c+5)):=aF
def abJ:dM P 93=D false:=aF
def ack:cp P 93=D 1:=aF
def Ts(l i n:Nat)(cap:Option Nat)(k:Int):cm P 93 (.aD l i n 4 cap) (.int .i64 k)=if 4=4/\0<=k/\k<n then D (.ptr l (i+k.toNat) 0)else none:=aF
def Tr{l i n:Nat}{cap:Option Nat}{k:Int}(a:0<=k)(af:k<n):cm P 93 (.aD l i n 4 cap) (.int .i64 k)=D (.ptr l (i+k.toNat) 0):=by rw[Ts,if_pos ⟨rfl,a,af⟩]
def UX{H:ad}{l i n e:Nat}{cap:Option Nat}:bL P H .len [93] [.aD l i n e cap]=D (.int .i64 n):=aF
def UY{H:ad}:bL P H .len [93] [.aB]=D (.int .i64 0):=aF
def abK:dM P 95=D true:=aF
def acm:cp P 95=D 2:=aF
def RJ(l i c:Nat):bN P 95 (.ptr l i c) 1=D (.ptr l i (c+1)):=aF
def abL:dM P 98=D true:=aF
def acn:cp P 98=D 4:=aF
def RK(l i c:Nat):bN P 98 (.ptr l i c) 1=D (.ptr l i (c+1)):=aF
def abo:dM P 100=D true:=aF
def abU:cp P 100=D 4:=aF
def QM(l i c:Nat):bN P 100 (.ptr l i c) 0=D (.ptr l i (c+0)):=aF
def QN(l i c:Nat):bN P 100 (.ptr l i c) 1=D (.ptr l i (c+1)):=aF
def abp:dM P 104=D false:=aF
def abV:cp P 104=D 1:=aF
def SV(l i n:Nat)(cap:Option Nat)(k:Int):cm P 104 (.aD l i n 1 cap) (.int .i64 k)=if 1=1/\0<=k/\k<n then D (.ptr l (i+k.toNat) 0)else none:=aF
def SU{l i n:Nat}{cap:Option Nat}{k:Int}(a:0<=k)(af:k<n):cm P 104 (.aD l i n 1 cap) (.int .i64 k)=D (.ptr l (i+k.toNat) 0):=by rw[SV,if_pos ⟨rfl,a,af⟩]
def Uv{H:ad}{l i n e:Nat}{cap:Option Nat}:bL P H .len [104] [.aD l i n e cap]=D (.int .i64 n):=aF
def Uw{H:ad}:bL P H .len [104] [.aB]=D (.int .i64 0):=aF
def abq:dM P 152=D false:=aF
def abW:cp P 152=D 1:=aF
def SX(l i n:Nat)(cap:Option Nat)(k:Int):cm P 152 (.aD l i n 1 cap) (.int .i64 k)=if 1=1/\0<=k/\k<n then D (.ptr l (i+k.toNat) 0)else none:=aF
def SW{l i n:Nat}{cap:Option Nat}{k:Int}(a:0<=k)(af:k<n):cm P 152 (.aD l i n 1 cap) (.int .i64 k)=D (.ptr l (i+k.toNat) 0):=by rw[SX,if_pos ⟨rfl,a,af⟩]
def Ux{H:ad}{l i n e:Nat}{cap:Option Nat}:bL P H .len [152] [.aD l i n e cap]=D (.int .i64 n):=aF
def Uy{H:ad}:bL P H .len [152] [.aB]=D (.int .i64 0):=aF
def abr:dM P 154=D true:=aF
def abX:cp P 154=D 2:=aF
def QO(l i c:Nat):bN P 154 (.ptr l i c) 0=D (.ptr l i (c+0)):=aF
def QP(l i c:Nat):bN P 154 (.ptr l i c) 1=D (.ptr l i (c+1)):=aF
def QQ(l i c:Nat):bN P 196 (.ptr l i c) 0=D (.ptr l i (c+0)):=aF
def QS(l i c:Nat):bN P 196 (.ptr l i c) 1=D (.ptr l i (c+7)):=aF
def QT(l i c:Nat):bN P 196 (.ptr l i c) 2=D (.ptr l i (c+8)):=aF
def QU(l i c:Nat):bN P 196 (.ptr l i c) 3=D (.ptr l i (c+9)):=aF
def QV(l i c:Nat):bN P 196 (.ptr l i c) 4=D (.ptr l i (c+10)):=aF
def QW(l i c:Nat):bN P 196 (.ptr l i c) 5=D (.ptr l i (c+11)):=aF
def SZ(l i n:Nat)(cap:Option Nat)(k:Int):cm P 198 (.aD l i n 1 cap) (.int .i64 k)=if 1=1/\0<=k/\k<n then D (.ptr l (i+k.toNat) 0)else none:=aF
def SY{l i n:Nat}{cap:Option Nat}{k:Int}(a:0<=k)(af:k<n):cm P 198 (.aD l i n 1 cap) (.int .i64 k)=D (.ptr l (i+k.toNat) 0):=by rw[SZ,if_pos ⟨rfl,a,af⟩]
def Uz{H:ad}{l i n e:Nat}{cap:Option Nat}:bL P H .len [198] [.aD l i n e cap]=D (.int .i64 n):=aF
def UA{H:ad}:bL P H .len [198] [.aB]=D (.int .i64 0):=aF
def S1(l i n:Nat)(cap:Option Nat)(k:Int):cm P 203 (.aD l i n 1 cap) (.int .i64 k)=if 1=1/\0<=k/\k<n then D (.ptr l (i+k.toNat) 0)else none:=aF
def S0{l i n:Nat}{cap:Option Nat}{k:Int}(a:0<=k)(af:k<n):cm P 203 (.aD l i n 1 cap) (.int .i64 k)=D (.ptr l (i+k.toNat) 0):=by rw[S1,if_pos ⟨rfl,a,af⟩]
def S3(l i n:Nat)(cap:Option Nat)(k:Int):cm P 204 (.aD l i n 1 cap) (.int .i64 k)=if 1=1/\0<=k/\k<n then D (.ptr l (i+k.toNat) 0)else none:=aF
def S2{l i n:Nat}{cap:Option Nat}{k:Int}(a:0<=k)(af:k<n):cm P 204 (.aD l i n 1 cap) (.int .i64 k)=D (.ptr l (i+k.toNat) 0):=by rw[S3,if_pos ⟨rfl,a,af⟩]
def abw:dM P 243=D false:=aF
def ab1:cp P 243=D 1:=aF
def Ta(l i n:Nat)(cap:Option Nat)(k:Int):cm P 243 (.aD l i n 1 cap) (.int .i64 k)=if 1=1/\0<=k/\k<n then D (.ptr l (i+k.toNat) 0)else none:=aF
def S_{l i n:Nat}{cap:Option Nat}{k:Int}(a:0<=k)(af:k<n):cm P 243 (.aD l i n 1 cap) (.int .i64 k)=D (.ptr l (i+k.toNat) 0):=by rw[Ta,if_pos ⟨rfl,a,af⟩]
def abx:dM P 244=D false:=aF
def ab2:cp P 244=D 1:=aF
def Tc(l i n:Nat)(cap:Option Nat)(k:Int):cm P 244 (.aD l i n 1 cap) (.int .i64 k)=if 1=1/\0<=k/\k<n then D (.ptr l (i+k.toNat) 0)else none:=aF
def Tb{l i n:Nat}{cap:Option Nat}{k:Int}(a:0<=k)(af:k<n):cm P 244 (.aD l i n 1 cap) (.int .i64 k)=D (.ptr l (i+k.toNat) 0):=by rw[Tc,if_pos ⟨rfl,a,af⟩]
def aby:dM P 246=D false:=aF
def ab3:cp P 246=D 1:=aF
def Te(l i n:Nat)(cap:Option Nat)(k:Int):cm P 246 (.aD l i n 1 cap) (.int .i64 k)=if 1=1/\0<=k/\k<n then D (.ptr l (i+k.toNat) 0)else none:=aF
def Td{l i n:Nat}{cap:Option Nat}{k:Int}(a:0<=k)(af:k<n):cm P 246 (.aD l i n 1 cap) (.int .i64 k)=D (.ptr l (i+k.toNat) 0):=by rw[Te,if_pos ⟨rfl,a,af⟩]
def UG{H:ad}{l i n e:Nat}{cap:Option Nat}:bL P H .len [246] [.aD l i n e cap]=D (.int .i64 n):=aF
def UH{H:ad}:bL P H .len [246] [.aB]=D (.int .i64 0):=aF
def QX(l i c:Nat):bN P 248 (.ptr l i c) 0=D (.ptr l i (c+0)):=aF
def QY(l i c:Nat):bN P 248 (.ptr l i c) 1=D (.ptr l i (c+1)):=aF
def QZ(l i c:Nat):bN P 248 (.ptr l i c) 2=D (.ptr l i (c+2)):=aF
def Q0(l i c:Nat):bN P 248 (.ptr l i c) 3=D (.ptr l i (c+3)):=aF
def Q1(l i c:Nat):bN P 248 (.ptr l i c) 4=D (.ptr l i (c+4)):=aF
def Q2(l i c:Nat):bN P 248 (.ptr l i c) 5=D (.ptr l i (c+5)):=aF
def Q3(l i c:Nat):bN P 248 (.ptr l i c) 6=D (.ptr l i (c+6)):=aF
def Q4(l i c:Nat):bN P 248 (.ptr l i c) 7=D (.ptr l i (c+7)):=aF
def Q5(l i c:Nat):bN P 248 (.ptr l i c) 8=D (.ptr l i (c+8)):=aF
def abA:dM P 251=D false:=aF
def ab5:cp P 251=D 1:=aF
def abC:dM P 280=D true:=aF
def ab7:cp P 280=D 19:=aF
def Ra(l i c:Nat):bN P 280 (.ptr l i c) 0=D (.ptr l i (c+0)):=aF
def Rb(l i c:Nat):bN P 280 (.ptr l i c) 1=D (.ptr l i (c+5)):=aF
def Rc(l i c:Nat):bN P 280 (.ptr l i c) 2=D (.ptr l i (c+6)):=aF
def Re(l i c:Nat):bN P 280 (.ptr l i c) 3=D (.ptr l i (c+13)):=aF
def abD:dM P 284=D false:=aF
def ab8:cp P 284=D 1:=aF
def Ti(l i n:Nat)(cap:Option Nat)(k:Int):cm P 284 (.aD l i n 3 cap) (.int .i64 k)=if 3=3/\0<=k/\k<n then D (.ptr l (i+k.toNat) 0)else none:=aF
def Th{l i n:Nat}{cap:Option Nat}{k:Int}(a:0<=k)(af:k<n):cm P 284 (.aD l i n 3 cap) (.int .i64 k)=D (.ptr l (i+k.toNat) 0):=by rw[Ti,if_pos ⟨rfl,a,af⟩]
def UL{H:ad}{l i n e:Nat}{cap:Option Nat}:bL P H .len [284] [.aD l i n e cap]=D (.int .i64 n):=aF
def UM{H:ad}:bL P H .len [284] [.aB]=D (.int .i64 0):=aF
def Mb:dM P 286=D true:=aF
def ab9:cp P 286=D 3:=aF
def Rf(l i c:Nat):bN P 286 (.ptr l i c) 0=D (.ptr l i (c+0)):=aF
def Rg(l i c:Nat):bN P 286 (.ptr l i c) 1=D (.ptr l i (c+1)):=aF
def Rh(l i c:Nat):bN P 286 (.ptr l i c) 2=D (.ptr l i (c+2)):=aF
def Ri(l i c:Nat):bN P 292 (.ptr l i c) 0=D (.ptr l i (c+0)):=aF
def Fs{a0:ae}{a:ae}{b:ae}(c:a0.one=C)(af:a.one=C)(ah:b.one=C):dU P 56 [(0,a0),(1,a),(2,b)]=D (.agg [a0,a,b,.int .i64 0]):=by
 rw[hB];simp only[List.map_cons,List.map_nil,dx c,dx af,dx ah];kernel_rfl
def Fu{a:ae}{b:ae}{c:ae}{d:ae}{e:ae}{f:ae}{g:ae}{h:ae}{i:ae}:dU P 76 [(0,.agg [a,b,c,d,e]),(1,.agg [f,g,h,i])]=D (.agg [a,b,c,d,e,f,g,h,i,ae.aB,ae.aB]):=by
 rw[hB];simp only[List.map_cons,List.map_nil];kernel_rfl
def Fl{a:ae}{a3:ae}{a4:ae}(af:a.one=C)(an:a3.one=C)(aM:a4.one=C):dU P 196 [(1,a),(3,a3),(4,a4)]=D (.agg [.int .i64 0,ae.aB,.bool Z,.int .i64 0,.int .i64 0,.int .i64 0,ae.aB,a,.int .i64 0,a3,a4,ae.aB]):=by
 rw[hB];simp only[List.map_cons,List.map_nil,dx af,dx an,dx aM];kernel_rfl
def OE{a:ae}(af:a.one=C):dU P 33 [(1,a)]=D (.agg [.int .i64 0,a,ae.aB,ae.aB]):=by
 rw[hB];simp only[List.map_cons,List.map_nil,dx af];kernel_rfl
def OF{a0:ae}(a:a0.one=C):dU P 46 [(0,a0)]=D (.agg [a0,.int .i64 0,.int .i64 0]):=by
 rw[hB];simp only[List.map_cons,List.map_nil,dx a];kernel_rfl
def OG{a0:ae}{a:ae}{b:ae}(c:a0.one=C)(af:a.one=C)(ah:b.one=C):dU P 46 [(0,a0),(1,a),(2,b)]=D (.agg [a0,a,b]):=by
 rw[hB];simp only[List.map_cons,List.map_nil,dx c,dx af,dx ah];kernel_rfl
def Ft{a0:ae}{a:ae}{b:ae}{a3:ae}(c:a0.one=C)(af:a.one=C)(ah:b.one=C)(an:a3.one=C):dU P 56 [(0,a0),(1,a),(2,b),(3,a3)]=D (.agg [a0,a,b,a3]):=by
 rw[hB];simp only[List.map_cons,List.map_nil,dx c,dx af,dx ah,dx an];kernel_rfl
def Fm{a0:ae}{a:ae}{b:ae}{a3:ae}{a4:ae}{a5:ae}{c:ae}{d:ae}(e:a0.one=C)(af:a.one=C)(ah:b.one=C)(an:a3.one=C)(aM:a4.one=C)(f:a5.one=C)(g:c.one=C)(h:d.one=C):dU P 248 [(0,a0),(1,a),(2,b),(3,a3),(4,a4),(5,a5),(6,c),(8,d)]=D (.agg [a0,a,b,a3,a4,a5,c,ae.aB,d]):=by
 rw[hB];simp only[List.map_cons,List.map_nil,dx e,dx af,dx ah,dx an,dx aM,dx f,dx g,dx h];kernel_rfl
def Fk{a0:ae}{a:ae}(b:a0.one=C)(af:a.one=C):dU P 154 [(0,a0),(1,a)]=D (.agg [a0,a]):=by
 rw[hB];simp only[List.map_cons,List.map_nil,dx b,dx af];kernel_rfl
def Fq{a0:ae}{a:ae}(b:a0.one=C)(af:a.one=C):dU P 33 [(0,a0),(1,a)]=D (.agg [a0,a,ae.aB,ae.aB]):=by
 rw[hB];simp only[List.map_cons,List.map_nil,dx b,dx af];kernel_rfl
def Fo{b:ae}{c:ae}{d:ae}{e:ae}{f:ae}{a:ae}{g:ae}{h:ae}{i:ae}{j:ae}{k:ae}{l:ae}{m:ae}{n:ae}{o:ae}{p:ae}{q:ae}{r:ae}{s:ae}(af:a.one=C):dU P 280 [(0,.agg [b,c,d,e,f]),(1,a),(2,.agg [g,h,i,j,k,l,m]),(3,.agg [n,o,p,q,r,s])]=D (.agg [b,c,d,e,f,a,g,h,i,j,k,l,m,n,o,p,q,r,s]):=by
 rw[hB];simp only[List.map_cons,List.map_nil,dx af];kernel_rfl
def zG{a0:ae}{a:ae}{b:ae}(c:a0.one=C)(af:a.one=C)(ah:b.one=C):dU P 286 [(0,a0),(1,a),(2,b)]=D (.agg [a0,a,b]):=by
 rw[hB];simp only[List.map_cons,List.map_nil,dx c,dx af,dx ah];kernel_rfl
def OB{a0:ae}(a:a0.one=C):dU P 292 [(0,a0)]=D (.agg [a0]):=by
 rw[hB];simp only[List.map_cons,List.map_nil,dx a];kernel_rfl
def Fp{a0:ae}{a:ae}(b:a0.one=C)(af:a.one=C):dU P 312 [(0,a0),(1,a)]=D (.agg [a0,a]):=by
 rw[hB];simp only[List.map_cons,List.map_nil,dx b,dx af];kernel_rfl
def OD:dU P 33 []=D (.agg [.int .i64 0,ae.aB,ae.aB,ae.aB]):=by
 rw[hB];simp only[List.map_nil];kernel_rfl
def zH:dU P 46 []=D (.agg [.int .i64 0,.int .i64 0,.int .i64 0]):=by
 rw[hB];simp only[List.map_nil];kernel_rfl
def Oz:dU P 154 []=D (.agg [ae.aB,ae.aB]):=by
 rw[hB];simp only[List.map_nil];kernel_rfl
def OA:dU P 262 []=D (.agg [ae.aB]):=by
 rw[hB];simp only[List.map_nil];kernel_rfl
def OC:dU P 310 []=D (.agg []):=by
 rw[hB];simp only[List.map_nil];kernel_rfl
section
set_option linter.defProp false
def kG:=ar @ad.dm @ad.vW
def aj:=ar (ar (ar (ar (ar @M6 @mr) (ar @y7 (ar @Wy @WB))) (ar (ar @WC @mq) (ar @pA (ar @adi @MZ)))) (ar (ar (ar @na @NX) (ar @MY (ar @nb @adf))) (ar (ar @ac_ (ar @ade @ada)) (ar @adb (ar @ac8 @Wp))))) (ar (ar (ar (ar @Wo @On) (ar @ED (ar @EE @Na))) (ar (ar @Ez @EA) (ar @M_ (ar @EB @Ex)))) (ar (ar (ar @EC @Ey) (ar @Option.bind_some.{0,0} (ar @gP @jY))) (ar (ar @ER (ar @eN @WL)) (ar @sx (ar @WK @WJ)))))
def aJ:=ar (ar (ar (ar (ar @List.getElem?_cons_zero.{0} @List.getElem?_cons_succ.{0}) (ar @List.drop_zero.{0} @List.drop_succ_cons.{0})) (ar (ar @List.take_succ_cons.{0} @List.take_zero.{0}) (ar @List.set_cons_zero.{0} @List.set_cons_succ.{0}))) (ar (ar (ar @List.cons_append.{0} @List.nil_append.{0}) (ar @List.length_cons.{0} @List.length_nil.{0})) (ar (ar @List.all_cons.{0} @List.all_nil.{0}) (ar @Bool.and_true @Bool.and_self)))) (ar (ar (ar (ar @Nat.zero_add @Nat.add_zero) (ar @bC @and_self)) (ar (ar @and_true @true_and) (ar @if_true.{1} @bb))) (ar (ar (ar @Jv @JB) (ar @Jt @JA)) (ar (ar @Jy @Jz) (ar @Ju (ar @Jw @Jx)))))
def acp:=ar (ar (ar (ar (ar @uB (ar @D9 @abI)) (ar (ar @abt @abu) (ar @abv @abz))) (ar (ar (ar @abB @yV) (ar @abE @abF)) (ar (ar @q_ @abG) (ar @Mc @abH)))) (ar (ar (ar (ar @Md @Me) (ar @abJ @abK)) (ar (ar @abL @abo) (ar @abp @abq))) (ar (ar (ar @abr @abw) (ar @abx @aby)) (ar (ar @abA @abC) (ar @abD @Mb))))) (ar (ar (ar (ar @Mq (ar @Mr @acj)) (ar (ar @abY @abZ) (ar @ab0 @ab4))) (ar (ar (ar @ab6 @ab_) (ar @aca @acb)) (ar (ar @acd @ace) (ar @acf @acg)))) (ar (ar (ar (ar @ach @aci) (ar @ack @acm)) (ar (ar @acn @abU) (ar @abV @abW))) (ar (ar (ar @abX @ab1) (ar @ab2 @ab3)) (ar (ar @ab5 @ab7) (ar @ab8 @ab9)))))
def aC:=ar (ar (ar @RL (ar @RV @GQ)) (ar @RR (ar @RQ @RP))) (ar (ar @RO (ar @RN @RT)) (ar @RU (ar @Qg @Vx)))
def oM:=ar (ar (ar @ad.SI @ad.dO) (ar @ad.c8 @ad.cb)) (ar (ar @ad.dm @ad.vW) (ar @ad.ga @ad.set_set))
def u0:=ar (ar (ar (ar @Fs @Fu) (ar @Fl @OE)) (ar (ar @OF @OG) (ar @Ft (ar @Fm @Fk)))) (ar (ar (ar @Fq @Fo) (ar @zG (ar @OB @Fp))) (ar (ar @OD @zH) (ar @Oz (ar @OA @OC))))
def aL:=ar (ar (ar (ar (ar @Q6 (ar @Q7 @Q8)) (ar (ar @Q9 @Q_) (ar @Rj @Rk))) (ar (ar (ar @Rl @Rm) (ar @Rn @Ro)) (ar (ar @Rp @Rq) (ar @Rr @Rs)))) (ar (ar (ar @Rt (ar @Ru @Rv)) (ar (ar @Rw @Rx) (ar @Ry @Rz))) (ar (ar (ar @RA @RB) (ar @RC @RD)) (ar (ar @RE @RF) (ar @RG @RH))))) (ar (ar (ar (ar @RI (ar @RJ @RK)) (ar (ar @QM @QN) (ar @QO @QP))) (ar (ar (ar @QQ @QS) (ar @QT @QU)) (ar (ar @QV @QW) (ar @QX @QY)))) (ar (ar (ar @QZ (ar @Q0 @Q1)) (ar (ar @Q2 @Q3) (ar @Q4 @Q5))) (ar (ar (ar @Ra @Rb) (ar @Rc @Re)) (ar (ar @Rf @Rg) (ar @Rh @Ri)))))
def R7:= @R6
def sa:=ar (ar (ar (ar @UW (ar @UB @UC)) (ar (ar @UD @UE) (ar @UF @UI))) (ar (ar @UJ (ar @UK @UN)) (ar (ar @UO @UP) (ar @UQ @UR)))) (ar (ar (ar @US (ar @UT @UU)) (ar (ar @UX @UY) (ar @Uv @Uw))) (ar (ar (ar @Ux @Uy) (ar @Uz @UA)) (ar (ar @UG @UH) (ar @UL @UM))))
def Tt:=ar (ar (ar (ar @S4 @S6) (ar @S8 @Tf)) (ar (ar @Tj @Tl) (ar @Tn (ar @Tp @Tr)))) (ar (ar (ar @SU @SW) (ar @SY @S0)) (ar (ar @S2 @S_) (ar @Tb (ar @Td @Th))))
def NI:=ar aj (ar aJ (ar acp (ar aC (ar oM (ar u0 (ar aL (ar R7 (ar sa Tt))))))))
def Js:=ar (ar (ar @Jv @JB) (ar @Jt @JA)) (ar (ar @Jy @Jz) (ar @Ju (ar @Jw @Jx)))
def ai{p:Prop}(h:p:=by first|assumption|omega|(simp only[kG];omega)|(simp only[Js];done)|fail):p:=h
def adq{p:Prop}(h:p:=by first|assumption|omega|(simp only[kG];omega)|(simp only[Js];done)|(simp only[List.length_append,List.length_cons,List.length_nil];omega)|fail):p:=h
def PN:(∀cs,(ae.agg cs).cells=cs)/\(∀b,(ae.bool b).cells=[.bool b])/\(∀k n,(ae.int k n).cells=[.int k n])/\(∀s,(ae.str s).cells=[.str s])/\(∀l i c,(ae.ptr l i c).cells=[.ptr l i c])/\ae.gI.cells=[.gI]/\(∀l i n e c,(ae.aD l i n e c).cells=[.aD l i n e c])/\ae.aB.cells=[.aB]/\(∀f a b,(ae.func f a b).cells=[.func f a b])/\ae.nilFunc.cells=[.nilFunc]/\ae.nilIface.cells=[.nilIface]:=
 ⟨λ_=>rfl,λ_=>rfl,λ_ _=>rfl,λ_=>rfl,λ_ _ _=>rfl,rfl,λ_ _ _ _ _=>rfl,rfl,λ_ _ _=>rfl,rfl,rfl⟩
def R:=ar @br.eq_1 (ar @eZ.eq_1 (ar @aI.eq_1 (ar @cD.eq_1 (ar PN NI))))
end
section
set_option maxRecDepth 2000
def e1(H:ad)(ok:Nat->Prop)(H':ad)(ok':Nat->Prop):Prop:=∀l b,ok l->H.get l=D b->ok' l/\H'.get l=D b
def e1.le{H:ad}{ok ok':Nat->Prop}(h:∀l,ok l->ok' l):e1 H ok H ok':=λl _ a b=>⟨h l a,b⟩
def e1.mut{H H':ad}{ok:Nat->Prop}{S:Nat->Prop}(m:e8 S H H')(h:∀l,ok l->¬S l):e1 H ok H' ok:=λl _ a b=>⟨a,m.get b (h l a)⟩
def e1.aE{H H':ad}{ok:Nat->Prop}(m:av H H'):e1 H ok H' ok:=λ_ _ a b=>⟨a,m.get b⟩
def e1.trans{H1 d e:ad}{a b c:Nat->Prop}(h:e1 H1 a d b)(k:e1 d b e c):e1 H1 a e c:=λl x y z=>k l x (h l x y z).1 (h l x y z).2
structure ek(α:Type) where
 esz:Nat
 V:ad->(Nat->Prop)->α->List ae->Prop
 len:∀{H ok a cs},V H ok a cs->cs.length=esz/\cs.all ae.one=true
 keep:∀{H ok H' ok'} {a:α} {cs},e1 H ok H' ok'->V H ok a cs->V H' ok' a cs
def bk:Nat->Prop:=λ_=>True
section
variable {α:Type}{K:ek α}{H H':ad}{ok ok':Nat->Prop}
def ir(K:ek α)(ok:Nat->Prop)(H:ad)(l:List α)(v:ae):Prop:=(v= .aB/\l=[])\/∃L els cap,v= .aD L 0 l.length K.esz cap/\ok L/\H.get L=D (.row Z K.esz els)/\l.length<=els.length/\(cap=I\/cap=D l.length)/\∀(i:Nat) (a:α),l[i]? =D a->∃cs,els[i]? =D cs/\K.V H (λk=>ok k/\k≠L) a cs
def aO(K:ek α)(H:ad)(ok:Nat->Prop)(l:List α)(v:ae):Prop:=(v= .aB/\l=[])\/(∃L i cap ro els,v= .aD L i l.length K.esz cap/\ok L/\H.get L=D (.row ro K.esz els)/\i+l.length<=els.length/\∀(j:Nat) (a:α),l[j]? =D a->∃cs,els[i+j]? =D cs/\K.V H ok a cs)\/∃L i cap,v= .aD L i 0 K.esz cap/\l=[]
def aO.one{l:List α}{v:ae}(h:aO K H ok l v):v.one=true:=by
 rcases h with⟨rfl,_⟩|⟨L,i,cap,ro,els,rfl,_⟩|⟨L,i,cap,rfl,_⟩<;>rfl
def ir.nil:ir K ok H [] .aB:= .inl ⟨rfl,rfl⟩
def aO.nil:aO K H ok [] .aB:= .inl ⟨rfl,rfl⟩
def ir.keep{l:List α}{v:ae}(p:e1 H ok H' ok')(h:ir K ok H l v):ir K ok' H' l v:=by
 rcases h with h|⟨L,els,cap,f,d,e,j,n,m⟩
 ·exact .inl h
 ·refine .inr ⟨L,els,cap,f,(p _ _ d e).1,(p _ _ d e).2,j,n,λi a o=> ?_⟩;obtain⟨cs,q,r⟩:=m i a o;exact⟨cs,q,K.keep (λk b c g=>⟨⟨(p _ _ c.1 g).1,c.2⟩,(p _ _ c.1 g).2⟩) r⟩
def aO.keep{l:List α}{v:ae}(p:e1 H ok H' ok')(h:aO K H ok l v):aO K H' ok' l v:=by
 rcases h with h|⟨L,i,cap,ro,els,d,b,c,e,f⟩|h
 ·exact .inl h
 ·refine .inr (.inl ⟨L,i,cap,ro,els,d,(p _ _ b c).1,(p _ _ b c).2,e,λj a g=> ?_⟩);obtain⟨cs,k,m⟩:=f j a g;exact⟨cs,k,K.keep p m⟩
 ·exact .inr (.inr h)
def aO.aE{l:List α}{v:ae}(h:aO K H ok l v)(p:av H H'):aO K H' ok l v:=h.keep (.aE p)
def ir.aE{l:List α}{v:ae}(h:ir K ok H l v)(p:av H H'):ir K ok H' l v:=h.keep (.aE p)
def aO.any{l:List α}{v:ae}(h:aO K H ok l v):aO K H bk l v:=h.keep (.le λ_ _=>trivial)
def aO.below{l:List α}{v:ae}(h:aO K H ok l v):aO K H (· <H.next) l v:=h.keep λ_ _ _ g=>⟨ad.bE g,g⟩
def ir.aD{l:List α}{v:ae}(h:ir K ok H l v):aO K H ok l v:=by
 rcases h with h|⟨L,els,cap,b,c,d,k,_,e⟩
 ·exact .inl h
 ·refine .inr (.inl ⟨L,0,cap,Z,els,b,c,d,aa,λj a f=> ?_⟩);obtain⟨cs,g,i⟩:=e j a f;exact⟨cs,by rw[Nat.zero_add];exact g,K.keep (e1.le λ_ h=>h.1) i⟩
structure eW(t e esz:Nat):Prop where
 un:P.underlying t=some (.slice e)
 ts:cp P e=some esz
 hj:∃b,kO P e=some b/\b<=200
 uZ:∃z,e2 P e=some z/\z.cells.length=esz/\z.cells.all ae.one=true
 pos:0<esz/\esz<=100
def hI{t e:Nat}(hu:P.underlying t=D (.slice e))(l i n z:Nat)(c:Option Nat):bL P H .len [t] [.aD l i n z c]=D (.int .i64 n):=by simp[bL,rD,hu]
def len_nil{t e:Nat}(hu:P.underlying t=D (.slice e)):bL P H .len [t] [.aB]=D (.int .i64 0):=by simp[bL,rD,hu]
def aO.len{t e esz:Nat}(y:eW t e esz){l:List α}{v:ae}(h:aO K H ok l v){H0:ad}:bL P H0 .len [t] [v]=D (.int .i64 l.length):=by
 rcases h with⟨rfl,rfl⟩|⟨L,i,cap,ro,els,rfl,_⟩|⟨L,i,cap,rfl,rfl⟩
 ·exact len_nil y.un
 ·exact hI y.un _ _ _ _ _
 ·exact hI y.un _ _ _ _ _
def nF{t e esz:Nat}(y:eW t e esz){l i n:Nat}{c:Option Nat}{j:Int}(a:0<=j)(af:j<n):cm P t (.aD l i n esz c) (.int .i64 j)=D (.ptr l (i+j.toNat) 0):=by
 simp[cm,y.un,y.ts,a,af]
def aO.at_{t e:Nat}(y:eW t e K.esz){l:List α}{v:ae}(h:aO K H ok l v){j:Int}{a:α}(g:0<=j)(b:l[j.toNat]? =D a):∃L i ro els cs,cm P t v (.int .i64 j)=D (.ptr L i 0)/\ok L/\H.get L=D (.row ro K.esz els)/\els[i]? =D cs/\K.V H ok a cs:=by
 have al:=(List.getElem?_eq_some_iff.1 b).1;rcases h with⟨rfl,rfl⟩|⟨L,i,cap,ro,els,rfl,c,d,n,f⟩|⟨L,i,cap,rfl,rfl⟩
 ·simp at b
 ·obtain⟨cs,k,m⟩:=f _ _ b;exact⟨L,i+j.toNat,ro,els,cs,nF y g aa,c,d,k,m⟩
 ·simp at b
def aO.agg{t e:Nat}(y:eW t e K.esz)(c:dM P e=D C){l:List α}{v:ae}(h:aO K H ok l v){j:Int}{a:α}(b:0<=j)(d:l[j.toNat]? =D a):∃p cs,cm P t v (.int .i64 j)=D p/\aI P H e p=D (.agg cs)/\K.V H ok a cs:=by
 obtain⟨L,i,ro,els,cs,af,_,ah,an,aM⟩:=h.at_ y b d;refine⟨_,cs,af,?_,aM⟩;rw[gY c y.ts ah an aa,List.drop_zero,List.take_of_length_le (by have:=(K.len aM).1;omega)]
def aO.val{t e:Nat}(y:eW t e K.esz)(c:dM P e=D Z){l:List α}{v:ae}(h:aO K H ok l v){j:Int}{a:α}(b:0<=j)(d:l[j.toNat]? =D a):∃p cs,cm P t v (.int .i64 j)=D p/\aI P H e p=cs[0]? /\K.V H ok a cs:=by
 obtain⟨L,i,ro,els,cs,af,_,ah,an,aM⟩:=h.at_ y b d;exact⟨_,cs,af,e_ c ah an,aM⟩
def aO.els{l:List α}{v:ae}(h:aO K H ok l v){t e:Nat}(y:eW t e K.esz):∃c,jT P H t K.esz v=D c/\c.length=l.length/\∀(i:Nat) (a:α),l[i]? =D a->∃cs,c[i]? =D cs/\K.V H ok a cs:=by
 rcases h with⟨rfl,rfl⟩|⟨L,i,cap,ro,els,rfl,p,f,g,k⟩|⟨L,i,cap,rfl,rfl⟩
 ·exact⟨[],by simp[jT,y.un],rfl,λi a h=>by simp at h⟩
 ·by_cases d:l.length=0
  ·refine⟨[],by simp[jT,y.un,d],by simp[d],λj a b=> ?_⟩;have:=(List.getElem?_eq_some_iff.1 b).1;omega
  ·refine⟨(els.drop i).take l.length,by simp[jT,y.un,gN,f,g,d],by simp;omega,λj a b=> ?_⟩;obtain⟨cs,n,o⟩:=k j a b;refine⟨cs,?_,o⟩;have m:=(List.getElem?_eq_some_iff.1 b).1;rw[List.getElem?_take_of_lt m,List.getElem?_drop];exact n
 ·exact⟨[],by simp[jT,y.un],rfl,λi a h=>by simp at h⟩
def lS(K:ek α)(H:ad)(c:Nat->Prop)(t:Nat)(m:List α)(w:ae):Prop:=(∃b,jT P H t K.esz w=D b/\b.length=m.length/\∀(i:Nat) (a:α),m[i]? =D a->∃cs,b[i]? =D cs/\K.V H c a cs)/\∀e,rE w e=I
def aO.z7{l:List α}{v:ae}(h:aO K H ok l v){t e:Nat}(y:eW t e K.esz):lS K H ok t l v:=⟨h.els y,λe=>by
 rcases h with⟨rfl,_⟩|⟨L,i,cap,ro,els,rfl,_⟩|⟨L,i,cap,rfl,_⟩<;>rfl⟩
def lS.plain{b okE':Nat->Prop}{t:Nat}{l:List α}{v:ae}(h:lS K H b t l v)(e:∀a cs,K.V H b a cs->K.V H okE' a cs):lS K H okE' t l v:=by
 obtain⟨⟨c,af,ah,an⟩,aM⟩:=h;exact⟨⟨c,af,ah,λi a d=>by obtain⟨cs,f,g⟩:=an i a d;exact⟨cs,f,e _ _ g⟩⟩,aM⟩
def N6{ag:Nat->Prop}{t e:Nat}(y:eW t e K.esz){l m:List α}{v w:ae}(h:ir K ok H l v)(hm:lS K H ag t m w)(N:∀k b,ag k->H.get k=D b->ok' k/\∀L n c,v= .aD L 0 n K.esz c->k≠L)(f:∀k b,ok k->H.get k=D b->ok' k)(aH:ok' H.next)(al:l.length+m.length<=1000000000):
  ∃E H',ee P H [t,t] v w=D (E,H')/\ir K ok' H' (l++m) E/\H.next<=H'.next/\(∀k,k<H.next->(∀L n c,v= .aD L 0 n K.esz c->k≠L)->H'.get k=H.get k)/\(E=v\/∃n,E= .aD H.next 0 n K.esz I):=by
 obtain⟨⟨d,d1,d2,d3⟩,ak⟩:=hm;obtain⟨b,q,S⟩:=y.hj;obtain⟨z,s,u,_⟩:=y.uZ;have r:mM P t=false:=by simp[mM,y.un]
 have aj:=ak e;by_cases R:m.length=0
 ·
  obtain rfl:=List.length_eq_zero_iff.1 R;obtain rfl:=List.length_eq_zero_iff.1 (d2.trans R);refine⟨v,H,?_,?_,bC _,λ_ _ _=>rfl,.inl rfl⟩
  ·rcases h with⟨rfl,rfl⟩|⟨L,els,cap,rfl,_⟩
   ·simp[ee,y.un,y.ts,q,s,u,y.pos.1,r,d1]
   ·simp[ee,y.un,y.ts,q,s,u,y.pos.1,r,d1]
  ·rw[List.append_nil];exact h.keep λk b B g=>⟨f k b B g,g⟩
 have O:d.length≠0:=aa;rcases h with⟨rfl,rfl⟩|⟨L,els,cap,rfl,ap,G,ar,ai,M⟩
 ·have af:d.length*b<=140737488355328:=Nat.le_trans (Nat.mul_le_mul_left _ S) (by simp at al;omega);have ah:d.length<=9223372036854775807:=by simp at al;omega
  refine⟨.aD H.next 0 d.length K.esz I,H.push (.row Z K.esz d),by simp[ee,y.un,y.ts,q,s,u,y.pos.1,r,d1,O,af,ah,aj,dT],?_,by simp,λk f _=>ad.dO aa,.inr ⟨_,rfl⟩⟩;refine .inr ⟨H.next,d,I,by rw[List.nil_append,d2],aH,ad.a_ _ _,by rw[List.nil_append,d2];exact bC _,.inl rfl,λi a j=> ?_⟩;obtain⟨cs,o,p⟩:=d3 i a (by simpa using j);refine⟨cs,o,K.keep (λk b f g=> ?_) p⟩;have:=ad.bE g;exact⟨⟨(N k b f g).1,aa⟩,(av.push _ _).get g⟩
 ·have au:=ad.bE G;have af:(l.length+d.length)*b<=140737488355328:=Nat.le_trans (Nat.mul_le_mul_left _ S) aa;have ah:l.length+d.length<=9223372036854775807:=aa;have T:gN H L 0 l.length K.esz=D (els.take l.length):=by
   simp only[gN,G];simp only[true_and,Nat.zero_add];rw[if_pos aa,List.drop_zero]
  have Y:(els.take l.length).length=l.length:=by simp;omega
  replace M:∀(i:Nat) (a:α),l[i]? =D a->∃cs,(els.take l.length)[i]? =D cs/\K.V H (λk=>ok k/\k≠L) a cs:=λi a j=>by
   obtain⟨cs,o,p⟩:=M i a j;exact⟨cs,by rw[List.getElem?_take_of_lt (List.getElem?_eq_some_iff.1 j).1];exact o,p⟩
  have U:∀H1:ad,H1.next=H.next->(∀k b,H.get k=D b->k≠L->H1.get k=D b)->ir K ok' (H1.push (.row Z K.esz (els.take l.length++d))) (l++m) (.aD H.next 0 (l.length+d.length) K.esz I):=by
   intro H1 ao an;have ab:∀k b,H.get k=D b->k≠L->(H1.push (.row Z K.esz (els.take l.length++d))).get k=D b:=λk b g Q=>by
    have:=ad.bE g;rw[ad.dO aa];exact an k b g Q
   refine .inr ⟨H.next,els.take l.length++d,I,by rw[List.length_append,d2],aH,by rw[<-ao];exact ad.a_ _ _,by rw[List.length_append,List.length_append,Y,d2];exact bC _,.inl rfl,λi a j=> ?_⟩;by_cases am:i<l.length
   ·rw[List.getElem?_append_left am]at j;obtain⟨c,o,p⟩:=M i a j;refine⟨c,by rw[List.getElem?_append_left aa];exact o,K.keep (λk x B g=> ?_) p⟩;have:=ad.bE g;exact⟨⟨f k x B.1 g,aa⟩,ab k x g B.2⟩
   ·rw[List.getElem?_append_right aa]at j;obtain⟨c,o,p⟩:=d3 _ a j;refine⟨c,by rw[List.getElem?_append_right aa,Y];exact o,K.keep (λk x f g=> ?_) p⟩;have:=ad.bE g;exact⟨⟨(N k x f g).1,aa⟩,ab k x g ((N k x f g).2 L _ _ rfl)⟩
  rcases ai with rfl|rfl
  ·refine⟨_,_,by simp[ee,y.un,y.ts,q,s,u,y.pos.1,r,d1,O,af,ah,T,G],U (H.set L (gone 0 H.next K.esz els)) rfl (λk b g Q=>by rw[ad.cb (Ne.symm Q)];exact g),by simp,λk f W=> ?_,.inr ⟨_,rfl⟩⟩;rw[ad.dO (by simp;omega),ad.cb (λe=>W L _ _ rfl e.symm)]
  ·have aq:0<d.length:=aa;refine⟨_,_,by simp[ee,y.un,y.ts,q,s,u,y.pos.1,r,d1,O,af,ah,T,aq],U H rfl (λk b g _=>g),by simp,λk f W=>ad.dO aa,.inr ⟨_,rfl⟩⟩
def ir.lt{l:List α}{v:ae}(h:ir K ok H l v){L n:Nat}{c:Option Nat}(e:v= .aD L 0 n K.esz c):L<H.next:=by
 rcases h with⟨rfl,_⟩|⟨L',els,cap,rfl,_,a,_⟩
 ·cases e
 ·cases e;exact ad.bE a
structure bq(K:ek α)(B:Nat)(ok:Nat->Prop)(H:ad)(l:List α)(v:ae):Prop where
 e9:ir K ok H l v
 low:∀L n c,v= .aD L 0 n K.esz c->B<=L
def bq.nil(K:ek α)(B:Nat)(ok:Nat->Prop)(H:ad):bq K B ok H [] .aB:=⟨.nil,λ_ _ _ h=>by cases h⟩
def bq.aD{B:Nat}{l:List α}{v:ae}(h:bq K B ok H l v):aO K H ok l v:=h.e9.aD
def bq.keep{B:Nat}{l:List α}{v:ae}(p:e1 H ok H' ok')(h:bq K B ok H l v):bq K B ok' H' l v:=⟨h.e9.keep p,h.low⟩
def bq.aE{B:Nat}{l:List α}{v:ae}(h:bq K B ok H l v)(p:av H H'):bq K B ok H' l v:=⟨h.e9.aE p,h.low⟩
def cT(B:Nat)(H H':ad):Prop:=H.next<=H'.next/\∀l,l<B->H'.get l=H.get l
def cT.refl(B:Nat)(H:ad):cT B H H:=⟨bC _,λ_ _=>rfl⟩
def cT.trans{B:Nat}{H1 a b:ad}(h:cT B H1 a)(k:cT B a b):cT B H1 b:=⟨Nat.le_trans h.1 k.1,λl al=>(k.2 l al).trans (h.2 l al)⟩
def eH{B:Nat}{H1 a:ad}(h:av H1 a)(b:B<=H1.next):cT B H1 a:=⟨h.1,λl al=>h.2 l aa⟩
def cT.aE{H1 a:ad}(h:cT H1.next H1 a):av H1 a:=h
def cT.le{B zC:Nat}{H1 a:ad}(h:cT B H1 a)(aq:zC<=B):cT zC H1 a:=⟨h.1,λl al=>h.2 l aa⟩
def aO.gy{B:Nat}{l:List α}{v:ae}(h:aO K H (· <B) l v)(p:cT B H H'):aO K H' (· <B) l v:=h.keep λk b a g=>⟨a,by rw[p.2 k a];exact g⟩
def bq.app{B:Nat}{j:Nat->Prop}{t e:Nat}(y:eW t e K.esz){l m:List α}{v w:ae}(h:bq K B ok H l v)(r:B<=H.next)(hm:lS K H j t m w)(s:∀k b,j k->H.get k=D b->ok' k/\∀L n c,v= .aD L 0 n K.esz c->k≠L)(i:∀k b,ok k->H.get k=D b->ok' k)(aH:ok' H.next)(al:l.length+m.length<=1000000000):
  ∃a H',ee P H [t,t] v w=D (a,H')/\bq K B ok' H' (l++m) a/\cT B H H'/\(∀k,k<H.next->(∀L n c,v= .aD L 0 n K.esz c->k≠L)->H'.get k=H.get k)/\(a=v\/∃n,a= .aD H.next 0 n K.esz I):=by
 obtain⟨a,H',o,p,q,f,g⟩:=N6 y h.e9 hm s i aH al;refine⟨a,H',o,⟨p,λL n c d=> ?_⟩,⟨q,λk i=>f k aa λL n c d=>by have:=h.low L n c d;omega⟩,f,g⟩;rcases g with rfl|⟨u,rfl⟩
 ·exact h.low L n c d
 ·cases d;exact r
def lS.one{d:Nat->Prop}{t e:Nat}(y:eW t e K.esz){a:α}{cs:List ae}{ro:Bool}{cap:Option Nat}{L:Nat}(aP:H.get L=D (.row ro K.esz [cs]))(f:K.V H d a cs):lS K H d t [a] (.aD L 0 1 K.esz cap):=by
 refine⟨⟨[cs],by simp[jT,y.un,gN,aP],rfl,λi b c=> ?_⟩,λ_=>rfl⟩;rcases i with _|i
 ·cases c;exact⟨cs,rfl,f⟩
 ·simp at c
def pr{t e esz:Nat}(y:eW t e esz)(l:Nat){v:ae}{cs:List ae}(aq:v.cells=cs)(h:cs.length=esz)(aR:cs.all ae.one=C):gd P l t 1 [(0,v)]=D (.aD l 0 1 esz (D 1),.row Z esz [cs]):=by
 obtain⟨z,a,b,c⟩:=y.uZ;have af:1*esz<=16777216:=by have:=y.pos.2;omega
 have ah:esz<=16777216:=by have:=y.pos.2;omega
 have d:∀x∈z.cells,x.one=true:=by simpa using c
 simp[gd,y.un,y.ts,a,b,ks,h,aR,ah,aq];rw[decide_eq_true d];rfl
def bq.rF{B:Nat}{H1:ad}{t e:Nat}(y:eW t e K.esz){l:List α}{v:ae}{a:α}{cs:List ae}(h:bq K B ok H l v)(s:B<=H.next)(p:av H H1)(u:K.V H1 (λk=>H.next<=k) a cs)(i:∀k,ok k\/H.next<=k->ok' k)(al:l.length<=999999999):
  ∃f H',ee P (H1.push (.row Z K.esz [cs])) [t,t] v (.aD H1.next 0 1 K.esz (D 1))=D (f,H')/\bq K B ok' H' (l++[a]) f/\cT B H H'/\H1.next<H'.next/\(∀k,k<H1.next->(∀L n c,v= .aD L 0 n K.esz c->k≠L)->H'.get k=H1.get k):=by
 have pp:=av.push H1 (.row Z K.esz [cs]);have z:=p.1;have w:∀L n c,v= .aD L 0 n K.esz c->L<H.next:=λL n c j=>h.e9.lt j
 obtain⟨f,H',o,q,m,r,_⟩:=bq.app (ok:=ok) (ok':=ok') y ((h.aE p).aE pp) (by simp;omega) (lS.one y (ad.a_ _ _) (K.keep (.aE pp) u)) (λk b d g=>⟨i k (.inr d),λL n c j=>by have:=w L n c j;omega⟩) (λk b d _=>i k (.inl d)) (i _ (.inr (by simp;omega))) (by simp;omega);refine⟨f,H',o,q,((eH p s).trans (eH pp aa)).trans m,by have:=m.1;simp at this;omega,λk d x=> ?_⟩;rw[r k (by simp;omega) x,ad.dO aa]
def jz(K:ek α)(v:ae):Prop:=∀L n c,v= .aD L 0 n K.esz c->c=I\/n=0
def jz.app{v a:ae}{B:Nat}(h:jz K v)(e:a=v\/∃n,a= .aD B 0 n K.esz I):jz K a:=by
 rcases e with rfl|⟨n,rfl⟩
 ·exact h
 ·intro L n c e;cases e;exact .inl rfl
def bq.pop{B:Nat}{t e:Nat}(y:eW t e K.esz){l:List α}{a:α}{v:ae}(h:bq K B ok H (l++[a]) v)(aq:jz K v):∃w,hD P t v I (D (.int .i64 l.length)) I=D w/\bq K B ok H l w/\jz K w:=by
 obtain⟨af,ah⟩:=h;rcases af with⟨_,al⟩|⟨L,els,cap,rfl,g,j,k,o,m⟩
 ·simp at al
 ·simp only[List.length_append,List.length_cons,List.length_nil,Nat.zero_add]at k aq ah ⊢;rcases aq L _ _ rfl with rfl|p
  ·refine⟨.aD L 0 l.length K.esz I,?_,⟨.inr ⟨L,els,I,rfl,g,j,aa,.inl rfl,λi b f=> ?_⟩,λL' n c d=> ?_⟩,λL' n c d=> ?_⟩
   ·have af:(l.length:Int)<=(l.length:Int)+1:=aa;simp[hD,y.un,y.ts,eg,af]
   ·refine m i b ?_;rw[List.getElem?_append_left (List.getElem?_eq_some_iff.1 f).1];exact f
   ·cases d;exact ah _ _ _ rfl
   ·cases d;exact .inl rfl
  ·omega
def qo{t e esz:Nat}{z:ae}{b:Nat}(hu:P.underlying t=D (.slice e))(f:cp P e=D esz)(a:kO P e=D b)(g:e2 P e=D z)(h:z.cells.length=esz)(i:z.cells.all ae.one=C)(d:0<esz)(c:b<=100000)(l n:Nat)(aH:n<=1000000000):f_ (g9 P ⟨.leaf,l⟩ t (.int .i64 n) (.int .i64 n)) l=D (.aD l 0 n esz (D n),.row Z esz (List.replicate n z.cells)):=by
 have af:(b:Int)*(n:Int)<=281474976710656:=by
  have:b*n<=100000*1000000000:=Nat.mul_le_mul c aH;have:((b*n:Nat):Int)<=281474976710656:=aa;simpa using this
 have ah:(n:Int)<=9223372036854775807:=aa;have an:(0:Int)<=(n:Int):=aa;have aP:=ad.a_ (⟨.leaf,l⟩:ad) (.row Z esz (List.replicate n z.cells));simp only[g9,hu,f,a,g];rw[if_pos (by simp only[true_and];exact⟨an,Int.le_refl _,ah,af,h,d,i⟩)];simp only[f_,Int.toNat_natCast,aP];rw[if_pos (by simp),if_pos (show(bn.row Z esz (List.replicate n z.cells)).hG=C from rfl)]
end
end
end Go.Proofs.YtmhhnnklfcbgfaaGreat
namespace Go.bz
section
variable {P:Program}{call:aw}{ops:Array Oper}
def r5(o:Op):K->Prop
 | .cN _ _=>cls o= .write\/cls o= .call
 | .new _ _=>cls o= .new
 | .read _=>cls o= .read\/cls o= .both
 |_=>True
def G0{o:Op}{R:bf}{H:ad}{g a:K->O}(h:∀x,r5 o x->g x=a x):dg P call o R H g=dg P call o R H a:=by
 unfold dg;split
 ·cases gQ P o R with
  |none=>rfl
  |some v=>exact h (.pure v) trivial
 ·rename_i aq;cases gR P o R H with
  |none=>rfl
  |some v=>exact h (.read v) (.inl aq)
 ·rename_i aq;unfold hM;cases gQ P o R with
  |some v=>exact h (.pure v) trivial
  |none=>
   cases gR P o R H with
   |none=>rfl
   |some v=>exact h (.read v) (.inr aq)
 ·rename_i aq;unfold im;cases hF P o R H.next with
  |none=>rfl
  |some p=>exact h (.new p.1 p.2) aq
 ·rename_i aq;unfold dD;cases j2 P o R H with
  |none=>rfl
  |some p=>exact congrArg (λz=>bif decide (H.next<=p.2.next)then z else I) (h (.cN p.1 p.2) (.inl aq))
 ·rename_i aq;cases o<;>try rfl
  rename_i c;simp only
  cases oJ P H R c with
  |none=>rfl
  |some p=>
   simp only[Option.bind_some];unfold dD;cases call p.1 p.2 H with
   |none=>rfl
   |some q=>exact congrArg (λz=>bif decide (H.next<=q.2.next)then z else I) (h (.cN q.1 q.2) (.inr aq))
def R5{o:Oper}{R:bf}{H:ad}{g a:K->O}(h:∀x,r5 o.op x->g x=a x):k9 P call ops o R H g=k9 P call ops o R H a:=by
 unfold k9;split
 ·exact G0 h
 ·split
  ·split
   ·rename_i d _;unfold bX;split
    ·rw[G0 h,h .skip trivial]
    ·exact h .skip trivial
   ·exact h .skip trivial
  ·exact h .skip trivial
def uJ:List Oper->Nat->List eP->Prop
 |[],_,T=>T=[]
 |o::os,i,T=>∃t a,T=t::a/\t.i=i/\r5 o.op t.k/\uJ os (i+1) a
def oH(ms:List Nat):List Oper->Nat->List Nat->Bool
 |[],_,_=>C
 |o::os,i,ids=>match cls o.op with
  | .new=>oH ms os (i+1) (i::ids)
  | .write=>ids.all (λj=>ca ms j i)&&oH ms os (i+1) (i::ids)
  | .call=>ids.all (λj=>ca ms j i)&&oH ms os (i+1) (i::ids)
  |_=>oH ms os (i+1) ids
def wu(cE:List Nat):List Oper->Nat->Bool
 |[],_=>C
 |o::os,i=>(match cls o.op with
  | .read=>cE.contains i
  | .both=>cE.contains i
  |_=>C)&&wu cE os (i+1)
def oG{ms:List Nat}:∀{T:List eP} {ids c:List Nat},(∀j∈ids,j∈c)->gX ms T c=C->gX ms T ids=C
 |[],_,_,_,_=>rfl
 |t::T,ids,c,a,h=>by
  have aq:∀j,j∈t.i::ids->j∈t.i::c:=λj b=>by
   rcases List.mem_cons.1 b with rfl|b
   ·simp
   ·exact List.mem_cons_of_mem _ (a j b)
  rw[gX]at h ⊢;cases d:t.k<;>rw[d]at h<;>simp only at h ⊢
  ·exact oG a h
  ·exact oG a h
  ·exact oG a h
  ·exact oG aq h
  ·simp only[Bool.and_eq_true,List.all_eq_true]at h ⊢;exact⟨λj b=>h.1 j (a j b),oG aq h.2⟩
def rP{ms:List Nat}:∀{os:List Oper} {i:Nat} {T:List eP} {ids:List Nat},uJ os i T->oH ms os i ids=C->gX ms T ids=C
 |[],_,T,_,h,_=>by cases h;rfl
 |o::os,i,T,ids,h,he=>by
  obtain⟨t,d,rfl,rfl,a,bY⟩:=h;have sub:∀j∈ids,j∈t.i::ids:=λj b=>List.mem_cons_of_mem _ b
  rw[oH]at he;rw[gX];cases aq:cls o.op<;>rw[aq]at he<;>simp only[Bool.and_eq_true]at he<;>cases c:t.k<;>rw[c]at a<;>simp only[r5,aq]at a<;>simp only[Bool.and_eq_true]<;>first
   |exact rP bY he
   |exact oG sub (rP bY he)
   |exact oG sub (rP bY he.2)
   |exact⟨he.1,rP bY he.2⟩
   |(cases a;done)
   |(rcases a with a|a<;>cases a;done)
def J6{ms cE:List Nat}{T0:List eP}{H:ad}:∀{os:List Oper} {i:Nat} {T:List eP},uJ os i T->wu cE os i=C->h3 ms cE T0 H T=C
 |[],_,T,h,_=>by cases h;rfl
 |o::os,i,T,h,he=>by
  obtain⟨t,c,rfl,rfl,a,bY⟩:=h;rw[wu,Bool.and_eq_true]at he;rw[h3,Bool.and_eq_true];refine⟨?_,J6 bY he.2⟩;have af:=he.1;cases b:t.k<;>simp only
  rw[b]at a;simp only[r5]at a;rcases a with a|a<;>(rw[a]at af;simp only at af;rw[af,Bool.true_or])
def zO{lh:List eP->bf->ad->O}{k:bf->ad->O}:∀(os:List Oper) (i:Nat) (R:bf) (H:ad),ops.toList.drop i=os->(∀T a7 H',uJ os i T->lh T a7 H'=k a7 H')->
   iH P call ops (List.range' i os.length) R H lh=jr P call ops os R H k
  |[],_,R,H,_,h=>by
   rw[List.length_nil,List.range'_zero,iH,jr];exact h [] R H rfl
  |o::os,i,R,H,aR,h=>by
   have a:ops[i]? =D o:=by
    rw[<-Array.getElem?_toList,<-List.SH i ops.toList,aR];rfl
   rw[List.length_cons,List.range'_succ,iH,a,jr];refine R5 λx aA=> ?_
   refine zO os (i+1) _ _ ?_ λT a7 H' dh=> ?_
   ·rw[<-List.drop_drop,aR];rfl
   ·exact h _ _ _ ⟨_,_,rfl,rfl,aA,dh⟩
 where List.SH (i:Nat) (l:List Oper):(l.drop i)[0]? =l[i]? :=by rw[List.getElem?_drop];simp
def v8(ops:Array Oper):Bool:=decide (order ops=List.range ops.size)&&((m4 ops (order ops)).isNone&&(quiet ops||(oH (b9 ops) ops.toList 0 []&&wu (g3 ops) ops.toList 0)))
def WR{R:bf}{H:ad}{k:bf->ad->O}(h:v8 ops=C):lG P call ops C R H k=jr P call ops ops.toList R H k:=by
 unfold v8 at h;simp only[Bool.and_eq_true,Bool.or_eq_true,decide_eq_true_eq,Option.isNone_iff_eq_none]at h;obtain⟨af,ah,an⟩:=h;have e:List.range ops.size=List.range' 0 ops.toList.length:=by rw[List.range_eq_range'];simp
 unfold lG;simp only
 rw[ah];simp only
 rw[af,e];cases aN:quiet ops with
 |true=>
  simp only[gP];exact zO _ 0 _ _ rfl λ_ _ _ _=>rfl
 |false=>
  rw[aN]at an;simp only[Bool.false_eq_true,false_or]at an;simp only[jY];refine zO _ 0 _ _ rfl λT a7 H' dh=> ?_
  have a:=rP dh an.1;have b:=J6 (ms:=b9 ops) (T0:=T) (H:=H) dh an.2;simp only[iJ,a,b,Bool.and_self,gP]
end
section
variable {P:Program}{call:aw}{ops:Array Oper}
def eU(P:Program)(t:TypeId):Option (List ae):=match j9 P t,e2 P t with
 |none,D z=>bif z.cells.all ae.one then D z.cells else I
 |_,_=>I
def y_(P:Program)(H:ad)(t:TypeId)(o:Option (List ae))(k:ae->ad->O):O:=match o with
 |some cs=>fu H cs k
 |none=>eK H ((e2 P t).bind (k5 (j9 P t) H.next)) k
def dP(P:Program)(call:aw)(o:Op)(R:bf)(H:ad)(k:ae->ad->O):O:=match o with
 | .alloc t=>y_ P H t (eU P t) k
 | .box t x=>(bd R x).bind λv=>eK H (k5 (j9 P t) H.next v) k
 | .buildSlice t n db=>(hS R db.toList).bind λl=>eK H (gd P H.next t n l) k
 | .makeMap t r=>eK H (hF P (.makeMap t r) R H.next) k
 | .makeSlice t x c=>(bd R x).bind λu=>(bd R c).bind λv=>eK H (f_ (g9 P ⟨.leaf,H.next⟩ t u v) H.next) k
 | .load t x=>(bd R x).bind λu=>aU (aI P H t u) λv=>k v H
 | .lookup t x i ok=>aU (gR P (.lookup t x i ok) R H) λv=>k v H
 | .store t x y=>(bd R x).bind λu=>(bd R y).bind λv=>fw H (cD P H t u v) λH'=>k (.tuple []) H'
 | .mapUpdate t m i x=>(bd R m).bind λu=>(bd R i).bind λv=>(bd R x).bind λz=>fw H (iD P H t u v z) λH'=>k (.tuple []) H'
 | .insert t m i x=>(bd R m).bind λu=>(bd R i).bind λv=>(bd R x).bind λz=>fw H (iD P H t u v z) λH'=>k (.tuple []) H'
 | .convert s d x=>(bd R x).bind λv=>En P s d v H λw=>k w H
 | .call c=>match c.callee with
  | .builtin .append=>dW H (j2 P (.call c) R H) k
  | .builtin .clear=>dW H (j2 P (.call c) R H) k
  | .builtin b=>(eE R c.args.toList).bind λak=>br P b c.argTypes.toList ak H λw=>k w H
  | .value f=>(bd R f).bind λu=>(eE R c.args.toList).bind λak=>oe call H u ak k
  | .invoke r a=>(bd R r).bind λu=>(eE R c.args.toList).bind λak=>(ia P H u a ak).bind λp=>dW H (call p.1 p.2 H) k
 |o=>aU (gQ P o R) λv=>k v H
def zI{r:Option ae}{k:ae->O}:r.bind k=aU r k:=by cases r<;>rfl
def step_eq(o:Op)(R:bf)(H:ad)(k:ae->ad->O):dg P call o R H (λx=>k x.val (x.heap H))=dP P call o R H k:=by
 have pu:cls o= .pure->dg P call o R H (λx=>k x.val (x.heap H))=aU (gQ P o R) λv=>k v H:=λh=>by
  unfold dg;rw[h];simp only[zI];rfl
 have g:cls o= .read->dg P call o R H (λx=>k x.val (x.heap H))=aU (gR P o R H) λv=>k v H:=λh=>by
  unfold dg;rw[h];simp only[zI];rfl
 have ne:cls o= .new->dg P call o R H (λx=>k x.val (x.heap H))=eK H (hF P o R H.next) k:=λh=>by
  unfold dg;rw[h];simp only[im,eK];cases hF P o R H.next<;>rfl
 have wr:cls o= .write->dg P call o R H (λx=>k x.val (x.heap H))=dW H (j2 P o R H) k:=λh=>by
  unfold dg;rw[h];simp only[dD,dW];cases j2 P o R H<;>rfl
 cases o with
 |alloc t=>
  rw[ne rfl];simp only[dP,hF];cases a:eU P t with
  |none=>rfl
  |some cs=>
   unfold eU at a;split at a
   ·rename_i z af ah;cases e:z.cells.all ae.one<;>rw[e]at a
    ·cases a
    ·cases a;simp only[y_,af,ah,Option.bind_some,k5,e,gP,eK,fu];rfl
   ·cases a
 |box t x=>rw[ne rfl];simp only[dP,hF];cases bd R x<;>rfl
 |buildSlice t n db=>rw[ne rfl];simp only[dP,hF];cases hS R db.toList<;>rfl
 |makeMap t r=>rw[ne rfl];rfl
 |makeSlice t x c=>rw[ne rfl];simp only[dP,hF];cases bd R x with
  |none=>rfl
  |some u=>cases bd R c<;>rfl
 |load t x=>rw[g rfl];simp only[dP,gR];cases bd R x<;>rfl
 |lookup t x i ok=>rw[g rfl];rfl
 |store t x y=>
  rw[wr rfl];simp only[dP,j2];cases bd R x with
  |none=>rfl
  |some u=>cases bd R y with
   |none=>rfl
   |some v=>simp only[Option.bind_some,fw];cases cD P H t u v<;>rfl
 |mapUpdate t m i x=>
  rw[wr rfl];simp only[dP,j2];cases bd R m with
  |none=>rfl
  |some u=>cases bd R i with
   |none=>rfl
   |some v=>cases bd R x with
    |none=>rfl
    |some z=>simp only[Option.bind_some,fw];cases iD P H t u v z<;>rfl
 |insert t m i x=>
  rw[wr rfl];simp only[dP,j2];cases bd R m with
  |none=>rfl
  |some u=>cases bd R i with
   |none=>rfl
   |some v=>cases bd R x with
    |none=>rfl
    |some z=>simp only[Option.bind_some,fw];cases iD P H t u v z<;>rfl
 |convert s d x=>
  simp only[dg,cls,dP,gQ,gR];cases bd R x with
  |none=>rfl
  |some v=>simp only[Option.bind_some,hM,En];cases pP P s d v<;>rfl
 |call c=>
  have j:∀b,c.callee= .builtin b->cls (.call c)= .both->dg P call (.call c) R H (λx=>k x.val (x.heap H))=(eE R c.args.toList).bind λak=>br P b c.argTypes.toList ak H λw=>k w H:=λb l h=>by
   unfold dg;rw[h];simp only[gQ,gR,l];cases eE R c.args.toList with
   |none=>rfl
   |some ak=>simp only[Option.bind_some,hM,br];cases bL P .empty b c.argTypes.toList ak<;>rfl
  simp only[dP];cases aq:c.callee with
  |builtin b=>
   by_cases af:b= .append
   ·subst af;exact wr (by simp[cls,aq])
   by_cases ah:b= .clear
   ·subst ah;exact wr (by simp[cls,aq])
   have an:cls (.call c)= .both:=by
    cases b<;>first|(simp only[cls,aq];done)|exact absurd rfl af|exact absurd rfl ah
   rw[j b aq an];cases b<;>first|rfl|exact absurd rfl af|exact absurd rfl ah
  |value f=>
   simp only[dg,cls,aq,oJ];cases bd R f with
   |none=>rfl
   |some u=>cases eE R c.args.toList with
    |none=>rfl
    |some ak=>
     simp only[Option.bind_some,oe];cases nu u ak with
     |none=>rfl
     |some p=>simp only[Option.bind_some,dD,dW];cases call p.1 p.2 H<;>rfl
  |invoke r q=>
   simp only[dg,cls,aq,oJ];cases bd R r with
   |none=>rfl
   |some u=>cases eE R c.args.toList with
    |none=>rfl
    |some ak=>
     simp only[Option.bind_some];cases ia P H u q ak with
     |none=>rfl
     |some p=>simp only[Option.bind_some,dD,dW];cases call p.1 p.2 H<;>rfl
 |_=>exact pu rfl
def dt{α:Type}(o:Option α)(f:α->(K->O)->O):(K->O)->O:=λq=>o.bind λv=>f v q
def Ox{α:Type}(v:α)(f:α->(K->O)->O):dt (D v) f=f v:=rfl
def sw(o:Option ae):(K->O)->O:=b2 o
def Wx(v:ae):sw (D v)=gz v:=rfl
def fj(P:Program)(call:aw)(o:Op)(R:bf)(H:ad):(K->O)->O:=match o with
 | .move x=>sw (bd R x)
 | .assign x=>sw (bd R x)
 | .load t x=>dt (bd R x) λu=>qr (aI P H t u)
 | .buildSlice t n db=>dt (hS R db.toList) λl q=>im (gd P H.next t n l) q
 | .call c=>match c.callee with
  | .builtin .append=>dg P call (.call c) R H
  | .builtin .clear=>dg P call (.call c) R H
  | .builtin b=>dt (eE R c.args.toList) λak q=>hM (bL P .empty b c.argTypes.toList ak) (bL P H b c.argTypes.toList ak) q
  | .value (.func f)=>dt (eE R c.args.toList) λak q=>dD H (call f ([]++ak++[]) H) q
  |_=>dg P call (.call c) R H
 | .binOp op t x y m=>dt (bd R x) λu=>dt (bd R y) λv=>b2 (bm P op t (isConst x||isConst y) u v)
 | .unOp op t x=>dt (bd R x) λu=>b2 (iG op u)
 | .fieldAddr t x f=>dt (bd R x) λu=>b2 (bN P t u f)
 | .indexAddr t x i=>dt (bd R x) λu=>dt (bd R i) λv=>b2 (cm P t u v)
 | .nilCheck x=>dt (bd R x) λu=>b2 (hC u)
 | .extract x i=>dt (bd R x) λu=>b2 (jD u i)
 | .pick c a b=>dt (bd R c) λu=>b2 (da u (bd R a) (bd R b))
 |o=>dg P call o R H
def L7(o:Op)(R:bf)(H:ad):dg P call o R H=fj P call o R H:=by
 funext q
 cases o with
 |call c=>
  simp only[fj];cases aq:c.callee with
  |builtin b=>
   by_cases af:b= .append
   ·subst af;rfl
   by_cases ah:b= .clear
   ·subst ah;rfl
   have an:cls (.call c)= .both:=by
    cases b<;>first|(simp only[cls,aq];done)|exact absurd rfl af|exact absurd rfl ah
   have e:dg P call (.call c) R H q=dt (eE R c.args.toList) (λak q=>hM (bL P .empty b c.argTypes.toList ak) (bL P H b c.argTypes.toList ak) q) q:=by
    unfold dg;rw[an];simp only[gQ,gR,aq,dt];cases eE R c.args.toList<;>rfl
   rw[e];cases b<;>first|rfl|exact absurd rfl af|exact absurd rfl ah
  |value f=>
   cases f<;>try rfl
   simp only[dg,cls,aq,oJ,bd,dt,Option.bind_some];cases eE R c.args.toList<;>rfl
  |invoke r d=>rfl
 |move x=>rfl
 |assign x=>rfl
 |load t x=>simp only[fj,dg,cls,gR,dt];cases bd R x<;>rfl
 |buildSlice t n db=>simp only[fj,dg,cls,hF,dt];cases hS R db.toList<;>rfl
 |binOp op t x y m=>simp only[fj,dg,cls,gQ,dt];cases bd R x with
  |none=>rfl
  |some u=>cases bd R y<;>rfl
 |unOp op t x=>simp only[fj,dg,cls,gQ,dt];cases bd R x<;>rfl
 |fieldAddr t x f=>simp only[fj,dg,cls,gQ,dt];cases bd R x<;>rfl
 |indexAddr t x i=>simp only[fj,dg,cls,gQ,dt];cases bd R x with
  |none=>rfl
  |some u=>cases bd R i<;>rfl
 |nilCheck x=>simp only[fj,dg,cls,gQ,dt];cases bd R x<;>rfl
 |extract x i=>simp only[fj,dg,cls,gQ,dt];cases bd R x<;>rfl
 |pick c a b=>simp only[fj,dg,cls,gQ,dt];cases bd R c<;>rfl
 |_=>rfl
def qc(ops:Array Oper)(j:Nat)(R:bf):ae:=match ops[j]? with
 |some q=>(match q.dst with
  |some d=>R d
  |none=> .tuple [])
 |none=> .tuple []
def ZK{d:Option Nat}{o:Op}{t:TypeId}{p:String}{a:Array Edge}{os:List Oper}{R:bf}{H:ad}{k:bf->ad->O}:
  jr P call ops (⟨d,o,t,p,a,I⟩::os) R H k=dP P call o R H λv H'=>jr P call ops os (dn R d v) H' k:=by
 rw[<-step_eq];rfl
def ZJ{d:Option Nat}{o:Op}{t:TypeId}{p:String}{a:Array Edge}{j:Nat}{w:Bool}{os:List Oper}{R:bf}{H:ad}{k:bf->ad->O}:
  jr P call ops (⟨d,o,t,p,a,D (j,w)⟩::os) R H k=bQ (qc ops j R) w H (fj P call o R H) λv H'=>jr P call ops os (dn R d v) H' k:=by
 rw[<-L7];simp only[jr,k9,qc,bQ];cases ops[j]? with
 |none=>rfl
 |some q=>
  obtain⟨b,_,_,_,_,_⟩:=q;cases b<;>rfl
