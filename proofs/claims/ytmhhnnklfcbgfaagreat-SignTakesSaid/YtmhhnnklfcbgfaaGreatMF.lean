/-
  Texts of one proof, laid together: Hp Hq Cp Cd CpD ShA Mb SgA.
-/
import Derived.Test.YtmhhnnklfcbgfaaGreatME
set_option linter.unusedVariables false
set_option linter.unusedSimpArgs false
set_option linter.defProp false
open Option renaming some→A,none→Z
open Bool renaming true→J,false→I
namespace Go.cv
section
variable {P:Program}{call:ao}{ops:Array Oper}
def vr(o:Op):K->Prop
 | .cV _ _=>cls o= .write\/cls o= .call
 | .new _ _=>cls o= .new
 | .read _=>cls o= .read\/cls o= .both
 |_=>True
def MM{o:Op}{R:br}{H:ae}{g a:K->O}(h:∀x,vr o x->g x=a x):dH P call o R H g=dH P call o R H a:=by
 unfold dH;split
 ·cases hK P o R with
  |none=>rfl
  |some v=>exact h (.pure v) trivial
 ·rename_i aA;cases hL P o R H with
  |none=>rfl
  |some v=>exact h (.read v) (.inl aA)
 ·rename_i aA;unfold iZ;cases hK P o R with
  |some v=>exact h (.pure v) trivial
  |none=>
   cases hL P o R H with
   |none=>rfl
   |some v=>exact h (.read v) (.inr aA)
 ·rename_i aA;unfold jK;cases iQ P o R H.next with
  |none=>rfl
  |some p=>exact h (.new p.1 p.2) aA
 ·rename_i aA;unfold eh;cases lo P o R H with
  |none=>rfl
  |some p=>exact congrArg (λz=>bif decide (H.next<=p.2.next)then z else Z) (h (.cV p.1 p.2) (.inl aA))
 ·rename_i aA;cases o<;>try rfl
  rename_i c;simp only
  cases q9 P H R c with
  |none=>rfl
  |some p=>
   simp only[Option.bind_some];unfold eh;cases call p.1 p.2 H with
   |none=>rfl
   |some q=>exact congrArg (λz=>bif decide (H.next<=q.2.next)then z else Z) (h (.cV q.1 q.2) (.inr aA))
def Zy{o:Oper}{R:br}{H:ae}{g a:K->O}(h:∀x,vr o.op x->g x=a x):mJ P call ops o R H g=mJ P call ops o R H a:=by
 unfold mJ;split
 ·exact MM h
 ·split
  ·split
   ·rename_i d _;unfold cb;split
    ·rw[MM h,h .skip trivial]
    ·exact h .skip trivial
   ·exact h .skip trivial
  ·exact h .skip trivial
def zg:List Oper->Nat->List fD->Prop
 |[],_,T=>T=[]
 |o::os,i,T=>∃t a,T=t::a/\t.i=i/\vr o.op t.k/\zg os (i+1) a
def q7(ms:List Nat):List Oper->Nat->List Nat->Bool
 |[],_,_=>J
 |o::os,i,ids=>match cls o.op with
  | .new=>q7 ms os (i+1) (i::ids)
  | .write=>ids.all (λj=>cI ms j i)&&q7 ms os (i+1) (i::ids)
  | .call=>ids.all (λj=>cI ms j i)&&q7 ms os (i+1) (i::ids)
  |_=>q7 ms os (i+1) ids
def AV(cT:List Nat):List Oper->Nat->Bool
 |[],_=>J
 |o::os,i=>(match cls o.op with
  | .read=>cT.contains i
  | .both=>cT.contains i
  |_=>J)&&AV cT os (i+1)
theorem q6{ms:List Nat}:∀{T:List fD} {ids a:List Nat},(∀j∈ids,j∈a)->hJ ms T a=J->hJ ms T ids=J
 |[],_,_,_,_=>rfl
 |t::T,ids,a,aP,h=>by
  have aA:∀j,j∈t.i::ids->j∈t.i::a:=al;rw[hJ]at h ⊢;cases c:t.k<;>rw[c]at h<;>simp only at h ⊢
  ·exact q6 aP h
  ·exact q6 aP h
  ·exact q6 aP h
  ·exact q6 aA h
  ·simp only[Bool.and_eq_true,List.all_eq_true]at h ⊢;exact⟨λj b=>h.1 j (aP j b),q6 aA h.2⟩
theorem ve{ms:List Nat}:∀{os:List Oper} {i:Nat} {T:List fD} {ids:List Nat},zg os i T->q7 ms os i ids=J->hJ ms T ids=J
 |[],_,T,_,h,_=>by cases h;rfl
 |o::os,i,T,ids,h,he=>by
  obtain⟨t,c,rfl,rfl,a,cD⟩:=h;have sub:∀j∈ids,j∈t.i::ids:=al;rw[q7]at he;rw[hJ];cases aA:cls o.op<;>rw[aA]at he<;>simp only[Bool.and_eq_true]at he<;>cases b:t.k<;>rw[b]at a<;>simp only[vr,aA]at a<;>simp only[Bool.and_eq_true]<;>first
   |exact ve cD he
   |exact q6 sub (ve cD he)
   |exact q6 sub (ve cD he.2)
   |exact⟨he.1,ve cD he.2⟩
   |(cases a;done)
   |(rcases a with a|a<;>cases a;done)
theorem QL{ms cT:List Nat}{kE:List fD}{H:ae}:∀{os:List Oper} {i:Nat} {T:List fD},zg os i T->AV cT os i=J->jm ms cT kE H T=J
 |[],_,T,h,_=>by cases h;rfl
 |o::os,i,T,h,he=>by
  obtain⟨t,a,rfl,rfl,b,cD⟩:=h;rw[AV,Bool.and_eq_true]at he;rw[jm,Bool.and_eq_true];refine⟨?_,QL cD he.2⟩;grind[vr]
theorem Lf{kO:List fD->br->ae->O}{k:br->ae->O}:∀(os:List Oper) (i:Nat) (R:br) (H:ae),ops.toList.drop i=os->(∀T bk H',zg os i T->kO T bk H'=k bk H')->
   jY P call ops (List.range' i os.length) R H kO=ks P call ops os R H k
  |[],_,R,H,_,h=>by
   rw[List.length_nil,List.range'_zero,jY,ks];exact h [] R H rfl
  |o::os,i,R,H,aX,h=>by
   have aP:ops[i]? =A o:=by
    rw[<-Array.getElem?_toList,<-List.aac i ops.toList,aX];rfl
   rw[List.length_cons,List.range'_succ,jY,aP,ks];refine Zy λx aF=> ?_
   refine Lf os (i+1) _ _ ?_ λT bk H' dU=> ?_
   ·rw[<-List.drop_drop,aX];rfl
   ·exact h _ _ _ ⟨_,_,rfl,rfl,aF,dU⟩
 where List.aac (i:Nat) (l:List Oper):(l.drop i)[0]? =l[i]? :=al
def AH(ops:Array Oper):Bool:=decide (order ops=List.range ops.size)&&((qF ops (order ops)).isNone&&(quiet ops||(q7 (cQ ops) ops.toList 0 []&&AV (h_ ops) ops.toList 0)))
theorem aef{R:br}{H:ae}{k:br->ae->O}(h:AH ops=J):m6 P call ops J R H k=ks P call ops ops.toList R H k:=by
 unfold AH at h;simp only[Bool.and_eq_true,Bool.or_eq_true,decide_eq_true_eq,Option.isNone_iff_eq_none]at h;obtain⟨ah,ai,ay⟩:=h;have e:List.range ops.size=List.range' 0 ops.toList.length:=by grind[List.range_eq_range']
 grind[m6,Lf,ve,QL,jv]
end
section
variable {P:Program}{call:ao}{ops:Array Oper}
def fM(P:Program)(t:TypeId):Option (List af):=match lz P t,gb P t with
 |none,A z=>bif z.cells.all af.one then A z.cells else Z
 |_,_=>Z
def Ej(P:Program)(H:ae)(t:TypeId)(o:Option (List af))(k:af->ae->O):O:=match o with
 |some cs=>fA H cs k
 |none=>fp H ((gb P t).bind (mG (lz P t) H.next)) k
def eN(P:Program)(call:ao)(o:Op)(R:br)(H:ae)(k:af->ae->O):O:=match o with
 | .alloc t=>Ej P H t (fM P t) k
 | .box t x=>(bn R x).bind λv=>fp H (mG (lz P t) H.next v) k
 | .buildSlice t n dt=>(jg R dt.toList).bind λl=>fp H (gu P H.next t n l) k
 | .makeMap t r=>fp H (iQ P (.makeMap t r) R H.next) k
 | .makeSlice t x c=>(bn R x).bind λu=>(bn R c).bind λv=>fp H (g5 (h0 P ⟨.leaf,H.next⟩ t u v) H.next) k
 | .load t x=>(bn R x).bind λu=>aU (aJ P H t u) λv=>k v H
 | .lookup t x i ok=>aU (hL P (.lookup t x i ok) R H) λv=>k v H
 | .store t x y=>(bn R x).bind λu=>(bn R y).bind λv=>gG H (cz P H t u v) λH'=>k (.tuple []) H'
 | .mapUpdate t m i x=>(bn R m).bind λu=>(bn R i).bind λv=>(bn R x).bind λz=>gG H (jU P H t u v z) λH'=>k (.tuple []) H'
 | .insert t m i x=>(bn R m).bind λu=>(bn R i).bind λv=>(bn R x).bind λz=>gG H (jU P H t u v z) λH'=>k (.tuple []) H'
 | .convert s d x=>(bn R x).bind λv=>JW P s d v H λw=>k w H
 | .call c=>match c.callee with
  | .builtin .append=>eg H (lo P (.call c) R H) k
  | .builtin .clear=>eg H (lo P (.call c) R H) k
  | .builtin b=>(fu R c.args.toList).bind λak=>eU P b c.argTypes.toList ak H λw=>k w H
  | .value f=>(bn R f).bind λu=>(fu R c.args.toList).bind λak=>qK call H u ak k
  | .invoke r a=>(bn R r).bind λu=>(fu R c.args.toList).bind λak=>(jB P H u a ak).bind λp=>eg H (call p.1 p.2 H) k
 |o=>aU (hK P o R) λv=>k v H
def EX{r:Option af}{k:af->O}:r.bind k=aU r k:=by cases r<;>rfl
theorem step_eq(o:Op)(R:br)(H:ae)(k:af->ae->O):dH P call o R H (λx=>k x.val (x.heap H))=eN P call o R H k:=by
 have pu:cls o= .pure->dH P call o R H (λx=>k x.val (x.heap H))=aU (hK P o R) λv=>k v H:=λh=>by
  unfold dH;rw[h];simp only[EX];rfl
 have g:cls o= .read->dH P call o R H (λx=>k x.val (x.heap H))=aU (hL P o R H) λv=>k v H:=λh=>by
  unfold dH;rw[h];simp only[EX];rfl
 have ne:cls o= .new->dH P call o R H (λx=>k x.val (x.heap H))=fp H (iQ P o R H.next) k:=λh=>by
  unfold dH;rw[h];simp only[jK,fp];cases iQ P o R H.next<;>rfl
 have wr:cls o= .write->dH P call o R H (λx=>k x.val (x.heap H))=eg H (lo P o R H) k:=λh=>by
  unfold dH;rw[h];simp only[eh,eg];cases lo P o R H<;>rfl
 cases o with
 |alloc t=>
  rw[ne rfl];simp only[eN,iQ];cases a:fM P t with
  |none=>rfl
  |some cs=>
   unfold fM at a;split at a
   ·rename_i z ah ai;cases e:z.cells.all af.one<;>rw[e]at a
    ·grind
    ·cases a;simp only[Ej,ah,ai,Option.bind_some,mG,e,hk,fp,fA];rfl
   grind
 |box t x=>rw[ne rfl];simp only[eN,iQ];cases bn R x<;>rfl
 |buildSlice t n dt=>rw[ne rfl];simp only[eN,iQ];cases jg R dt.toList<;>rfl
 |makeMap t r=>rw[ne rfl];rfl
 |makeSlice t x c=>rw[ne rfl];simp only[eN,iQ];cases bn R x with
  |none=>rfl
  |some u=>cases bn R c<;>rfl
 |load t x=>rw[g rfl];simp only[eN,hL];cases bn R x<;>rfl
 |lookup t x i ok=>rw[g rfl];rfl
 |store t x y=>
  rw[wr rfl];simp only[eN,lo];cases bn R x with
  |none=>rfl
  |some u=>cases bn R y with
   |none=>rfl
   |some v=>simp only[Option.bind_some,gG];cases cz P H t u v<;>rfl
 |mapUpdate t m i x=>
  rw[wr rfl];simp only[eN,lo];cases bn R m with
  |none=>rfl
  |some u=>cases bn R i with
   |none=>rfl
   |some v=>cases bn R x with
    |none=>rfl
    |some z=>simp only[Option.bind_some,gG];cases jU P H t u v z<;>rfl
 |insert t m i x=>
  rw[wr rfl];simp only[eN,lo];cases bn R m with
  |none=>rfl
  |some u=>cases bn R i with
   |none=>rfl
   |some v=>cases bn R x with
    |none=>rfl
    |some z=>simp only[Option.bind_some,gG];cases jU P H t u v z<;>rfl
 |convert s d x=>
  simp only[dH,cls,eN,hK,hL];cases bn R x with
  |none=>rfl
  |some v=>simp only[Option.bind_some,iZ,JW];cases sF P s d v<;>rfl
 |call c=>
  have q:∀b,c.callee= .builtin b->cls (.call c)= .both->dH P call (.call c) R H (λx=>k x.val (x.heap H))=(fu R c.args.toList).bind λak=>eU P b c.argTypes.toList ak H λw=>k w H:=λb j h=>by
   unfold dH;rw[h];simp only[hK,hL,j];cases fu R c.args.toList with
   |none=>rfl
   |some ak=>simp only[Option.bind_some,iZ,eU];cases bD P .empty b c.argTypes.toList ak<;>rfl
  simp only[eN];cases aA:c.callee with
  |builtin b=>
   grind[cls]
  |value f=>
   simp only[dH,cls,aA,q9];cases bn R f with
   |none=>rfl
   |some u=>cases fu R c.args.toList with
    |none=>rfl
    |some ak=>
     simp only[Option.bind_some,qK];cases pB u ak with
     |none=>rfl
     |some p=>simp only[Option.bind_some,eh,eg];cases call p.1 p.2 H<;>rfl
  |invoke r l=>
   simp only[dH,cls,aA,q9];cases bn R r with
   |none=>rfl
   |some u=>cases fu R c.args.toList with
    |none=>rfl
    |some ak=>
     simp only[Option.bind_some];cases jB P H u l ak with
     |none=>rfl
     |some p=>simp only[Option.bind_some,eh,eg];cases call p.1 p.2 H<;>rfl
 |_=>exact pu rfl
def dT{α:Type}(o:Option α)(f:α->(K->O)->O):(K->O)->O:=λq=>o.bind λv=>f v q
def VL{α:Type}(v:α)(f:α->(K->O)->O):dT (A v) f=f v:=rfl
def vO(o:Option af):(K->O)->O:=cn o
def adY(v:af):vO (A v)=qv v:=rfl
def gF(P:Program)(call:ao)(o:Op)(R:br)(H:ae):(K->O)->O:=match o with
 | .move x=>vO (bn R x)
 | .assign x=>vO (bn R x)
 | .load t x=>dT (bn R x) λu=>qr (aJ P H t u)
 | .buildSlice t n dt=>dT (jg R dt.toList) λl q=>jK (gu P H.next t n l) q
 | .call c=>match c.callee with
  | .builtin .append=>dH P call (.call c) R H
  | .builtin .clear=>dH P call (.call c) R H
  | .builtin b=>dT (fu R c.args.toList) λak q=>iZ (bD P .empty b c.argTypes.toList ak) (bD P H b c.argTypes.toList ak) q
  | .value (.func f)=>dT (fu R c.args.toList) λak q=>eh H (call f ([]++ak++[]) H) q
  |_=>dH P call (.call c) R H
 | .binOp op t x y m=>dT (bn R x) λu=>dT (bn R y) λv=>cn (bx P op t (isConst x||isConst y) u v)
 | .unOp op t x=>dT (bn R x) λu=>cn (jX op u)
 | .fieldAddr t x f=>dT (bn R x) λu=>cn (bP P t u f)
 | .indexAddr t x i=>dT (bn R x) λu=>dT (bn R i) λv=>cn (ct P t u v)
 | .nilCheck x=>dT (bn R x) λu=>cn (dS u)
 | .extract x i=>dT (bn R x) λu=>cn (jd u i)
 | .pick c a b=>dT (bn R c) λu=>cn (dA u (bn R a) (bn R b))
 |o=>dH P call o R H
theorem Tf(o:Op)(R:br)(H:ae):dH P call o R H=gF P call o R H:=by
 funext q
 cases o with
 |call c=>
  simp only[gF];cases aA:c.callee with
  |builtin b=>
   by_cases ah:b= .append
   ·subst ah;rfl
   by_cases ai:b= .clear
   ·subst ai;rfl
   have ay:cls (.call c)= .both:=by
    grind[cls]
   have e:dH P call (.call c) R H q=dT (fu R c.args.toList) (λak q=>iZ (bD P .empty b c.argTypes.toList ak) (bD P H b c.argTypes.toList ak) q) q:=by
    unfold dH;rw[ay];simp only[hK,hL,aA,dT];cases fu R c.args.toList<;>rfl
   rw[e];cases b<;>first|rfl|exact absurd rfl ah|grind
  |value f=>
   cases f<;>try rfl
   simp only[dH,cls,aA,q9,bn,dT,Option.bind_some];cases fu R c.args.toList<;>rfl
  |invoke r d=>rfl
 |move x=>rfl
 |assign x=>rfl
 |load t x=>simp only[gF,dH,cls,hL,dT];cases bn R x<;>rfl
 |buildSlice t n dt=>simp only[gF,dH,cls,iQ,dT];cases jg R dt.toList<;>rfl
 |binOp op t x y m=>simp only[gF,dH,cls,hK,dT];cases bn R x with
  |none=>rfl
  |some u=>cases bn R y<;>rfl
 |unOp op t x=>simp only[gF,dH,cls,hK,dT];cases bn R x<;>rfl
 |fieldAddr t x f=>simp only[gF,dH,cls,hK,dT];cases bn R x<;>rfl
 |indexAddr t x i=>simp only[gF,dH,cls,hK,dT];cases bn R x with
  |none=>rfl
  |some u=>cases bn R i<;>rfl
 |nilCheck x=>simp only[gF,dH,cls,hK,dT];cases bn R x<;>rfl
 |extract x i=>simp only[gF,dH,cls,hK,dT];cases bn R x<;>rfl
 |pick c a b=>simp only[gF,dH,cls,hK,dT];cases bn R c<;>rfl
 |_=>rfl
def s7(ops:Array Oper)(j:Nat)(R:br):af:=match ops[j]? with
 |some q=>(match q.dst with
  |some d=>R d
  |none=> .tuple [])
 |none=> .tuple []
def ahE{d:Option Nat}{o:Op}{t:TypeId}{p:String}{a:Array Edge}{os:List Oper}{R:br}{H:ae}{k:br->ae->O}:
  ks P call ops (⟨d,o,t,p,a,Z⟩::os) R H k=eN P call o R H λv H'=>ks P call ops os (dF R d v) H' k:=by
 rw[<-step_eq];rfl
def ahD{d:Option Nat}{o:Op}{t:TypeId}{p:String}{a:Array Edge}{j:Nat}{w:Bool}{os:List Oper}{R:br}{H:ae}{k:br->ae->O}:
  ks P call ops (⟨d,o,t,p,a,A (j,w)⟩::os) R H k=b1 (s7 ops j R) w H (gF P call o R H) λv H'=>ks P call ops os (dF R d v) H' k:=by
 rw[<-Tf];simp only[ks,mJ,s7,b1];cases ops[j]? with
 |none=>rfl
 |some q=>
  obtain⟨b,_,_,_,_,_⟩:=q;cases b<;>rfl
end
end Go.cv
namespace Go.Proofs.YtmhhnnklfcbgfaaGreat
open Go.cv
section
set_option maxRecDepth 100000
def Z5(R:br)(t:Nat):bn R (.tmp t)=A (R t):=rfl
def ZY(R:br)(f:Nat):bn R (.func f)=A (.func (.func f) [] []):=rfl
def ZZ(R:br)(k:IntKind)(n:Int):bn R (.const (.int k n))=A (.int k n):=rfl
def Z4(R:br)(l:List UInt8):bn R (.const (.string ⟨l.toArray⟩))=A (.str l):=rfl
def ZX(R:br)(b:Bool):bn R (.const (.bool b))=A (.bool b):=rfl
def Z3(R:br):bn R (.const (.slice Z 0 0))=A .aq:=rfl
def Z2(R:br):bn R (.const (.pointer Z))=A .gC:=rfl
def Z1(R:br):bn R (.const (.map Z))=A .jC:=rfl
def Z0(R:br):bn R (.const .nilFunc)=A .nilFunc:=rfl
def Z7(R:br):fu R []=A []:=rfl
def Z6(R:br)(x:Operand)(xs:List Operand):fu R (x::xs)=(bn R x).bind λv=>(fu R xs).bind λak=>A (v::ak):=rfl
def ZI(R:br):jg R []=A []:=rfl
def ZH(R:br)(i:Nat)(x:Operand)(xs:List (Nat×Operand)):jg R ((i,x)::xs)=(bn R x).bind λv=>(jg R xs).bind λak=>A ((i,v)::ak):=rfl
def ZV(R:br):j1 R Z=A none:=rfl
def ZW(R:br)(x:Operand):j1 R (A x)=(bn R x).bind λv=>A (A v):=rfl
def akI(R:br)(v:af):dF R Z v=R:=rfl
def akJ(R:br)(d:Nat)(v:af)(e:Nat):dF R (A d) v e=if e=d then v else R e:=by
 show(bif Nat.beq e d then v else R e)=_;by_cases h:e=d
 ·rw[if_pos h,h,Nat.beq_refl];rfl
 ·rw[if_neg h];cases a:Nat.beq e d with
  |true=>exact absurd (Nat.eq_of_beq_eq_true a) h
  |false=>rfl
def alm(v:af)(k:af->O):aU (A v) k=k v:=rfl
def Vz(v:af)(ak:List af):c4 (v::ak) 0=v:=rfl
def VA(v:af)(ak:List af)(n:Nat):c4 (v::ak) (n+1)=c4 ak n:=rfl
def alj(G:ao)(H:ae)(f:Nat)(ak:List af)(k:af->ae->O):qK G H (.func (.func f) [] []) ak k=eg H (G f ak H) k:=by simp[qK,pB]
def aer{rs:List ResultVar}(R:br)(H:ae):lF P rs R H=mc P H R rs λak=>A (lX ak,H):=rfl
def ael(H:ae)(R:br)(k:List af->O):mc P H R [] k=k []:=rfl
def aeo(H:ae)(R:br)(t:Nat)(rs:List ResultVar)(k:List af->O):mc P H R (.tmp t::rs) k=mc P H R rs λak=>k (R t::ak):=rfl
def aem(H:ae)(R:br)(a t:Nat)(rs:List ResultVar)(k:List af->O):mc P H R (.cell a t::rs) k=aU (aJ P H t (R a)) λv=>mc P H R rs λak=>k (v::ak):=EX
def Vj:lX []= .tuple []:=rfl
def Vk(v:af):lX [v]=v:=rfl
def Vl(v u:af)(ak:List af):lX (v::u::ak)= .tuple (v::u::ak):=rfl
def ahC{G:ao}{ops:Array Oper}(R:br)(H:ae)(k:br->ae->O):ks P G ops [] R H k=k R H:=rfl
def aei{G:ao}{ops:Array Oper}(R:br)(H:ae)(k:br->ae->O):m6 P G ops I R H k=ks P G ops ops.toList R H k:=rfl
def V9{l:Nat}{v:af}{t:Nat}(h:(lz P t).isNone=J):mG (lz P t) l v=fl l v:=by
 rw[Option.isNone_iff_eq_none.1 h];rfl
def alu(H:ae)(t:Nat)(cs:List af)(k:af->ae->O):Ej P H t (A cs) k=fA H cs k:=rfl
def WK(c:Operand)(aV:bU)(e:List (Nat×bU))(d:bU)(G:ao)(N:Nat)(a b:Code)(R:br)(H:ae):bX P G N (.cond c a b) aV e d R H=eB (bn R c) (bX P G N a aV e d R H) (bX P G N b aV e d R H):=rfl
def Xk(g:Nat)(ops:Array Oper)(d:Bool)(aV:bU)(b:List (Nat×bU))(a:bU)(G:ao)(N:Nat)(R:br)(H:ae):bX P G N (.region g ops d) aV b a R H=m6 P G ops d R H aV:=rfl
def Xm(a b:Code)(aV:bU)(d:List (Nat×bU))(c:bU)(G:ao)(N:Nat)(R:br)(H:ae):bX P G N (.seq a b) aV d c R H=bX P G N a (λR H=>bX P G N b aV d c R H) d c R H:=rfl
def Wr(i:Nat)(b:Code)(aV:bU)(c:List (Nat×bU))(a:bU)(G:ao)(N:Nat)(R:br)(H:ae):bX P G N (.block i b) aV c a R H=bX P G N b aV ((i,aV)::c) a R H:=rfl
def WH(i:Nat)(aV:bU)(a:List (Nat×bU))(b:bU)(G:ao)(N:Nat)(R:br)(H:ae):bX P G N (.exit i) aV a b R H=Go.cv.look i a R H:=rfl
def Xl(aV:bU)(b:List (Nat×bU))(a:bU)(G:ao)(N:Nat)(R:br)(H:ae):bX P G N .ret aV b a R H=a R H:=rfl
def Xn(aV:bU)(b:List (Nat×bU))(a:bU)(G:ao)(N:Nat)(R:br)(H:ae):bX P G N .skip aV b a R H=aV R H:=rfl
def WU(l:Nat)(aV:bU)(b:List (Nat×bU))(a:bU)(G:ao)(N:Nat)(R:br)(H:ae):bX P G N (.label l) aV b a R H=aV R H:=rfl
def acw(i j:Nat)(k:bU)(a:List (Nat×bU))(R:br)(H:ae):Go.cv.look i ((j,k)::a) R H=if i=j then k R H else Go.cv.look i a R H:=by
 show(bif Nat.beq i j then _ else _)=_;by_cases h:i=j
 ·rw[if_pos h,h,Nat.beq_refl];rfl
 ·rw[if_neg h];cases b:Nat.beq i j with
  |true=>exact absurd (Nat.eq_of_beq_eq_true b) h
  |false=>rfl
def ZT(a b:Code):Code.aj (.seq a b)=a:=rfl
def ZR(c:Operand)(a b:Code):Code.aj (.cond c a b)=a:=rfl
def ZQ(i:Nat)(b:Code):Code.aj (.block i b)=b:=rfl
def ZS(b:Code):Code.aj (.loop b)=b:=rfl
def aij(a b:Code):Code.ad (.seq a b)=b:=rfl
def aii(c:Operand)(a b:Code):Code.ad (.cond c a b)=b:=rfl
def aj0(c:Operand)(a b:Code):Code.test (.cond c a b)=c:=rfl
def aaZ(v:Value):isConst (.const v)=true:=rfl
def aa0(t:Nat):isConst (.tmp t)=false:=rfl
def ad6(f:Func):a8 f=lF P f.results.toList:=rfl
def WI(f:Func)(G:ao)(N:Nat):eF f G N=bX P G N (bL f) (a8 f) [] (a8 f):=rfl
def LW{p:Prop}(h:p:=by decide+kernel):p:=h
def adk(i:Nat)(b:Code):Code.num (.block i b)=i:=rfl
def Fv(o:Option Oper)(R:br):af:=match o with
 |some q=>(match q.dst with
  |some d=>R d
  |none=> .tuple [])
 |none=> .tuple []
section
variable {G:ao}{R:br}{H:ae}{k:af->ae->O}{t s m:Nat}{x y z c:Operand}{i:Nat}
def ai0:eN P G (.move x) R H k=aU (bn R x) λv=>k v H:=rfl
def aiB:eN P G (.assign x) R H k=aU (bn R x) λv=>k v H:=rfl
def ai3:eN P G (.pick c x y) R H k=aU ((bn R c).bind λu=>dA u (bn R x) (bn R y)) λv=>k v H:=rfl
def aiF{dt:Array (Nat×Operand)}:eN P G (.build t dt) R H k=aU ((jg R dt.toList).bind (ey P t)) λv=>k v H:=rfl
def ai2:eN P G (.nilCheck x) R H k=aU ((bn R x).bind λv=>dS v) λv=>k v H:=rfl
def aiC{op:BinOp}:eN P G (.binOp op t x y m) R H k=aU ((bn R x).bind λu=>(bn R y).bind λv=>bx P op t (isConst x||isConst y) u v) λv=>k v H:=rfl
def aja{op:UnOp}:eN P G (.unOp op t x) R H k=aU ((bn R x).bind (jX op)) λv=>k v H:=rfl
def aiY:eN P G (.makeInterface t x) R H k=aU ((bn R x).bind (ox P t)) λv=>k v H:=rfl
def aiX{f:Fn}{a b:Array Operand}:eN P G (.makeFunc f a b) R H k=aU ((fu R a.toList).bind λfs=>(fu R b.toList).bind λcs=>A (.func f fs cs)) λv=>k v H:=rfl
def ai8{a b d:Option Operand}:eN P G (.slice t x a b d) R H k=aU ((bn R x).bind λv=>(j1 R a).bind λl=>(j1 R b).bind λh=>(j1 R d).bind λm=>gI P t v l h m) λv=>k v H:=rfl
def aiL:eN P G (.fieldAddr t x i) R H k=aU ((bn R x).bind λv=>bP P t v i) λv=>k v H:=rfl
def aiK:eN P G (.field t x i) R H k=aU ((bn R x).bind λv=>pw P t v i) λv=>k v H:=rfl
def aiN:eN P G (.indexAddr t x y) R H k=aU ((bn R x).bind λu=>(bn R y).bind λv=>ct P t u v) λv=>k v H:=rfl
def aiO:eN P G (.index t x y) R H k=aU ((bn R x).bind λu=>(bn R y).bind λv=>qS P t u v) λv=>k v H:=rfl
def aiJ:eN P G (.extract x i) R H k=aU ((bn R x).bind λv=>jd v i) λv=>k v H:=rfl
def aiy:eN P G (.alloc t) R H k=Ej P H t (fM P t) k:=rfl
def aiD:eN P G (.box t x) R H k=(bn R x).bind λv=>fp H (mG (lz P t) H.next v) k:=rfl
def aiE{dt:Array (Nat×Operand)}:eN P G (.buildSlice t i dt) R H k=(jg R dt.toList).bind λl=>fp H (gu P H.next t i l) k:=rfl
def ai1:eN P G (.makeSlice t x c) R H k=(bn R x).bind λu=>(bn R c).bind λv=>fp H (g5 (h0 P ⟨.leaf,H.next⟩ t u v) H.next) k:=rfl
def aiV:eN P G (.load t x) R H k=(bn R x).bind λu=>aU (aJ P H t u) λv=>k v H:=rfl
def ai9:eN P G (.store t x y) R H k=(bn R x).bind λu=>(bn R y).bind λv=>gG H (cz P H t u v) λH'=>k (.tuple []) H':=rfl
def aiz{ts:Array Nat}:eN P G (.call ⟨.builtin .append,#[x,y],ts⟩) R H k=eg H ((bn R x).bind λu=>(bn R y).bind λv=>ej P H ts.toList u v) k:=rfl
def aiT{a:Array Operand}{ts:Array Nat}:eN P G (.call ⟨.builtin .len,a,ts⟩) R H k=(fu R a.toList).bind λak=>eU P .len ts.toList ak H λw=>k w H:=rfl
def aiH{a:Array Operand}{ts:Array Nat}:eN P G (.call ⟨.builtin .cap,a,ts⟩) R H k=(fu R a.toList).bind λak=>eU P .cap ts.toList ak H λw=>k w H:=rfl
def aiZ{a:Array Operand}{ts:Array Nat}:eN P G (.call ⟨.builtin .min,a,ts⟩) R H k=(fu R a.toList).bind λak=>eU P .min ts.toList ak H λw=>k w H:=rfl
def aiW{a:Array Operand}{ts:Array Nat}:eN P G (.call ⟨.builtin .max,a,ts⟩) R H k=(fu R a.toList).bind λak=>eU P .max ts.toList ak H λw=>k w H:=rfl
def aiG{a:Array Operand}{ts:Array Nat}:eN P G (.call ⟨.value x,a,ts⟩) R H k=(bn R x).bind λu=>(fu R a.toList).bind λak=>qK G H u ak k:=rfl
def ah3:gF P G (.move x) R H=vO (bn R x):=rfl
def ahR:gF P G (.assign x) R H=vO (bn R x):=rfl
def ah2:gF P G (.load t x) R H=dT (bn R x) λu=>qr (aJ P H t u):=rfl
def ahT{dt:Array (Nat×Operand)}:gF P G (.buildSlice t i dt) R H=dT (jg R dt.toList) λl q=>jK (gu P H.next t i l) q:=rfl
def ah1{a:Array Operand}{ts:Array Nat}:gF P G (.call ⟨.builtin .len,a,ts⟩) R H=dT (fu R a.toList) λak q=>iZ (bD P .empty .len ts.toList ak) (bD P H .len ts.toList ak) q:=rfl
def ahV{f:Nat}{a:Array Operand}{ts:Array Nat}:gF P G (.call ⟨.value (.func f),a,ts⟩) R H=dT (fu R a.toList) λak q=>eh H (G f ([]++ak++[]) H) q:=rfl
def ahS{op:BinOp}:gF P G (.binOp op t x y m) R H=dT (bn R x) λu=>dT (bn R y) λv=>cn (bx P op t (isConst x||isConst y) u v):=rfl
def ah7{op:UnOp}:gF P G (.unOp op t x) R H=dT (bn R x) λu=>cn (jX op u):=rfl
def ahX:gF P G (.fieldAddr t x i) R H=dT (bn R x) λu=>cn (bP P t u i):=rfl
def ahZ:gF P G (.indexAddr t x y) R H=dT (bn R x) λu=>dT (bn R y) λv=>cn (ct P t u v):=rfl
def ah4:gF P G (.nilCheck x) R H=dT (bn R x) λu=>cn (dS u):=rfl
def ahW:gF P G (.extract x i) R H=dT (bn R x) λu=>cn (jd u i):=rfl
def ah5:gF P G (.pick c x y) R H=dT (bn R c) λu=>cn (dA u (bn R x) (bn R y)):=rfl
def ahU{dt:Array (Nat×Operand)}:gF P G (.build t dt) R H=dT (jg R dt.toList) λl=>cn (ey P t l):=by
 funext q
 show dH P G (.build t dt) R H q=_;simp only[dH,cls,hK,dT];cases jg R dt.toList<;>rfl
def ah0:gF P G (.index t x y) R H=dT (bn R x) λu=>dT (bn R y) λv=>cn (qS P t u v):=by
 funext q
 show dH P G (.index t x y) R H q=_;simp only[dH,cls,hK,dT];cases bn R x with
 |none=>rfl
 |some u=>cases bn R y<;>rfl
def ahY:gF P G (.field t x i) R H=dT (bn R x) λu=>cn (pw P t u i):=by
 funext q
 show dH P G (.field t x i) R H q=_;simp only[dH,cls,hK,dT];cases bn R x<;>rfl
def ah6{a b d:Option Operand}:gF P G (.slice t x a b d) R H=dT (bn R x) λv=>dT (j1 R a) λl=>dT (j1 R b) λh=>dT (j1 R d) λm=>cn (gI P t v l h m):=by
 funext q
 show dH P G (.slice t x a b d) R H q=_;simp only[dH,cls,hK,dT];cases bn R x with
 |none=>rfl
 |some u=>cases j1 R a with
  |none=>rfl
  |some u=>cases j1 R b with
   |none=>rfl
   |some u=>cases j1 R d<;>rfl
def aab{os:List Oper}{j:Nat}:s7 os.toArray j R=Fv os[j]? R:=by
 unfold s7 Fv;rw[List.getElem?_toArray]<;>cases os[j]? <;>rfl
def aaa{d:Nat}{o:Op}{ty:TypeId}{p:String}{a:Array Edge}{g:Option (Nat×Bool)}:Fv (A ⟨A d,o,ty,p,a,g⟩) R=R d:=rfl
end
def alz:fM P 49=A [.int .i64 0,af.aq,.bool I,.int .i64 0,.int .i64 0,.int .i64 0,af.aq]/\fM P 95=A [.str [],af.aq]/\fM P 98=A [.str [],.int .i64 0,.int .i64 0,.int .i64 0]/\fM P 46=A [.int .i64 0,.int .i64 0,.int .i64 0]/\fM P 100=A [.int .i64 0,.int .i64 0,.int .i64 0,.int .i64 0]/\fM P 89=A [.int .i64 0,.int .i64 0,.int .i64 0,.int .i64 0,.int .i64 0,af.aq]/\fM P 154=A [af.aq,af.aq]/\fM P 56=A [.int .i64 0,.int .i64 0,.int .i64 0,.int .i64 0]/\fM P 310=A []/\fM P 286=A [.int .i64 0,.int .i64 0,.int .i64 0]/\fM P 33=A [.int .i64 0,af.aq,af.aq,af.aq]/\fM P 3=A [.int .i64 0]/\fM P 62=A [af.aq,af.aq,af.aq]/\fM P 65=A [.int .i64 0,.int .i64 0]/\fM P 27=A [af.aq,af.aq,af.aq,af.aq,.int .i64 0]/\fM P 113=A [.int .i64 0,.str [],.int .i64 0,.int .i64 0]/\fM P 118=A [.str [],af.aq,.int .i64 0]/\fM P 123=A [.str [],.str [],.int .i64 0,.int .i64 0]/\fM P 128=A [.str [],af.aq,.bool I,.str [],.int .i64 0,af.aq,.int .i64 0]/\fM P 121=A [.str [],.int .i64 0]/\fM P 192=A [.int .i64 0,.str [],.str [],.int .i64 0,af.aq,af.aq,af.aq,.int .i64 0,.int .i64 0]/\fM P 235=A [.int .i64 0,.int .i64 0,.str [],.str [],.int .i64 0,af.aq,.int .i64 0,.int .i64 0,.int .i64 0,.int .i64 0,.int .i64 0]/\fM P 135=A [af.aq,af.aq,af.aq,.int .i64 0,af.aq]/\fM P 132=A [af.aq,af.aq,af.aq,.int .i64 0]/\fM P 143=A [.str [],af.aq,.bool I,.int .i64 0,.int .i64 0,.int .i64 0]/\fM P 141=A [af.aq,af.aq,.int .i64 0]/\fM P 294=A [.int .u64 0]:=by
 repeat (refine ag aG ?_)
 kernel_rfl
instance {α β:Type}{p:(α->β)->Prop}:CoeFun {g:α->β // p g} λ_=>α->β:=⟨Subtype.val⟩
def LU:=ag (ag (ag (ag (ag (ag @Z5 (ag @ZY @ZZ)) (ag (ag @Z4 @ZX) (ag @Z3 @Z2))) (ag (ag @Z1 (ag @Z0 @Z7)) (ag (ag @Z6 @ZI) (ag @ZH @ZV)))) (ag (ag (ag @ZW (ag @akI @akJ)) (ag (ag @alm @Vz) (ag @VA @alj))) (ag (ag @aer (ag @ael @aeo)) (ag (ag @aem @Vj) (ag @Vk @Vl))))) (ag (ag (ag (ag @ahC (ag @aei @V9)) (ag (ag @alu @WK) (ag @Xk @Xm))) (ag (ag @Wr (ag @WH @Xl)) (ag (ag @Xn @WU) (ag @acw @ZT)))) (ag (ag (ag @ZR (ag @ZQ @ZS)) (ag (ag @aij @aii) (ag @aj0 @aaZ))) (ag (ag (ag @aa0 @ad6) (ag @WI @adk)) (ag (ag @ai0 @aiB) (ag @ai3 @aiF)))))) (ag (ag (ag (ag (ag @ai2 (ag @aiC @aja)) (ag (ag @aiY @aiX) (ag @ai8 @aiL))) (ag (ag @aiK (ag @aiN @aiO)) (ag (ag @aiJ @aiy) (ag @aiD @aiE)))) (ag (ag (ag @ai1 (ag @aiV @ai9)) (ag (ag @aiz @aiT) (ag @aiH @aiZ))) (ag (ag (ag @aiW @aiG) (ag @ah3 @ahR)) (ag (ag @ah2 @ahT) (ag @ah1 @ahV))))) (ag (ag (ag (ag @ahS (ag @ah7 @ahX)) (ag (ag @ahZ @ah4) (ag @ahW @ah5))) (ag (ag @ahU (ag @ah0 @ahY)) (ag (ag @ah6 @aaa) (ag @aab (@aef P))))) (ag (ag (ag (@ahE P) (ag (@ahD P) @VL)) (ag (ag @adY alz) (ag @Option.bind_some.{0,0} @List.toList_toArray.{0}))) (ag (ag (ag @List.getElem?_cons_succ.{0} @List.getElem?_cons_zero.{0}) (ag @Bool.or_false @Bool.or_true)) (ag (ag @Bool.false_or @Bool.true_or) (ag @List.nil_append.{0} @List.append_nil.{0}))))))
abbrev kE:=ae->O
abbrev T1:=af->kE
abbrev T2:=af->T1
abbrev b8:=af->T2
abbrev ck:=af->b8
abbrev cF:=af->ck
abbrev cH:=af->cF
abbrev ei:=af->cH
abbrev hG:=af->ei
abbrev jO:=af->hG
abbrev jr:=af->jO
abbrev pr:=af->jr
abbrev Kf:=af->pr
abbrev alA:kE:=λ_=>Z
abbrev Ur:T1:=λ_=>alA
abbrev ns:T2:=λ_=>Ur
abbrev gQ:b8:=λ_=>ns
abbrev fB:ck:=λ_=>gQ
abbrev hW:cF:=λ_=>fB
abbrev iK:cH:=λ_=>hW
abbrev k5:ei:=λ_=>iK
abbrev uL:hG:=λ_=>k5
abbrev y_:jO:=λ_=>uL
abbrev y9:jr:=λ_=>y_
abbrev alB:pr:=λ_=>y9
def bu(g:kE):bU:=λR H=>g H
def Wt{g:kE}{R:br}{H:ae}:bu g R H=g H:=rfl
def a6(g:T1)(i0:Nat):bU:=λR H=>g (R i0) H
def Wu{g:T1}{i0:Nat}{R:br}{H:ae}:a6 g i0 R H=g (R i0) H:=rfl
def bd(g:T2)(i0 i1:Nat):bU:=λR H=>g (R i0) (R i1) H
def Wy{g:T2}{i0 i1:Nat}{R:br}{H:ae}:bd g i0 i1 R H=g (R i0) (R i1) H:=rfl
def bo(g:b8)(i0 i1 i2:Nat):bU:=λR H=>g (R i0) (R i1) (R i2) H
def Wz{g:b8}{i0 i1 i2:Nat}{R:br}{H:ae}:bo g i0 i1 i2 R H=g (R i0) (R i1) (R i2) H:=rfl
def bO(g:ck)(i0 i1 i2 i3:Nat):bU:=λR H=>g (R i0) (R i1) (R i2) (R i3) H
def WA{g:ck}{i0 i1 i2 i3:Nat}{R:br}{H:ae}:bO g i0 i1 i2 i3 R H=g (R i0) (R i1) (R i2) (R i3) H:=rfl
def b3(g:cF)(i0 i1 i2 i3 i4:Nat):bU:=λR H=>g (R i0) (R i1) (R i2) (R i3) (R i4) H
def WB{g:cF}{i0 i1 i2 i3 i4:Nat}{R:br}{H:ae}:b3 g i0 i1 i2 i3 i4 R H=g (R i0) (R i1) (R i2) (R i3) (R i4) H:=rfl
def cm(g:cH)(i0 i1 i2 i3 i4 i5:Nat):bU:=λR H=>g (R i0) (R i1) (R i2) (R i3) (R i4) (R i5) H
def WC{g:cH}{i0 i1 i2 i3 i4 i5:Nat}{R:br}{H:ae}:cm g i0 i1 i2 i3 i4 i5 R H=g (R i0) (R i1) (R i2) (R i3) (R i4) (R i5) H:=rfl
def dw(g:ei)(i0 i1 i2 i3 i4 i5 i6:Nat):bU:=λR H=>g (R i0) (R i1) (R i2) (R i3) (R i4) (R i5) (R i6) H
def WD{g:ei}{i0 i1 i2 i3 i4 i5 i6:Nat}{R:br}{H:ae}:dw g i0 i1 i2 i3 i4 i5 i6 R H=g (R i0) (R i1) (R i2) (R i3) (R i4) (R i5) (R i6) H:=rfl
def gp(g:hG)(i0 i1 i2 i3 i4 i5 i6 i7:Nat):bU:=λR H=>g (R i0) (R i1) (R i2) (R i3) (R i4) (R i5) (R i6) (R i7) H
def WE{g:hG}{i0 i1 i2 i3 i4 i5 i6 i7:Nat}{R:br}{H:ae}:gp g i0 i1 i2 i3 i4 i5 i6 i7 R H=g (R i0) (R i1) (R i2) (R i3) (R i4) (R i5) (R i6) (R i7) H:=rfl
def pA(g:jO)(i0 i1 i2 i3 i4 i5 i6 i7 i8:Nat):bU:=λR H=>g (R i0) (R i1) (R i2) (R i3) (R i4) (R i5) (R i6) (R i7) (R i8) H
def WG{g:jO}{i0 i1 i2 i3 i4 i5 i6 i7 i8:Nat}{R:br}{H:ae}:pA g i0 i1 i2 i3 i4 i5 i6 i7 i8 R H=g (R i0) (R i1) (R i2) (R i3) (R i4) (R i5) (R i6) (R i7) (R i8) H:=rfl
def qY(g:jr)(i0 i1 i2 i3 i4 i5 i6 i7 i8 i9:Nat):bU:=λR H=>g (R i0) (R i1) (R i2) (R i3) (R i4) (R i5) (R i6) (R i7) (R i8) (R i9) H
def Wv{g:jr}{i0 i1 i2 i3 i4 i5 i6 i7 i8 i9:Nat}{R:br}{H:ae}:qY g i0 i1 i2 i3 i4 i5 i6 i7 i8 i9 R H=g (R i0) (R i1) (R i2) (R i3) (R i4) (R i5) (R i6) (R i7) (R i8) (R i9) H:=rfl
def Ld(g:pr)(i0 i1 i2 i3 i4 i5 i6 i7 i8 i9 i10:Nat):bU:=λR H=>g (R i0) (R i1) (R i2) (R i3) (R i4) (R i5) (R i6) (R i7) (R i8) (R i9) (R i10) H
def Ww{g:pr}{i0 i1 i2 i3 i4 i5 i6 i7 i8 i9 i10:Nat}{R:br}{H:ae}:Ld g i0 i1 i2 i3 i4 i5 i6 i7 i8 i9 i10 R H=g (R i0) (R i1) (R i2) (R i3) (R i4) (R i5) (R i6) (R i7) (R i8) (R i9) (R i10) H:=rfl
def Wc(g:Kf)(i0 i1 i2 i3 i4 i5 i6 i7 i8 i9 i10 i11:Nat):bU:=λR H=>g (R i0) (R i1) (R i2) (R i3) (R i4) (R i5) (R i6) (R i7) (R i8) (R i9) (R i10) (R i11) H
def Wx{g:Kf}{i0 i1 i2 i3 i4 i5 i6 i7 i8 i9 i10 i11:Nat}{R:br}{H:ae}:Wc g i0 i1 i2 i3 i4 i5 i6 i7 i8 i9 i10 i11 R H=g (R i0) (R i1) (R i2) (R i3) (R i4) (R i5) (R i6) (R i7) (R i8) (R i9) (R i10) (R i11) H:=rfl
def Lk:=ag (ag (ag @Wt (ag @Wu @Wy)) (ag @Wz (ag @WA @WB))) (ag (ag @WC (ag @WD @WE)) (ag (ag @WG @Wv) (ag @Ww @Wx)))
def jl{p:Prop}(h:p:=by intros;simp(maxSteps:=4000000) (disch:=try exact LW)only[LU,Lk,Nat.reduceEqDiff,reduceIte, *];rfl):p:=h
def cR{zA B zC:bU}(h:∀R H,zA R H=B R H)(e:∀R H,B R H=zC R H:=by intro R H;kernel_rfl):∀R H,zA R H=zC R H:=λR H=>(h R H).trans (e R H)
section
variable {f:Func}{G:ao}{N:Nat}{c d:Code}{b9 B:bU}{b4:List (Nat×bU)}{rs:List ResultVar}
abbrev hX(f:Func)(G:ao)(N:Nat)(p:Code->Code)(b9:bU)(b4:List (Nat×bU)):={g:kE // ∀R H,bX P G N (p (bL f)) b9 b4 (a8 f) R H=g H}
abbrev W0(f:Func)(G:ao)(p:Code->Code)(b9:bU)(b4:List (Nat×bU)):={g:kE // ∀N R H,bX P G N (p (bL f)) b9 b4 (a8 f) R H=g H}
def v0{g:kE}(h:∀R H,bX P G N c b9 b4 (a8 f) R H=B R H)(a:bL f=d:=by(conv=>lhs;whnf);try rfl)(au:f.results.toList=rs:=by(conv=>lhs;whnf);try rfl)(e:bL f=d->f.results.toList=rs->∀(R:br) H,B R H=g H:=by exact jl):∀R H,bX P G N c b9 b4 (a8 f) R H=g H:=λR H=>(h R H).trans (e a au R H)
abbrev eP(i0:Nat)(f:Func)(G:ao)(N:Nat)(p:Code->Code)(b9:bU)(b4:List (Nat×bU)):={g:T1 // ∀R H,bX P G N (p (bL f)) b9 b4 (a8 f) R H=g (R i0) H}
abbrev iy(i0:Nat)(f:Func)(G:ao)(p:Code->Code)(b9:bU)(b4:List (Nat×bU)):={g:T1 // ∀N R H,bX P G N (p (bL f)) b9 b4 (a8 f) R H=g (R i0) H}
def v1{g:T1}{i0:Nat}(h:∀R H,bX P G N c b9 b4 (a8 f) R H=B R H)(b:bL f=d:=by(conv=>lhs;whnf);try rfl)(au:f.results.toList=rs:=by(conv=>lhs;whnf);try rfl)(e:bL f=d->f.results.toList=rs->∀a (R:br) H,R i0=a->B R H=g a H:=by exact jl):∀R H,bX P G N c b9 b4 (a8 f) R H=g (R i0) H:=λR H=>(h R H).trans (e b au _ R H rfl)
abbrev gT(i0 i1:Nat)(f:Func)(G:ao)(N:Nat)(p:Code->Code)(b9:bU)(b4:List (Nat×bU)):={g:T2 // ∀R H,bX P G N (p (bL f)) b9 b4 (a8 f) R H=g (R i0) (R i1) H}
abbrev sy(i0 i1:Nat)(f:Func)(G:ao)(p:Code->Code)(b9:bU)(b4:List (Nat×bU)):={g:T2 // ∀N R H,bX P G N (p (bL f)) b9 b4 (a8 f) R H=g (R i0) (R i1) H}
def v2{g:T2}{i0 i1:Nat}(h:∀R H,bX P G N c b9 b4 (a8 f) R H=B R H)(b:bL f=d:=by(conv=>lhs;whnf);try rfl)(au:f.results.toList=rs:=by(conv=>lhs;whnf);try rfl)(e:bL f=d->f.results.toList=rs->∀a x1 (R:br) H,R i0=a->R i1=x1->B R H=g a x1 H:=by exact jl):∀R H,bX P G N c b9 b4 (a8 f) R H=g (R i0) (R i1) H:=λR H=>(h R H).trans (e b au _ _ R H rfl rfl)
abbrev ew(i0 i1 i2:Nat)(f:Func)(G:ao)(N:Nat)(p:Code->Code)(b9:bU)(b4:List (Nat×bU)):={g:b8 // ∀R H,bX P G N (p (bL f)) b9 b4 (a8 f) R H=g (R i0) (R i1) (R i2) H}
abbrev jR(i0 i1 i2:Nat)(f:Func)(G:ao)(p:Code->Code)(b9:bU)(b4:List (Nat×bU)):={g:b8 // ∀N R H,bX P G N (p (bL f)) b9 b4 (a8 f) R H=g (R i0) (R i1) (R i2) H}
def v3{g:b8}{i0 i1 i2:Nat}(h:∀R H,bX P G N c b9 b4 (a8 f) R H=B R H)(b:bL f=d:=by(conv=>lhs;whnf);try rfl)(au:f.results.toList=rs:=by(conv=>lhs;whnf);try rfl)(e:bL f=d->f.results.toList=rs->∀a x1 x2 (R:br) H,R i0=a->R i1=x1->R i2=x2->B R H=g a x1 x2 H:=by exact jl):∀R H,bX P G N c b9 b4 (a8 f) R H=g (R i0) (R i1) (R i2) H:=λR H=>(h R H).trans (e b au _ _ _ R H rfl rfl rfl)
abbrev dO(i0 i1 i2 i3:Nat)(f:Func)(G:ao)(N:Nat)(p:Code->Code)(b9:bU)(b4:List (Nat×bU)):={g:ck // ∀R H,bX P G N (p (bL f)) b9 b4 (a8 f) R H=g (R i0) (R i1) (R i2) (R i3) H}
abbrev oq(i0 i1 i2 i3:Nat)(f:Func)(G:ao)(p:Code->Code)(b9:bU)(b4:List (Nat×bU)):={g:ck // ∀N R H,bX P G N (p (bL f)) b9 b4 (a8 f) R H=g (R i0) (R i1) (R i2) (R i3) H}
def v4{g:ck}{i0 i1 i2 i3:Nat}(h:∀R H,bX P G N c b9 b4 (a8 f) R H=B R H)(b:bL f=d:=by(conv=>lhs;whnf);try rfl)(au:f.results.toList=rs:=by(conv=>lhs;whnf);try rfl)(e:bL f=d->f.results.toList=rs->∀a x1 x2 x3 (R:br) H,R i0=a->R i1=x1->R i2=x2->R i3=x3->B R H=g a x1 x2 x3 H:=by exact jl):∀R H,bX P G N c b9 b4 (a8 f) R H=g (R i0) (R i1) (R i2) (R i3) H:=λR H=>(h R H).trans (e b au _ _ _ _ R H rfl rfl rfl rfl)
abbrev e6(i0 i1 i2 i3 i4:Nat)(f:Func)(G:ao)(N:Nat)(p:Code->Code)(b9:bU)(b4:List (Nat×bU)):={g:cF // ∀R H,bX P G N (p (bL f)) b9 b4 (a8 f) R H=g (R i0) (R i1) (R i2) (R i3) (R i4) H}
abbrev sz(i0 i1 i2 i3 i4:Nat)(f:Func)(G:ao)(p:Code->Code)(b9:bU)(b4:List (Nat×bU)):={g:cF // ∀N R H,bX P G N (p (bL f)) b9 b4 (a8 f) R H=g (R i0) (R i1) (R i2) (R i3) (R i4) H}
def v5{g:cF}{i0 i1 i2 i3 i4:Nat}(h:∀R H,bX P G N c b9 b4 (a8 f) R H=B R H)(b:bL f=d:=by(conv=>lhs;whnf);try rfl)(au:f.results.toList=rs:=by(conv=>lhs;whnf);try rfl)(e:bL f=d->f.results.toList=rs->∀a x1 x2 x3 x4 (R:br) H,R i0=a->R i1=x1->R i2=x2->R i3=x3->R i4=x4->B R H=g a x1 x2 x3 x4 H:=by exact jl):∀R H,bX P G N c b9 b4 (a8 f) R H=g (R i0) (R i1) (R i2) (R i3) (R i4) H:=λR H=>(h R H).trans (e b au _ _ _ _ _ R H rfl rfl rfl rfl rfl)
abbrev fQ(i0 i1 i2 i3 i4 i5:Nat)(f:Func)(G:ao)(N:Nat)(p:Code->Code)(b9:bU)(b4:List (Nat×bU)):={g:cH // ∀R H,bX P G N (p (bL f)) b9 b4 (a8 f) R H=g (R i0) (R i1) (R i2) (R i3) (R i4) (R i5) H}
abbrev W6(i0 i1 i2 i3 i4 i5:Nat)(f:Func)(G:ao)(p:Code->Code)(b9:bU)(b4:List (Nat×bU)):={g:cH // ∀N R H,bX P G N (p (bL f)) b9 b4 (a8 f) R H=g (R i0) (R i1) (R i2) (R i3) (R i4) (R i5) H}
def v6{g:cH}{i0 i1 i2 i3 i4 i5:Nat}(h:∀R H,bX P G N c b9 b4 (a8 f) R H=B R H)(b:bL f=d:=by(conv=>lhs;whnf);try rfl)(au:f.results.toList=rs:=by(conv=>lhs;whnf);try rfl)(e:bL f=d->f.results.toList=rs->∀a x1 x2 x3 x4 x5 (R:br) H,R i0=a->R i1=x1->R i2=x2->R i3=x3->R i4=x4->R i5=x5->B R H=g a x1 x2 x3 x4 x5 H:=by exact jl):∀R H,bX P G N c b9 b4 (a8 f) R H=g (R i0) (R i1) (R i2) (R i3) (R i4) (R i5) H:=λR H=>(h R H).trans (e b au _ _ _ _ _ _ R H rfl rfl rfl rfl rfl rfl)
abbrev gZ(i0 i1 i2 i3 i4 i5 i6:Nat)(f:Func)(G:ao)(N:Nat)(p:Code->Code)(b9:bU)(b4:List (Nat×bU)):={g:ei // ∀R H,bX P G N (p (bL f)) b9 b4 (a8 f) R H=g (R i0) (R i1) (R i2) (R i3) (R i4) (R i5) (R i6) H}
abbrev sA(i0 i1 i2 i3 i4 i5 i6:Nat)(f:Func)(G:ao)(p:Code->Code)(b9:bU)(b4:List (Nat×bU)):={g:ei // ∀N R H,bX P G N (p (bL f)) b9 b4 (a8 f) R H=g (R i0) (R i1) (R i2) (R i3) (R i4) (R i5) (R i6) H}
def hf{g:ei}{i0 i1 i2 i3 i4 i5 i6:Nat}(h:∀R H,bX P G N c b9 b4 (a8 f) R H=B R H)(b:bL f=d:=by(conv=>lhs;whnf);try rfl)(au:f.results.toList=rs:=by(conv=>lhs;whnf);try rfl)(e:bL f=d->f.results.toList=rs->∀a x1 x2 x3 x4 x5 x6 (R:br) H,R i0=a->R i1=x1->R i2=x2->R i3=x3->R i4=x4->R i5=x5->R i6=x6->B R H=g a x1 x2 x3 x4 x5 x6 H:=by exact jl):∀R H,bX P G N c b9 b4 (a8 f) R H=g (R i0) (R i1) (R i2) (R i3) (R i4) (R i5) (R i6) H:=λR H=>(h R H).trans (e b au _ _ _ _ _ _ _ R H rfl rfl rfl rfl rfl rfl rfl)
abbrev oo(i0 i1 i2 i3 i4 i5 i6 i7:Nat)(f:Func)(G:ao)(N:Nat)(p:Code->Code)(b9:bU)(b4:List (Nat×bU)):={g:hG // ∀R H,bX P G N (p (bL f)) b9 b4 (a8 f) R H=g (R i0) (R i1) (R i2) (R i3) (R i4) (R i5) (R i6) (R i7) H}
def nm{g:hG}{i0 i1 i2 i3 i4 i5 i6 i7:Nat}(h:∀R H,bX P G N c b9 b4 (a8 f) R H=B R H)(b:bL f=d:=by(conv=>lhs;whnf);try rfl)(au:f.results.toList=rs:=by(conv=>lhs;whnf);try rfl)(e:bL f=d->f.results.toList=rs->∀a x1 x2 x3 x4 x5 x6 x7 (R:br) H,R i0=a->R i1=x1->R i2=x2->R i3=x3->R i4=x4->R i5=x5->R i6=x6->R i7=x7->B R H=g a x1 x2 x3 x4 x5 x6 x7 H:=by exact jl):∀R H,bX P G N c b9 b4 (a8 f) R H=g (R i0) (R i1) (R i2) (R i3) (R i4) (R i5) (R i6) (R i7) H:=λR H=>(h R H).trans (e b au _ _ _ _ _ _ _ _ R H rfl rfl rfl rfl rfl rfl rfl rfl)
abbrev qR(i0 i1 i2 i3 i4 i5 i6 i7 i8:Nat)(f:Func)(G:ao)(N:Nat)(p:Code->Code)(b9:bU)(b4:List (Nat×bU)):={g:jO // ∀R H,bX P G N (p (bL f)) b9 b4 (a8 f) R H=g (R i0) (R i1) (R i2) (R i3) (R i4) (R i5) (R i6) (R i7) (R i8) H}
def v9{g:jO}{i0 i1 i2 i3 i4 i5 i6 i7 i8:Nat}(h:∀R H,bX P G N c b9 b4 (a8 f) R H=B R H)(b:bL f=d:=by(conv=>lhs;whnf);try rfl)(au:f.results.toList=rs:=by(conv=>lhs;whnf);try rfl)(e:bL f=d->f.results.toList=rs->∀a x1 x2 x3 x4 x5 x6 x7 x8 (R:br) H,R i0=a->R i1=x1->R i2=x2->R i3=x3->R i4=x4->R i5=x5->R i6=x6->R i7=x7->R i8=x8->B R H=g a x1 x2 x3 x4 x5 x6 x7 x8 H:=by exact jl):∀R H,bX P G N c b9 b4 (a8 f) R H=g (R i0) (R i1) (R i2) (R i3) (R i4) (R i5) (R i6) (R i7) (R i8) H:=λR H=>(h R H).trans (e b au _ _ _ _ _ _ _ _ _ R H rfl rfl rfl rfl rfl rfl rfl rfl rfl)
abbrev sx(i0 i1 i2 i3 i4 i5 i6 i7 i8 i9:Nat)(f:Func)(G:ao)(N:Nat)(p:Code->Code)(b9:bU)(b4:List (Nat×bU)):={g:jr // ∀R H,bX P G N (p (bL f)) b9 b4 (a8 f) R H=g (R i0) (R i1) (R i2) (R i3) (R i4) (R i5) (R i6) (R i7) (R i8) (R i9) H}
def v10{g:jr}{i0 i1 i2 i3 i4 i5 i6 i7 i8 i9:Nat}(h:∀R H,bX P G N c b9 b4 (a8 f) R H=B R H)(b:bL f=d:=by(conv=>lhs;whnf);try rfl)(au:f.results.toList=rs:=by(conv=>lhs;whnf);try rfl)(e:bL f=d->f.results.toList=rs->∀a x1 x2 x3 x4 x5 x6 x7 x8 x9 (R:br) H,R i0=a->R i1=x1->R i2=x2->R i3=x3->R i4=x4->R i5=x5->R i6=x6->R i7=x7->R i8=x8->R i9=x9->B R H=g a x1 x2 x3 x4 x5 x6 x7 x8 x9 H:=by exact jl):∀R H,bX P G N c b9 b4 (a8 f) R H=g (R i0) (R i1) (R i2) (R i3) (R i4) (R i5) (R i6) (R i7) (R i8) (R i9) H:=λR H=>(h R H).trans (e b au _ _ _ _ _ _ _ _ _ _ R H rfl rfl rfl rfl rfl rfl rfl rfl rfl rfl)
abbrev Uz(i0 i1 i2 i3 i4 i5 i6 i7 i8 i9 i10:Nat)(f:Func)(G:ao)(N:Nat)(p:Code->Code)(b9:bU)(b4:List (Nat×bU)):={g:pr // ∀R H,bX P G N (p (bL f)) b9 b4 (a8 f) R H=g (R i0) (R i1) (R i2) (R i3) (R i4) (R i5) (R i6) (R i7) (R i8) (R i9) (R i10) H}
def v11{g:pr}{i0 i1 i2 i3 i4 i5 i6 i7 i8 i9 i10:Nat}(h:∀R H,bX P G N c b9 b4 (a8 f) R H=B R H)(b:bL f=d:=by(conv=>lhs;whnf);try rfl)(au:f.results.toList=rs:=by(conv=>lhs;whnf);try rfl)(e:bL f=d->f.results.toList=rs->∀a x1 x2 x3 x4 x5 x6 x7 x8 x9 x10 (R:br) H,R i0=a->R i1=x1->R i2=x2->R i3=x3->R i4=x4->R i5=x5->R i6=x6->R i7=x7->R i8=x8->R i9=x9->R i10=x10->B R H=g a x1 x2 x3 x4 x5 x6 x7 x8 x9 x10 H:=by exact jl):∀R H,bX P G N c b9 b4 (a8 f) R H=g (R i0) (R i1) (R i2) (R i3) (R i4) (R i5) (R i6) (R i7) (R i8) (R i9) (R i10) H:=λR H=>(h R H).trans (e b au _ _ _ _ _ _ _ _ _ _ _ R H rfl rfl rfl rfl rfl rfl rfl rfl rfl rfl rfl)
abbrev uT(f:Func)(G:ao):={g:kE // ∀N H,eF f G N (c4 []) H=g H}
def t0{g:kE}(h:∀R H,eF f G N R H=B R H)(a:bL f=d:=by(conv=>lhs;whnf);try rfl)(au:f.results.toList=rs:=by(conv=>lhs;whnf);try rfl)(e:bL f=d->f.results.toList=rs->∀H,B (c4 []) H=g H:=by exact jl):∀H,eF f G N (c4 []) H=g H:=λH=>(h _ H).trans (e a au H)
def N8{g:kE}{zA:bU}(h:∀R H,zA R H=B R H)(e:∀H,B (c4 []) H=g H:=by intros;kernel_rfl):∀H,zA (c4 []) H=g H:=λH=>(h _ H).trans (e H)
def G2{i:Nat}{S:ao->kE}(aB:P.funcs[i]? =A f)(he:∀G H,eF f G N (c4 []) H=S G H)(b:∀a H,aD i a H=none:=by intros;kernel_rfl)(c:f.body=A (bL f):=by first|kernel_rfl)(d:ha f.ntmps (bL f)=true:=by first|kernel_rfl)(aL:Nat.ble 0 f.ntmps=true:=by first|kernel_rfl) ⦃H Q⦄(h:W (S (aK P aD) H) Q):W (aK P aD i [] H) Q:=sB (λ_ h=>rF (b _ _) aB c d aL ((he _ H).trans h)) h
abbrev f_(f:Func)(G:ao)(N:Nat):={g:T1 // ∀a H,eF f G N (c4 [a]) H=g a H}
abbrev hr(f:Func)(G:ao):={g:T1 // ∀N a H,eF f G N (c4 [a]) H=g a H}
def t1{g:T1}(h:∀R H,eF f G N R H=B R H)(b:bL f=d:=by(conv=>lhs;whnf);try rfl)(au:f.results.toList=rs:=by(conv=>lhs;whnf);try rfl)(e:bL f=d->f.results.toList=rs->∀a H,B (c4 [a]) H=g a H:=by exact jl):∀a H,eF f G N (c4 [a]) H=g a H:=λa H=>(h _ H).trans (e b au a H)
def Af{g:T1}{zA:bU}(h:∀R H,zA R H=B R H)(e:∀a H,B (c4 [a]) H=g a H:=by intros;kernel_rfl):∀a H,zA (c4 [a]) H=g a H:=λa H=>(h _ H).trans (e a H)
def eo{i:Nat}{S:ao->T1}(aB:P.funcs[i]? =A f)(he:∀G b H,eF f G N (c4 [b]) H=S G b H)(c:∀a H,aD i a H=none:=by intros;kernel_rfl)(d:f.body=A (bL f):=by first|kernel_rfl)(e:ha f.ntmps (bL f)=true:=by first|kernel_rfl)(aL:Nat.ble 1 f.ntmps=true:=by first|kernel_rfl) ⦃b H Q⦄(h:W (S (aK P aD) b H) Q):W (aK P aD i [b] H) Q:=sB (λ_ h=>rF (c _ _) aB d e aL ((he _ b H).trans h)) h
abbrev gn(f:Func)(G:ao)(N:Nat):={g:T2 // ∀a x1 H,eF f G N (c4 [a,x1]) H=g a x1 H}
abbrev eQ(f:Func)(G:ao):={g:T2 // ∀N a x1 H,eF f G N (c4 [a,x1]) H=g a x1 H}
def t2{g:T2}(h:∀R H,eF f G N R H=B R H)(b:bL f=d:=by(conv=>lhs;whnf);try rfl)(au:f.results.toList=rs:=by(conv=>lhs;whnf);try rfl)(e:bL f=d->f.results.toList=rs->∀a x1 H,B (c4 [a,x1]) H=g a x1 H:=by exact jl):∀a x1 H,eF f G N (c4 [a,x1]) H=g a x1 H:=λa x1 H=>(h _ H).trans (e b au a x1 H)
def N9{g:T2}{zA:bU}(h:∀R H,zA R H=B R H)(e:∀a x1 H,B (c4 [a,x1]) H=g a x1 H:=by intros;kernel_rfl):∀a x1 H,zA (c4 [a,x1]) H=g a x1 H:=λa x1 H=>(h _ H).trans (e a x1 H)
def c6{i:Nat}{S:ao->T2}(aB:P.funcs[i]? =A f)(he:∀G b x1 H,eF f G N (c4 [b,x1]) H=S G b x1 H)(c:∀a H,aD i a H=none:=by intros;kernel_rfl)(d:f.body=A (bL f):=by first|kernel_rfl)(e:ha f.ntmps (bL f)=true:=by first|kernel_rfl)(aL:Nat.ble 2 f.ntmps=true:=by first|kernel_rfl) ⦃b x1 H Q⦄(h:W (S (aK P aD) b x1 H) Q):W (aK P aD i [b,x1] H) Q:=sB (λ_ h=>rF (c _ _) aB d e aL ((he _ b x1 H).trans h)) h
abbrev nA(f:Func)(G:ao)(N:Nat):={g:b8 // ∀a x1 x2 H,eF f G N (c4 [a,x1,x2]) H=g a x1 x2 H}
abbrev jS(f:Func)(G:ao):={g:b8 // ∀N a x1 x2 H,eF f G N (c4 [a,x1,x2]) H=g a x1 x2 H}
def t3{g:b8}(h:∀R H,eF f G N R H=B R H)(b:bL f=d:=by(conv=>lhs;whnf);try rfl)(au:f.results.toList=rs:=by(conv=>lhs;whnf);try rfl)(e:bL f=d->f.results.toList=rs->∀a x1 x2 H,B (c4 [a,x1,x2]) H=g a x1 x2 H:=by exact jl):∀a x1 x2 H,eF f G N (c4 [a,x1,x2]) H=g a x1 x2 H:=λa x1 x2 H=>(h _ H).trans (e b au a x1 x2 H)
def N_{g:b8}{zA:bU}(h:∀R H,zA R H=B R H)(e:∀a x1 x2 H,B (c4 [a,x1,x2]) H=g a x1 x2 H:=by intros;kernel_rfl):∀a x1 x2 H,zA (c4 [a,x1,x2]) H=g a x1 x2 H:=λa x1 x2 H=>(h _ H).trans (e a x1 x2 H)
def hp{i:Nat}{S:ao->b8}(aB:P.funcs[i]? =A f)(he:∀G b x1 x2 H,eF f G N (c4 [b,x1,x2]) H=S G b x1 x2 H)(c:∀a H,aD i a H=none:=by intros;kernel_rfl)(d:f.body=A (bL f):=by first|kernel_rfl)(e:ha f.ntmps (bL f)=true:=by first|kernel_rfl)(aL:Nat.ble 3 f.ntmps=true:=by first|kernel_rfl) ⦃b x1 x2 H Q⦄(h:W (S (aK P aD) b x1 x2 H) Q):W (aK P aD i [b,x1,x2] H) Q:=sB (λ_ h=>rF (c _ _) aB d e aL ((he _ b x1 x2 H).trans h)) h
abbrev Eu(f:Func)(G:ao)(N:Nat):={g:ck // ∀a x1 x2 x3 H,eF f G N (c4 [a,x1,x2,x3]) H=g a x1 x2 x3 H}
abbrev sC(f:Func)(G:ao):={g:ck // ∀N a x1 x2 x3 H,eF f G N (c4 [a,x1,x2,x3]) H=g a x1 x2 x3 H}
def t4{g:ck}(h:∀R H,eF f G N R H=B R H)(b:bL f=d:=by(conv=>lhs;whnf);try rfl)(au:f.results.toList=rs:=by(conv=>lhs;whnf);try rfl)(e:bL f=d->f.results.toList=rs->∀a x1 x2 x3 H,B (c4 [a,x1,x2,x3]) H=g a x1 x2 x3 H:=by exact jl):∀a x1 x2 x3 H,eF f G N (c4 [a,x1,x2,x3]) H=g a x1 x2 x3 H:=λa x1 x2 x3 H=>(h _ H).trans (e b au a x1 x2 x3 H)
def abr{g:ck}{zA:bU}(h:∀R H,zA R H=B R H)(e:∀a x1 x2 x3 H,B (c4 [a,x1,x2,x3]) H=g a x1 x2 x3 H:=by intros;kernel_rfl):∀a x1 x2 x3 H,zA (c4 [a,x1,x2,x3]) H=g a x1 x2 x3 H:=λa x1 x2 x3 H=>(h _ H).trans (e a x1 x2 x3 H)
def oW{i:Nat}{S:ao->ck}(aB:P.funcs[i]? =A f)(he:∀G b x1 x2 x3 H,eF f G N (c4 [b,x1,x2,x3]) H=S G b x1 x2 x3 H)(c:∀a H,aD i a H=none:=by intros;kernel_rfl)(d:f.body=A (bL f):=by first|kernel_rfl)(e:ha f.ntmps (bL f)=true:=by first|kernel_rfl)(aL:Nat.ble 4 f.ntmps=true:=by first|kernel_rfl) ⦃b x1 x2 x3 H Q⦄(h:W (S (aK P aD) b x1 x2 x3 H) Q):W (aK P aD i [b,x1,x2,x3] H) Q:=sB (λ_ h=>rF (c _ _) aB d e aL ((he _ b x1 x2 x3 H).trans h)) h
abbrev Kh(f:Func)(G:ao):={g:cF // ∀N a x1 x2 x3 x4 H,eF f G N (c4 [a,x1,x2,x3,x4]) H=g a x1 x2 x3 x4 H}
def t5{g:cF}(h:∀R H,eF f G N R H=B R H)(b:bL f=d:=by(conv=>lhs;whnf);try rfl)(au:f.results.toList=rs:=by(conv=>lhs;whnf);try rfl)(e:bL f=d->f.results.toList=rs->∀a x1 x2 x3 x4 H,B (c4 [a,x1,x2,x3,x4]) H=g a x1 x2 x3 x4 H:=by exact jl):∀a x1 x2 x3 x4 H,eF f G N (c4 [a,x1,x2,x3,x4]) H=g a x1 x2 x3 x4 H:=λa x1 x2 x3 x4 H=>(h _ H).trans (e b au a x1 x2 x3 x4 H)
def Rc{i:Nat}{S:ao->cF}(aB:P.funcs[i]? =A f)(he:∀G b x1 x2 x3 x4 H,eF f G N (c4 [b,x1,x2,x3,x4]) H=S G b x1 x2 x3 x4 H)(c:∀a H,aD i a H=none:=by intros;kernel_rfl)(d:f.body=A (bL f):=by first|kernel_rfl)(e:ha f.ntmps (bL f)=true:=by first|kernel_rfl)(aL:Nat.ble 5 f.ntmps=true:=by first|kernel_rfl) ⦃b x1 x2 x3 x4 H Q⦄(h:W (S (aK P aD) b x1 x2 x3 x4 H) Q):W (aK P aD i [b,x1,x2,x3,x4] H) Q:=sB (λ_ h=>rF (c _ _) aB d e aL ((he _ b x1 x2 x3 x4 H).trans h)) h
end
section
variable {G:ao}{N:Nat}{b9 gm:bU}{b4:List (Nat×bU)}{c:Code}
def an:∀R H,bX P G N c b9 b4 gm R H=bX P G N c b9 b4 gm R H:=akZ c
def ak{k T:bU}(a:∀R H,bX P G N c.ad b9 b4 gm R H=k R H)(aF:∀R H,bX P G N c.aj k b4 gm R H=T R H)(aA:c.NI=true:=by first|kernel_rfl):∀R H,bX P G N c b9 b4 gm R H=T R H:=ak1 aA a aF
def c9{zA B:bU}(a:∀R H,bX P G N c.aj b9 b4 gm R H=zA R H)(b:∀R H,bX P G N c.ad b9 b4 gm R H=B R H)(aA:c.NB=true:=by first|kernel_rfl):∀R H,bX P G N c b9 b4 gm R H=eB (bn R c.test) (zA R H) (B R H):=akY aA a b
def bh{T:bU}(a:∀R H,bX P G N c.aj b9 ((c.num,b9)::b4) gm R H=T R H)(aA:c.NA=true:=by first|kernel_rfl):∀R H,bX P G N c b9 b4 gm R H=T R H:=akX aA a
def bH{k:Nat->bU}(b:∀n R H,bX P G N c.aj (k n) b4 gm R H=k (n+1) R H)(a:∀R H,k 0 R H=none:=by intro R H;kernel_rfl)(aA:c.NF=true:=by first|kernel_rfl):∀R H,bX P G N c b9 b4 gm R H=k N R H:=ak0 aA a b
end
end
section
set_option maxRecDepth 100000
section
variable {G:ao}{ops:Array Oper}{R:br}{H:ae}
def Mb(ops:Array Oper):Bool:= !AH ops&&((qF ops (order ops)).isNone&& !quiet ops)
def Ma(ops:Array Oper):Bool:= !AH ops&&((qF ops (order ops)).isNone&&quiet ops)
def aeh{k:br->ae->O}(h:Mb ops=J):m6 P G ops J R H k=jY P G ops (order ops) R H λT bk H'=>bif jv (cQ ops) (h_ ops) T H then k bk H' else none:=by
 unfold Mb at h;simp only[Bool.and_eq_true,Bool.not_eq_true',Option.isNone_iff_eq_none]at h;unfold m6;rw[h.2.1,h.2.2];rfl
def aeg{k:br->ae->O}(h:Ma ops=J):m6 P G ops J R H k=jY P G ops (order ops) R H λ_ bk H'=>k bk H':=by
 unfold Ma at h;simp only[Bool.and_eq_true,Bool.not_eq_true',Option.isNone_iff_eq_none]at h;unfold m6;rw[h.2.1,h.2.2];rfl
variable {i j:Nat}{is:List Nat}{kO:List fD->br->ae->O}{q:K->af->ae->O}{o:Op}
noncomputable def E3(G:ao)(ops:Array Oper)(o:Option Oper)(i:Nat)(is:List Nat)(R:br)(H:ae)(k:List fD->br->ae->O):O:=match o with
 |none=>Z
 |some o=>mJ P G ops o R H λx=>jY P G ops is (dF R o.dst x.val) (x.heap H) λT bk H'=>k (⟨i,x,hL P o.op R⟩::T) bk H'
def Wp:jY P G ops [] R H kO=kO [] R H:=rfl
def Wn:jY P G ops (i::is) R H kO=E3 G ops ops[i]? i is R H kO:=rfl
noncomputable def ka(G:ao)(o:Op)(R:br)(H:ae)(q:K->af->ae->O):O:=dH P G o R H λx=>q x x.val (x.heap H)
variable {d:Option Nat}{t:TypeId}{p:String}{a:Array Edge}{w:Bool}
def Wq:E3 G ops (A ⟨d,o,t,p,a,Z⟩) i is R H kO=ka G o R H λx v h=>jY P G ops is (dF R d v) h λT bk H'=>kO (⟨i,x,hL P o R⟩::T) bk H':=rfl
def Wo:E3 G ops (A ⟨d,o,t,p,a,A (j,w)⟩) i is R H kO=cb (s7 ops j R) w (gF P G o R H) λx=>jY P G ops is (dF R d x.val) (x.heap H) λT bk H'=>kO (⟨i,x,hL P o R⟩::T) bk H':=by
 rw[<-Tf];show mJ P G ops ⟨d,o,t,p,a,A (j,w)⟩ R H _=_;simp only[mJ,s7];cases ops[j]? with
 |none=>rfl
 |some q=>
  obtain⟨b,_,_,_,_,_⟩:=q;cases b<;>rfl
def NH(o:Op):Bool:=match cls o with| .pure=>J|_=>I
def NC(o:Op):Bool:=match cls o with| .write=>(match o with| .store _ _ _=>I|_=>J)| .call=>J|_=>I
def ND(o:Op):Bool:=match cls o with| .read=>J|_=>I
def aiu(h:NH o=J):ka G o R H q=eN P G o R H λv _=>q (.pure v) v H:=by
 rw[<-step_eq];unfold NH at h;split at h
 ·rename_i aA;unfold ka dH;rw[aA];rfl
 ·cases h
def ais(h:ND o=J):ka G o R H q=eN P G o R H λv _=>q (.read v) v H:=by
 rw[<-step_eq];unfold ND at h;split at h
 ·rename_i aA;unfold ka dH;rw[aA];rfl
 ·cases h
def air(h:NC o=J):ka G o R H q=eN P G o R H λv h=>q (.cV v h) v h:=by
 rw[<-step_eq];unfold NC at h;split at h
 ·rename_i aA;unfold ka dH;rw[aA];rfl
 ·rename_i aA;unfold ka dH;rw[aA];cases o<;>first|rfl|skip
 ·cases h
variable {x y z:Operand}{b:Builtin}{sJ:Array Operand}{ts:Array Nat}{n m:Nat}{dt:Array (Nat×Operand)}
def aiv:ka G (.store t x y) R H q=(bn R x).bind λu=>(bn R y).bind λv=>sk H (cz P H t u v) λw h=>q (.cV w h) w h:=by
 show dH P G (.store t x y) R H (λx=>q x x.val (x.heap H))=_;unfold dH sk eh eg;show(match lo P (.store t x y) R H with|some (v,H')=>bif decide (H.next<=H'.next)then q (.cV v H') v H' else Z|none=>Z)=_;simp only[lo];cases bn R x with
 |none=>rfl
 |some u=>cases bn R y with
  |none=>rfl
  |some v=>simp only[Option.bind_some];cases cz P H t u v<;>rfl
def vm(b:Builtin):Bool:=match b with| .append=>I| .clear=>I|_=>J
def aiq(h:vm b=J):ka G (.call ⟨.builtin b,sJ,ts⟩) R H q=(fu R sJ.toList).bind λak=>iZ (bD P .empty b ts.toList ak) (bD P H b ts.toList ak) λk=>q k k.val (k.heap H):=by
 have aA:cls (.call ⟨.builtin b,sJ,ts⟩)= .both:=by cases b<;>first|rfl|cases h
 unfold ka dH;rw[aA];simp only[hK,hL];cases fu R sJ.toList<;>rfl
def NG(o:Op):Bool:=match cls o with| .new=>(match o with| .alloc _=>I|_=>J)|_=>I
def S8(h:cls o= .new):ka G o R H q=ph H (iQ P o R H.next) λv b h=>q (.new v b) v h:=by
 unfold ka dH;rw[h];unfold jK ph;cases iQ P o R H.next<;>rfl
def ait(h:NG o=J):ka G o R H q=ph H (iQ P o R H.next) λv b h=>q (.new v b) v h:=by
 unfold NG at h;split at h
 ·rename_i aA;exact S8 aA
 ·cases h
noncomputable def Gs(G:ao)(t:TypeId)(l:Option (List af))(R:br)(H:ae)(q:K->af->ae->O):O:=match l with
 |some cs=>fA H cs λv h=>q (.new v (.row I (List.length cs) [cs])) v h
 |none=>ka G (.alloc t) R H q
def aip:ka G (.alloc t) R H q=Gs G t (fM P t) R H q:=by
 cases h:fM P t with
 |none=>rfl
 |some cs=>
  rw[S8 rfl];unfold fM at h;split at h
  ·rename_i z ah ai;cases a:z.cells.all af.one<;>rw[a]at h
   ·cases h
   ·cases h;simp only[iQ,ah,ai,Option.bind_some,mG,a,hk,ph,Gs,fA,eT]
  ·cases h
def aiw{cs:List af}:Gs G t (A cs) R H q=fA H cs λv h=>q (.new v (.row I (List.length cs) [cs])) v h:=rfl
def ZC:iQ P (.box t x) R n=(bn R x).bind (mG (lz P t) n):=rfl
def ZD:iQ P (.buildSlice t m dt) R n=(jg R dt.toList).bind (gu P n t m):=rfl
def ZE:iQ P (.makeSlice t x y) R n=(bn R x).bind λu=>(bn R y).bind λv=>g5 (h0 P ⟨.leaf,n⟩ t u v) n:=rfl
def ZM:hL P (.load t x) R=λH=>(bn R x).bind λu=>aJ P H t u:=rfl
def ZL{ok:Bool}:hL P (.lookup t x y ok) R=λH=>(bn R x).bind λu=>(bn R y).bind λv=>mC P H t u v ok:=rfl
def ZK:hL P (.call ⟨.builtin b,sJ,ts⟩) R=λH=>(fu R sJ.toList).bind λak=>bD P H b ts.toList ak:=rfl
def aa3(o:Op):Bool:=match o with| .load _ _=>I| .lookup _ _ _ _=>I| .convert _ _ _=>I| .call ⟨.builtin _,_,_⟩=>I|_=>J
def ZN(h:aa3 o=J):hL P o R=λ_=>none:=by
 funext H
 cases o<;>first|rfl|cases h|skip
 rename_i c;obtain⟨f,_,_⟩:=c;cases f<;>first|rfl|cases h
def ai_{cR:af->ae->O}{ok:Bool}{u v:TypeId}:eN P G (.typeAssert x u v ok) R H cR=aU ((bn R x).bind λz=>sD P v ok z) λv=>cR v H:=rfl
def aiU{cR:af->ae->O}{ok:Bool}:eN P G (.lookup t x y ok) R H cR=aU ((bn R x).bind λu=>(bn R y).bind λv=>mC P H t u v ok) λv=>cR v H:=rfl
variable {ms cT ids:List Nat}{T U:List fD}{v:af}{h:ae}{e:bA}{f:ae->Option af}{rd:ae->Bool}{s:Bool}{k:K}
def Xo:jv ms cT T H=(hJ ms T []&&jm ms cT T H T):=rfl
def V2(h:cI ms i j=J):cI ms i j=true:=h
def V1(h:cI ms i j=I):cI ms i j=false:=h
def XN(h:cT.contains i=J):cT.contains i=true:=h
def XM(h:cT.contains i=I):cT.contains i=false:=h
def Xx:hJ ms [] ids=true:=rfl
def Xy:hJ ms (⟨i,.pure v,f⟩::T) ids=hJ ms T ids:=rfl
def Xz:hJ ms (⟨i,.read v,f⟩::T) ids=hJ ms T ids:=rfl
def Xv:hJ ms (⟨i,.new v e,f⟩::T) ids=hJ ms T (i::ids):=rfl
def Xw:hJ ms (⟨i,.cV v h,f⟩::T) ids=(ids.all (λj=>cI ms j i)&&hJ ms T (i::ids)):=rfl
def ak7:jm ms cT U H []=true:=rfl
def ak8:jm ms cT U H (⟨i,.pure v,f⟩::T)=jm ms cT U H T:=rfl
def ak5:jm ms cT U H (⟨i,.new v e,f⟩::T)=jm ms cT U H T:=rfl
def ak6:jm ms cT U H (⟨i,.cV v h,f⟩::T)=jm ms cT U H T:=rfl
def ak9:jm ms cT U H (⟨i,.read v,f⟩::T)=((cT.contains i||r_ ms (λH=>bG (f H) v) i U H)&&jm ms cT U H T):=rfl
def ahy:r_ ms rd i T H=(bif jZ ms i T I then iJ ms rd i T H||jj ms rd i T H I else iJ ms rd i T H):=rfl
def Wf:jZ ms i [] s=false:=rfl
def Wg:jZ ms i (⟨j,.pure v,f⟩::T) s=jZ ms i T s:=rfl
def Wh:jZ ms i (⟨j,.read v,f⟩::T) s=jZ ms i T s:=rfl
def Wd:jZ ms i (⟨j,.new v e,f⟩::T) s=((s&&cI ms j i&&T.all λu=>kR u.k)||jZ ms i T (s|| !cI ms j i)):=rfl
def We:jZ ms i (⟨j,.cV v h,f⟩::T) s=jZ ms i T (s|| !cI ms j i):=rfl
def ade:kR (.pure v)=true:=rfl
def adf:kR (.read v)=true:=rfl
def ada:kR (.new v e)=true:=rfl
def adb:kR (.cV v h)=false:=rfl
def alb:iJ ms rd i [] H=rd H:=rfl
def alc:iJ ms rd i (⟨j,.pure v,f⟩::T) H=iJ ms rd i T H:=rfl
def ald:iJ ms rd i (⟨j,.read v,f⟩::T) H=iJ ms rd i T H:=rfl
def ak_:iJ ms rd i (⟨j,.new v e,f⟩::T) H=((cI ms j i||rd H)&&(cI ms i j||iJ ms rd i T (H.push e))):=rfl
def ala:iJ ms rd i (⟨j,.cV v h,f⟩::T) H=((cI ms j i||rd H)&&(cI ms i j||iJ ms rd i T h)):=rfl
def ac3:jj ms rd i [] H s=false:=rfl
def ac4:jj ms rd i (⟨j,.pure v,f⟩::T) H s=jj ms rd i T H s:=rfl
def ac5:jj ms rd i (⟨j,.read v,f⟩::T) H s=jj ms rd i T H s:=rfl
def ac1:jj ms rd i (⟨j,.new v e,f⟩::T) H s=(bif s&&cI ms j i&&T.all (λu=>kR u.k)then rd (H.push e).only||jj ms rd i T (H.push e) (s|| !cI ms j i)else jj ms rd i T (H.push e) (s|| !cI ms j i)):=rfl
def ac2:jj ms rd i (⟨j,.cV v h,f⟩::T) H s=jj ms rd i T h (s|| !cI ms j i):=rfl
def als{r:Option (af×bA)}{k:af->ae->O}:ph H r (λv _ h=>k v h)=fp H r k:=by
 unfold ph fp;cases r<;>rfl
def alw{r:Option ae}{k:ae->O}:sk H r (λ_ h=>k h)=gG H r k:=rfl
end
def drawn:Code->List (Array Oper)
 | .seq a b=>drawn a++drawn b
 | .cond _ a b=>drawn a++drawn b
 | .block _ b=>drawn b
 | .loop b=>drawn b
 | .region _ ops J=>[ops]
 |_=>[]
def jw:List (Array Oper)->List (List Nat×List Nat×List Nat)->Prop
 |o::os,q::qs=>(order o=q.1/\cQ o=q.2.1/\h_ o=q.2.2)/\jw os qs
 |_,_=>True
def kn:∀{L:List (Array Oper)},jw L (L.map λo=>(order o,cQ o,h_ o))
 |[]=>trivial
 |_::_=>⟨⟨rfl,rfl,rfl⟩,kn⟩
end
section
set_option maxRecDepth 100000
def Ws:=ag (ag (ag (ag (ag @aeh @aeg) (ag @Wp @Wn)) (ag (ag @Wq @Wo) (ag @aiu @ais))) (ag (ag (ag @air @aiv) (ag @aiq @ait)) (ag (ag @aip @aiw) (ag @ZC @ZD)))) (ag (ag (ag (ag @ZE @ZM) (ag @ZL @ZK)) (ag (ag @ZN @ai_) (ag @aiU @Kb))) (ag (ag (ag @Kc @Ka) (ag @J_ @J8)) (ag (ag @J9 @J7) (ag @J6 @List.getElem?_toArray.{0}))))
def kG:=ag (ag (ag (ag (ag @Xo (ag @V2 @V1)) (ag @XN (ag @XM @Xx))) (ag (ag @Xy (ag @Xz @Xv)) (ag @Xw (ag @ak7 @ak8)))) (ag (ag (ag @ak5 (ag @ak6 @ak9)) (ag @ahy (ag @Wf @Wg))) (ag (ag @Wh (ag @Wd @We)) (ag (ag @ade @adf) (ag @ada @adb))))) (ag (ag (ag (ag @alb (ag @alc @ald)) (ag @ak_ (ag @ala @ac3))) (ag (ag @ac4 (ag @ac5 @ac1)) (ag (ag @ac2 @als) (ag @alw @List.all_cons.{0})))) (ag (ag (ag @List.all_nil.{0} (ag @Bool.false_or @Bool.true_or)) (ag @Bool.or_true (ag @Bool.or_false @Bool.true_and))) (ag (ag @Bool.and_true (ag @Bool.false_and @Bool.and_false)) (ag (ag @Bool.not_true @Bool.not_false) (ag @hk @pC)))))
def k3{p:Prop}(h:p:=by intro a b q x;(try simp only[drawn,jw,List.append_nil,List.nil_append,List.cons_append,and_true]at q);intros;simp(maxSteps:=4000000) (disch:=try exact LW)only[LU,Lk,Ws,Nat.reduceEqDiff,reduceIte, *];rfl):p:=h
section
variable {f:Func}{G:ao}{N:Nat}{c d:Code}{b9 B:bU}{b4:List (Nat×bU)}{rs:List ResultVar}{L:List (List Nat×List Nat×List Nat)}{E:Prop}
def q4{g:T1}{i0:Nat}(h:∀R H,bX P G N c b9 b4 (a8 f) R H=B R H)(a:bL f=d:=by(conv=>lhs;whnf);try rfl)(au:f.results.toList=rs:=by(conv=>lhs;whnf);try rfl)(ar:(drawn (bL f)).map (λo=>(order o,cQ o,h_ o))=L:=by(conv=>lhs;cbv);try rfl)(x:E:=by exact kG)(e:bL f=d->f.results.toList=rs->jw (drawn d) L->E->∀b (R:br) H,R i0=b->B R H=g b H:=by exact k3):∀R H,bX P G N c b9 b4 (a8 f) R H=g (R i0) H:=λR H=>(h R H).trans (e a au (a▸ar▸kn) x _ R H rfl)
def hv{g:T2}{i0 i1:Nat}(h:∀R H,bX P G N c b9 b4 (a8 f) R H=B R H)(a:bL f=d:=by(conv=>lhs;whnf);try rfl)(au:f.results.toList=rs:=by(conv=>lhs;whnf);try rfl)(ar:(drawn (bL f)).map (λo=>(order o,cQ o,h_ o))=L:=by(conv=>lhs;cbv);try rfl)(x:E:=by exact kG)(e:bL f=d->f.results.toList=rs->jw (drawn d) L->E->∀b x1 (R:br) H,R i0=b->R i1=x1->B R H=g b x1 H:=by exact k3):∀R H,bX P G N c b9 b4 (a8 f) R H=g (R i0) (R i1) H:=λR H=>(h R H).trans (e a au (a▸ar▸kn) x _ _ R H rfl rfl)
def oE{g:b8}{i0 i1 i2:Nat}(h:∀R H,bX P G N c b9 b4 (a8 f) R H=B R H)(a:bL f=d:=by(conv=>lhs;whnf);try rfl)(au:f.results.toList=rs:=by(conv=>lhs;whnf);try rfl)(ar:(drawn (bL f)).map (λo=>(order o,cQ o,h_ o))=L:=by(conv=>lhs;cbv);try rfl)(x:E:=by exact kG)(e:bL f=d->f.results.toList=rs->jw (drawn d) L->E->∀b x1 x2 (R:br) H,R i0=b->R i1=x1->R i2=x2->B R H=g b x1 x2 H:=by exact k3):∀R H,bX P G N c b9 b4 (a8 f) R H=g (R i0) (R i1) (R i2) H:=λR H=>(h R H).trans (e a au (a▸ar▸kn) x _ _ _ R H rfl rfl rfl)
def l6{g:ck}{i0 i1 i2 i3:Nat}(h:∀R H,bX P G N c b9 b4 (a8 f) R H=B R H)(a:bL f=d:=by(conv=>lhs;whnf);try rfl)(au:f.results.toList=rs:=by(conv=>lhs;whnf);try rfl)(ar:(drawn (bL f)).map (λo=>(order o,cQ o,h_ o))=L:=by(conv=>lhs;cbv);try rfl)(x:E:=by exact kG)(e:bL f=d->f.results.toList=rs->jw (drawn d) L->E->∀b x1 x2 x3 (R:br) H,R i0=b->R i1=x1->R i2=x2->R i3=x3->B R H=g b x1 x2 x3 H:=by exact k3):∀R H,bX P G N c b9 b4 (a8 f) R H=g (R i0) (R i1) (R i2) (R i3) H:=λR H=>(h R H).trans (e a au (a▸ar▸kn) x _ _ _ _ R H rfl rfl rfl rfl)
def nF{g:cF}{i0 i1 i2 i3 i4:Nat}(h:∀R H,bX P G N c b9 b4 (a8 f) R H=B R H)(a:bL f=d:=by(conv=>lhs;whnf);try rfl)(au:f.results.toList=rs:=by(conv=>lhs;whnf);try rfl)(ar:(drawn (bL f)).map (λo=>(order o,cQ o,h_ o))=L:=by(conv=>lhs;cbv);try rfl)(x:E:=by exact kG)(e:bL f=d->f.results.toList=rs->jw (drawn d) L->E->∀b x1 x2 x3 x4 (R:br) H,R i0=b->R i1=x1->R i2=x2->R i3=x3->R i4=x4->B R H=g b x1 x2 x3 x4 H:=by exact k3):∀R H,bX P G N c b9 b4 (a8 f) R H=g (R i0) (R i1) (R i2) (R i3) (R i4) H:=λR H=>(h R H).trans (e a au (a▸ar▸kn) x _ _ _ _ _ R H rfl rfl rfl rfl rfl)
def pE{g:cH}{i0 i1 i2 i3 i4 i5:Nat}(h:∀R H,bX P G N c b9 b4 (a8 f) R H=B R H)(a:bL f=d:=by(conv=>lhs;whnf);try rfl)(au:f.results.toList=rs:=by(conv=>lhs;whnf);try rfl)(ar:(drawn (bL f)).map (λo=>(order o,cQ o,h_ o))=L:=by(conv=>lhs;cbv);try rfl)(x:E:=by exact kG)(e:bL f=d->f.results.toList=rs->jw (drawn d) L->E->∀b x1 x2 x3 x4 x5 (R:br) H,R i0=b->R i1=x1->R i2=x2->R i3=x3->R i4=x4->R i5=x5->B R H=g b x1 x2 x3 x4 x5 H:=by exact k3):∀R H,bX P G N c b9 b4 (a8 f) R H=g (R i0) (R i1) (R i2) (R i3) (R i4) (R i5) H:=λR H=>(h R H).trans (e a au (a▸ar▸kn) x _ _ _ _ _ _ R H rfl rfl rfl rfl rfl rfl)
def pF{g:ei}{i0 i1 i2 i3 i4 i5 i6:Nat}(h:∀R H,bX P G N c b9 b4 (a8 f) R H=B R H)(a:bL f=d:=by(conv=>lhs;whnf);try rfl)(au:f.results.toList=rs:=by(conv=>lhs;whnf);try rfl)(ar:(drawn (bL f)).map (λo=>(order o,cQ o,h_ o))=L:=by(conv=>lhs;cbv);try rfl)(x:E:=by exact kG)(e:bL f=d->f.results.toList=rs->jw (drawn d) L->E->∀b x1 x2 x3 x4 x5 x6 (R:br) H,R i0=b->R i1=x1->R i2=x2->R i3=x3->R i4=x4->R i5=x5->R i6=x6->B R H=g b x1 x2 x3 x4 x5 x6 H:=by exact k3):∀R H,bX P G N c b9 b4 (a8 f) R H=g (R i0) (R i1) (R i2) (R i3) (R i4) (R i5) (R i6) H:=λR H=>(h R H).trans (e a au (a▸ar▸kn) x _ _ _ _ _ _ _ R H rfl rfl rfl rfl rfl rfl rfl)
def Fg{g:hG}{i0 i1 i2 i3 i4 i5 i6 i7:Nat}(h:∀R H,bX P G N c b9 b4 (a8 f) R H=B R H)(a:bL f=d:=by(conv=>lhs;whnf);try rfl)(au:f.results.toList=rs:=by(conv=>lhs;whnf);try rfl)(ar:(drawn (bL f)).map (λo=>(order o,cQ o,h_ o))=L:=by(conv=>lhs;cbv);try rfl)(x:E:=by exact kG)(e:bL f=d->f.results.toList=rs->jw (drawn d) L->E->∀b x1 x2 x3 x4 x5 x6 x7 (R:br) H,R i0=b->R i1=x1->R i2=x2->R i3=x3->R i4=x4->R i5=x5->R i6=x6->R i7=x7->B R H=g b x1 x2 x3 x4 x5 x6 x7 H:=by exact k3):∀R H,bX P G N c b9 b4 (a8 f) R H=g (R i0) (R i1) (R i2) (R i3) (R i4) (R i5) (R i6) (R i7) H:=λR H=>(h R H).trans (e a au (a▸ar▸kn) x _ _ _ _ _ _ _ _ R H rfl rfl rfl rfl rfl rfl rfl rfl)
def Xu{g:jO}{i0 i1 i2 i3 i4 i5 i6 i7 i8:Nat}(h:∀R H,bX P G N c b9 b4 (a8 f) R H=B R H)(a:bL f=d:=by(conv=>lhs;whnf);try rfl)(au:f.results.toList=rs:=by(conv=>lhs;whnf);try rfl)(ar:(drawn (bL f)).map (λo=>(order o,cQ o,h_ o))=L:=by(conv=>lhs;cbv);try rfl)(x:E:=by exact kG)(e:bL f=d->f.results.toList=rs->jw (drawn d) L->E->∀b x1 x2 x3 x4 x5 x6 x7 x8 (R:br) H,R i0=b->R i1=x1->R i2=x2->R i3=x3->R i4=x4->R i5=x5->R i6=x6->R i7=x7->R i8=x8->B R H=g b x1 x2 x3 x4 x5 x6 x7 x8 H:=by exact k3):∀R H,bX P G N c b9 b4 (a8 f) R H=g (R i0) (R i1) (R i2) (R i3) (R i4) (R i5) (R i6) (R i7) (R i8) H:=λR H=>(h R H).trans (e a au (a▸ar▸kn) x _ _ _ _ _ _ _ _ _ R H rfl rfl rfl rfl rfl rfl rfl rfl rfl)
def Xt{g:jr}{i0 i1 i2 i3 i4 i5 i6 i7 i8 i9:Nat}(h:∀R H,bX P G N c b9 b4 (a8 f) R H=B R H)(a:bL f=d:=by(conv=>lhs;whnf);try rfl)(au:f.results.toList=rs:=by(conv=>lhs;whnf);try rfl)(ar:(drawn (bL f)).map (λo=>(order o,cQ o,h_ o))=L:=by(conv=>lhs;cbv);try rfl)(x:E:=by exact kG)(e:bL f=d->f.results.toList=rs->jw (drawn d) L->E->∀b x1 x2 x3 x4 x5 x6 x7 x8 x9 (R:br) H,R i0=b->R i1=x1->R i2=x2->R i3=x3->R i4=x4->R i5=x5->R i6=x6->R i7=x7->R i8=x8->R i9=x9->B R H=g b x1 x2 x3 x4 x5 x6 x7 x8 x9 H:=by exact k3):∀R H,bX P G N c b9 b4 (a8 f) R H=g (R i0) (R i1) (R i2) (R i3) (R i4) (R i5) (R i6) (R i7) (R i8) (R i9) H:=λR H=>(h R H).trans (e a au (a▸ar▸kn) x _ _ _ _ _ _ _ _ _ _ R H rfl rfl rfl rfl rfl rfl rfl rfl rfl rfl)
def q3{g:T1}(h:∀R H,eF f G N R H=B R H)(b:bL f=d:=by(conv=>lhs;whnf);try rfl)(au:f.results.toList=rs:=by(conv=>lhs;whnf);try rfl)(ar:(drawn (bL f)).map (λo=>(order o,cQ o,h_ o))=L:=by(conv=>lhs;cbv);try rfl)(x:E:=by exact kG)(e:bL f=d->f.results.toList=rs->jw (drawn d) L->E->∀a H,B (c4 [a]) H=g a H:=by exact k3):∀a H,eF f G N (c4 [a]) H=g a H:=λa H=>(h _ H).trans (e b au (b▸ar▸kn) x a H)
def pD{g:T2}(h:∀R H,eF f G N R H=B R H)(b:bL f=d:=by(conv=>lhs;whnf);try rfl)(au:f.results.toList=rs:=by(conv=>lhs;whnf);try rfl)(ar:(drawn (bL f)).map (λo=>(order o,cQ o,h_ o))=L:=by(conv=>lhs;cbv);try rfl)(x:E:=by exact kG)(e:bL f=d->f.results.toList=rs->jw (drawn d) L->E->∀a x1 H,B (c4 [a,x1]) H=g a x1 H:=by exact k3):∀a x1 H,eF f G N (c4 [a,x1]) H=g a x1 H:=λa x1 H=>(h _ H).trans (e b au (b▸ar▸kn) x a x1 H)
def vc{g:b8}(h:∀R H,eF f G N R H=B R H)(b:bL f=d:=by(conv=>lhs;whnf);try rfl)(au:f.results.toList=rs:=by(conv=>lhs;whnf);try rfl)(ar:(drawn (bL f)).map (λo=>(order o,cQ o,h_ o))=L:=by(conv=>lhs;cbv);try rfl)(x:E:=by exact kG)(e:bL f=d->f.results.toList=rs->jw (drawn d) L->E->∀a x1 x2 H,B (c4 [a,x1,x2]) H=g a x1 x2 H:=by exact k3):∀a x1 x2 H,eF f G N (c4 [a,x1,x2]) H=g a x1 x2 H:=λa x1 x2 H=>(h _ H).trans (e b au (b▸ar▸kn) x a x1 x2 H)
def Xs{g:ck}(h:∀R H,eF f G N R H=B R H)(b:bL f=d:=by(conv=>lhs;whnf);try rfl)(au:f.results.toList=rs:=by(conv=>lhs;whnf);try rfl)(ar:(drawn (bL f)).map (λo=>(order o,cQ o,h_ o))=L:=by(conv=>lhs;cbv);try rfl)(x:E:=by exact kG)(e:bL f=d->f.results.toList=rs->jw (drawn d) L->E->∀a x1 x2 x3 H,B (c4 [a,x1,x2,x3]) H=g a x1 x2 x3 H:=by exact k3):∀a x1 x2 x3 H,eF f G N (c4 [a,x1,x2,x3]) H=g a x1 x2 x3 H:=λa x1 x2 x3 H=>(h _ H).trans (e b au (b▸ar▸kn) x a x1 x2 x3 H)
end
end
section
set_option maxRecDepth 100000
set_option maxHeartbeats 4000000
noncomputable section
def xP(G:ao):hr Tryz.f43 G:=⟨λa H=>aU (bx P .eql 30 J a af.aq) λx4=>eB (A x4) (A (af.aq,H)) (fp H (A (.az (H).next 0 0 1 (A 0),.row I 1 [])) λx5 ah=>eg ah (ej P ah [30,30] x5 a) λx7 ai=>A (x7,ai)),λN=>Af an⟩
def agz(N:Nat):=eo Tryz.func43 λG=>(xP G).2 N
def I5(G:ao)(N:Nat):eP 6 Tryz.f79 G N (·.ad.ad.ad.ad.ad) (a8 Tryz.f79) []:=⟨_,v1 an⟩
def I3(G:ao)(N:Nat)(L2:ck):dO 6 25 26 27 Tryz.f79 G N (·.ad.ad.ad.ad.aj.ad.aj.aj) (bO L2 6 25 26 27) [(2,(a6 (I5 G N) 6))]:=⟨_,v4 an⟩
def I6(G:ao)(N:Nat):Nat->ck
 |0=>fB
 |n+1=>I3 G N (I6 G N n)
def yi(G:ao)(N:Nat):gT 0 3 Tryz.f79 G N (·.ad.ad.ad) (a8 Tryz.f79) []:=⟨_,v2 (ak (ak ((I5 G N).2) (ak (bh (bH (λm=>(I3 G N (I6 G N m)).2))) an)) an)⟩
def Dg(G:ao)(N:Nat)(L3:cF):e6 0 3 9 10 11 Tryz.f79 G N (·.ad.ad.aj.ad.aj.aj.ad.ad.ad) (b3 L3 0 3 9 10 11) [(0,(bd (yi G N) 0 3))]:=⟨_,v5 an⟩
def I4(G:ao)(N:Nat)(L3:cF):e6 0 3 9 10 11 Tryz.f79 G N (·.ad.ad.aj.ad.aj.aj) (b3 L3 0 3 9 10 11) [(0,(bd (yi G N) 0 3))]:=⟨λa x3 x9 x10 x11 H=>aU (bx P .lss 3 I x11 x10) λx12=>eB (A x12) (aU (ct P 198 x9 x11) λc=>aU (aJ P H 53 c) λd=>eU P .len [53] [d] H λx17=>aU (bx P .add 3 I x3 x17) λb=>aU (bx P .lss 3 J b (.int .i64 0)) λe=>eB (A e) (aU (ox P 9 (.str [108,101,110,32,111,117,116,32,111,102,32,114,97,110,103,101])) λf=>aU ((Z:Option af)) λy=>Dg G N L3 a b x9 x10 x11 H) (Dg G N L3 a b x9 x10 x11 H)) (yi G N a x3 H),cR (ak (ak (ak ((Dg G N L3).2) an) an) an)⟩
def I7(G:ao)(N:Nat):Nat->cF
 |0=>hW
 |n+1=>I4 G N (I7 G N n)
def I2(G:ao)(N:Nat):f_ Tryz.f79 G N:=⟨_,t1 (ak (ak (ak ((yi G N).2) (ak (bh (bH (λm=>(I4 G N (I7 G N m)).2))) an)) an) an)⟩
def agT(N:Nat):=eo Tryz.func79 λG=>(I2 G N).2
def Dj(G:ao)(N:Nat):hX Tryz.f81 G N (·.ad.ad.ad) (a8 Tryz.f81) []:=⟨_,v0 an⟩
def Di(G:ao)(N:Nat)(L1:ck):dO 0 1 12 13 Tryz.f81 G N (·.ad.ad.aj.ad.aj.aj) (bO L1 0 1 12 13) [(0,(bu (Dj G N)))]:=⟨_,v4 an⟩
def yk(G:ao)(N:Nat):Nat->ck
 |0=>fB
 |n+1=>Di G N (yk G N n)
def uu(G:ao)(N:Nat):gn Tryz.f81 G N:=⟨_,t2 (ak (ak (ak ((Dj G N).2) (ak (bh (bH (λm=>(Di G N (yk G N m)).2))) an)) an) an)⟩
def agV(N:Nat):=c6 Tryz.func81 λG=>(uu G N).2
def Ji(G:ao):eQ Tryz.f94 G:=⟨_,λN=>t2 an⟩
def ag9(N:Nat):=c6 Tryz.func94 λG=>(Ji G).2 N
def Jk(G:ao):eQ Tryz.f99 G:=⟨_,λN=>t2 an⟩
def aha(N:Nat):=c6 Tryz.func99 λG=>(Jk G).2 N
def Hm(G:ao):iy 0 Tryz.f133 G (·.ad.ad.ad) (a8 Tryz.f133) []:=⟨_,λN=>v1 an⟩
def Hl(G:ao):sy 0 1 Tryz.f133 G (·.ad.ad) (a8 Tryz.f133) []:=⟨_,λN=>v2 (ak ((Hm G).2 N) an)⟩
def Bx(G:ao):eQ Tryz.f133 G:=⟨_,λN=>t2 (ak (ak ((Hl G).2 N) an) an)⟩
def ae9(N:Nat):=c6 Tryz.func133 λG=>(Bx G).2 N
def Bz(G:ao)(N:Nat):hX Tryz.f134 G N (·.ad.ad) (a8 Tryz.f134) []:=⟨_,v0 an⟩
def By(G:ao)(N:Nat)(L1:ck):dO 0 1 7 8 Tryz.f134 G N (·.ad.aj.ad.aj.aj) (bO L1 0 1 7 8) [(0,(bu (Bz G N)))]:=⟨_,v4 an⟩
def wD(G:ao)(N:Nat):Nat->ck
 |0=>fB
 |n+1=>By G N (wD G N n)
def wC(G:ao)(N:Nat):gn Tryz.f134 G N:=⟨_,t2 (ak (ak ((Bz G N).2) (ak (bh (bH (λm=>(By G N (wD G N m)).2))) an)) an)⟩
def ae_(N:Nat):=c6 Tryz.func134 λG=>(wC G N).2
def Ht(G:ao)(N:Nat):hX Tryz.f146 G N (·.ad.ad) (a8 Tryz.f146) []:=⟨_,v0 an⟩
def BM(G:ao)(N:Nat)(L1:ck):dO 0 1 7 8 Tryz.f146 G N (·.ad.aj.ad.aj.aj) (bO L1 0 1 7 8) [(0,(bu (Ht G N)))]:=⟨_,v4 an⟩
def wP(G:ao)(N:Nat):Nat->ck
 |0=>fB
 |n+1=>BM G N (wP G N n)
def Hs(G:ao)(N:Nat):gn Tryz.f146 G N:=⟨_,t2 (ak (ak ((Ht G N).2) (ak (bh (bH (λm=>(BM G N (wP G N m)).2))) an)) an)⟩
def afi(N:Nat):=c6 Tryz.func146 λG=>(Hs G N).2
def HF(G:ao):eQ Tryz.f177 G:=⟨_,λN=>t2 an⟩
def afw(N:Nat):=c6 Tryz.func177 λG=>(HF G).2 N
def H6(G:ao)(N:Nat):hX Tryz.f219 G N (·.ad.ad) (a8 Tryz.f219) []:=⟨_,v0 an⟩
def Cf(G:ao)(N:Nat)(L1:ck):dO 0 1 7 8 Tryz.f219 G N (·.ad.aj.ad.aj.aj) (bO L1 0 1 7 8) [(0,(bu (H6 G N)))]:=⟨_,v4 an⟩
def xe(G:ao)(N:Nat):Nat->ck
 |0=>fB
 |n+1=>Cf G N (xe G N n)
def H5(G:ao)(N:Nat):gn Tryz.f219 G N:=⟨_,t2 (ak (ak ((H6 G N).2) (ak (bh (bH (λm=>(Cf G N (xe G N m)).2))) an)) an)⟩
def afS(N:Nat):=c6 Tryz.func219 λG=>(H5 G N).2
def Is(G:ao):eQ Tryz.f252 G:=⟨_,λN=>t2 an⟩
def age(N:Nat):=c6 Tryz.func252 λG=>(Is G).2 N
def Iw(G:ao)(N:Nat):hX Tryz.f261 G N (·.ad.ad) (a8 Tryz.f261) []:=⟨_,v0 an⟩
def Cq(G:ao)(N:Nat)(L1:ck):dO 0 1 7 8 Tryz.f261 G N (·.ad.aj.ad.aj.aj) (bO L1 0 1 7 8) [(0,(bu (Iw G N)))]:=⟨_,v4 an⟩
def xu(G:ao)(N:Nat):Nat->ck
 |0=>fB
 |n+1=>Cq G N (xu G N n)
def Iv(G:ao)(N:Nat):gn Tryz.f261 G N:=⟨_,t2 (ak (ak ((Iw G N).2) (ak (bh (bH (λm=>(Cq G N (xu G N m)).2))) an)) an)⟩
def agk(N:Nat):=c6 Tryz.func261 λG=>(Iv G N).2
def IK(G:ao):hr Tryz.f41 G:=⟨_,λN=>t1 an⟩
def agx(N:Nat):=eo Tryz.func41 λG=>(IK G).2 N
def IL(G:ao):hr Tryz.f42 G:=⟨_,λN=>t1 an⟩
def agy(N:Nat):=eo Tryz.func42 λG=>(IL G).2 N
def SC(G:ao)(N:Nat)(L0:ck):dO 0 5 6 7 Tryz.f97 G N (·.ad.aj.aj) (bO L0 0 5 6 7) [(0,(a8 Tryz.f97))]:=⟨_,v4 an⟩
def SD(G:ao)(N:Nat):Nat->ck
 |0=>fB
 |n+1=>SC G N (SD G N n)
def ahq(G:ao)(N:Nat):gn Tryz.f97 G N:=⟨_,t2 (ak (bh (bH (λm=>(SC G N (SD G N m)).2))) an)⟩
end
end
section
set_option maxRecDepth 2000
def aN:e0 Int:=⟨1,λ_ _ n cs=>cs=[.int .i64 n],by rintro _ _ _ _ rfl;exact⟨rfl,rfl⟩,λ_ h=>h⟩
def En:e0 Bool:=⟨1,λ_ _ b cs=>cs=[.bool b],by rintro _ _ _ _ rfl;exact⟨rfl,rfl⟩,λ_ h=>h⟩
def bp{α:Type}(K:e0 α):e0 (List α):=⟨1,λH ok l cs=>∃v,cs=[v]/\aI K H ok l v,by
 rintro _ _ _ _ ⟨v,rfl,h⟩;exact⟨rfl,by simp[h.one]⟩,by
 rintro _ _ _ _ _ _ p ⟨v,rfl,h⟩;exact⟨v,rfl,h.keep p⟩⟩
theorem bV:fj 30 3 1:=⟨aG,aG,⟨8,aG,b0⟩,⟨.int .i64 0,aG,rfl,rfl⟩,b0⟩
theorem dJ:fj 31 30 1:=⟨aG,aG,⟨24,aG,b0⟩,⟨.aq,aG,rfl,rfl⟩,b0⟩
theorem pW:fj 104 4 1:=⟨aG,aG,⟨1,aG,b0⟩,⟨.bool I,aG,rfl,rfl⟩,b0⟩
section
variable {H:ae}{ok:Nat->Prop}
def aI.int{l:List Int}{v:af}(h:aI aN H ok l v){j:Int}{a:Int}(b:0<=j)(c:l[j.toNat]? =A a):∃p,ct P 30 v (.int .i64 j)=A p/\aJ P H 3 p=A (.int .i64 a):=by
 obtain⟨p,cs,ah,ai,ay⟩:=aI.val (K:=aN) bV qG h b c;exact⟨p,ah,by rw[ai,show cs=[_]from ay];rfl⟩
def aI.bool{l:List Bool}{v:af}(h:aI En H ok l v){j:Int}{a:Bool}(b:0<=j)(c:l[j.toNat]? =A a):∃p,ct P 104 v (.int .i64 j)=A p/\aJ P H 4 p=A (.bool a):=by
 obtain⟨p,cs,ah,ai,ay⟩:=aI.val (K:=En) pW D7 h b c;exact⟨p,ah,by rw[ai,show cs=[_]from ay];rfl⟩
theorem aI.list{l:List (List Int)}{v:af}(h:aI (bp aN) H ok l v){j:Int}{a:List Int}(b:0<=j)(c:l[j.toNat]? =A a):∃p w,ct P 31 v (.int .i64 j)=A p/\aJ P H 30 p=A w/\aI aN H ok a w:=by
 obtain⟨p,cs,ah,ai,w,rfl,ay⟩:=aI.val (K:=bp aN) dJ sg h b c;grind
theorem e8{k:Nat}(h:k<=1000000000):IntKind.i64.wrap ((k:Int)+1)=((k+1:Nat):Int):=by grind[wrap_i64]
def pN(l:List Int)(a:Int):Int:=if a∈l then(l.idxOf a:Int)else-1
theorem Nu{l:List Int}{v:af}{a:Int}(h:aI aN H ok l v)(b:l.length<=1000000000){N:Nat}:∀(j k m:Nat),k+j=l.length->j<m->a∉l.take k->W (wD (aK P aD) N m v (.int .i64 a) (.int .i64 l.length) (.int .i64 k) H) λr H'=>r= .int .i64 (pN l a)/\H'=H
 |_,_,0,_,hm,_=>aa
 |0,k,m+1,c,_,aL=>by
  have g:¬(k:Int)<(l.length:Int):=aa;refine cu @Bz.eq_1 @By.eq_1 @wD.eq_2 @wC.eq_1 ?_;grind[aE,pN]
 |j+1,k,m+1,c,hm,aL=>by
  have i:k<l.length:=aa;obtain⟨p,e,f⟩:=h.int (j:=(k:Int)) (a:=l[k]) aa al;refine bb @Bz.eq_1 @By.eq_1 @wD.eq_2 @wC.eq_1 e f ?_;by_cases he:a=l[k]
  ·rw[show(a==l[k])=J by grind];refine bM ?_;refine aE.2 ⟨?_,rfl⟩;have d:a∈l:=al;rw[pN,if_pos d];have:l.idxOf a=k:=by
    grind[List.take_append_drop,List.drop_eq_getElem_cons]
   grind
  ·rw[show(a==l[k])=I by grind];refine bM ?_;refine Nu h b j (k+1) m aa aa ?_;grind[List.take_succ_eq_append_getElem]
def Nv{l:List Int}{v:af}{a:Int}(h:aI aN H ok l v)(b:l.length<=1000000000):W (aK P aD 134 [v,.int .i64 a] H) λr H'=>r= .int .i64 (pN l a)/\H'=H:=by
 refine ae_ (l.length+1) ?_;simp-implicitDefEqProofs(disch:=try exact aY)only[wC,eU,h.len bV];exact Nu h b l.length 0 (l.length+1) aa aa aW
theorem aa7{l:List Int}{a:Int}:decide (0<=pN l a)=decide (a∈l):=by
 grind[pN]
theorem Fc{l:List Int}{v:af}{a:Int}(h:aI aN H ok l v)(b:l.length<=1000000000):W (aK P aD 94 [v,.int .i64 a] H) λr H'=>r= .bool (decide (a∈l))/\H'=H:=by
 refine ag9 0 ?_;simp-implicitDefEqProofs(disch:=try exact aY)only[Ji];refine dK (Nv h b) ?_;refine bK @aa7 ?_;grind[aE]
def XD:bx P .eql 30 J .aq .aq=A (.bool J):=aG
theorem Mq(l i n e:Nat)(c:Option Nat):bx P .eql 30 J (.az l i n e c) .aq=A (.bool I):=aG
def Uu{H:ae}{ok ok':Nat->Prop}(a:Int)(cs:List af)(h:aN.V H ok a cs):aN.V H ok' a cs:=h
def aZ.ints{B:Nat}{H1:ae}{l m:List Int}{v w:af}(h:aZ aN B ba H1 l v)(b:B<=H1.next)(hm:aI aN H1 ok m w)(ar:l.length+m.length<=1000000000):
  ∃a H',ej P H1 [30,30] v w=A (a,H')/\aZ aN B ba H' (l++m) a/\cg B H1 H'/\(∀k,k<H1.next->(∀L n c,v= .az L 0 n 1 c->k≠L)->H'.get k=H1.get k)/\(a=v\/∃n,a= .az H1.next 0 n 1 Z):=
 h.app bV b ((hm.zS bV).plain (okE':=λ_=>False) Uu) (λ_ _ h=>h.elim) (λ_ _ _ _=>trivial) trivial ar
def c3(l:Nat)(n:Int):gu P l 30 1 [(0,.int .i64 n)]=A (.az l 0 1 1 (A 1),.row I 1 [[.int .i64 n]]):=ng bV l rfl rfl rfl
def aZ.j4{B:Nat}{H1:ae}{l:List Int}{v:af}{a:Int}(h:aZ aN B ba H1 l v)(d:B<=H1.next)(ar:l.length<=999999999):
  ∃b H',ej P (H1.push (.row I 1 [[.int .i64 a]])) [30,30] v (.az H1.next 0 1 1 (A 1))=A (b,H')/\aZ aN B ba H' (l++[a]) b/\cg B H1 H'/\H1.next<H'.next/\(∀k,k<H1.next->(∀L n c,v= .az L 0 n 1 c->k≠L)->H'.get k=H1.get k):=
 h.sI bV d (aw.refl _) (a:=a) (cs:=[.int .i64 a]) rfl (λ_ _=>trivial) ar
theorem LC{l:List Int}{v:af}(h:aI aN H ok l v)(o:l.length<=1000000000):W (aK P aD 43 [v] H) λr H'=>aZ aN H.next ba H' l r/\aw H H'/\kC aN r:=by
 refine agz 0 ?_;have body:bx P .eql 30 J v .aq=A (.bool I)->W (xP (aK P aD) v H) λr H'=>aZ aN H.next ba H' l r/\aw H H'/\kC aN r:=by
  intro he;have d:=aw.push H (.row I 1 []);have g:aZ aN H.next ba (H.push (.row I 1 [])) [] (.az H.next 0 0 1 (A 0)):=⟨.inr ⟨H.next,[],A 0,rfl,trivial,ae.a1 _ _,aa,.inr rfl,λi a aP=>al⟩,al⟩
  obtain⟨p,H',e,f,b,k,m⟩:=g.ints aW (h.aC d) al;have hle:=b.1;refine bT @xP.eq_1 he e ?_;refine aE.2 ⟨f,cg.aC ((ek d aa).trans b),λL n c j=> ?_⟩;grind
 rcases h with⟨rfl,rfl⟩|⟨L,i,cap,ro,els,rfl,_⟩|⟨L,i,cap,rfl,rfl⟩
 ·refine bF @xP.eq_1 @XD ?_;exact aE.2 ⟨aZ.nil _ _ _ _,aw.refl _,λL n c j=>al⟩
 ·grind[Mq]
 grind[Mq]
theorem Mr{l r:List Int}{v w:af}{ok':Nat->Prop}(h:aI aN H ok l v)(ai:aI aN H ok' r w)(ar:l.length=r.length)(b:l.length<=1000000000){N:Nat}:∀(j k m:Nat),k+j=l.length->j<m->l.take k=r.take k->W (yk (aK P aD) N m v w (.int .i64 l.length) (.int .i64 k) H) λq H'=>q= .bool (decide (l=r))/\H'=H
 |_,_,0,_,hm,_=>aa
 |0,k,m+1,c,_,aL=>by
  have i:¬(k:Int)<(l.length:Int):=aa;refine cu @Dj.eq_1 @Di.eq_1 @yk.eq_2 @uu.eq_1 ?_;grind[aE]
 |j+1,k,m+1,c,hm,aL=>by
  have n:k<l.length:=aa;have o:k<r.length:=aa;obtain⟨p,d,e⟩:=h.int (j:=(k:Int)) (a:=l[k]) aa al;obtain⟨s,f,g⟩:=ai.int (j:=(k:Int)) (a:=r[k]) aa al;refine bb @Dj.eq_1 @Di.eq_1 @yk.eq_2 @uu.eq_1 d (ag e (ag f g)) ?_;by_cases he:l[k]=r[k]
  ·rw[show(l[k] != r[k])=I by grind];refine bM ?_;refine Mr h ai ar b j (k+1) m aa aa ?_;grind[List.take_succ_eq_append_getElem]
  ·rw[show(l[k] != r[k])=J by grind];refine bM ?_;refine aE.2 ⟨?_,rfl⟩;rw[decide_eq_false];grind
theorem XE{l r:List Int}{v w:af}{ok':Nat->Prop}(h:aI aN H ok l v)(ai:aI aN H ok' r w)(a:l.length<=1000000000):W (aK P aD 81 [v,w] H) λq H'=>q= .bool (decide (l=r))/\H'=H:=by
 refine agV (l.length+1) ?_;by_cases ar:l.length=r.length
 ·have e:(((l.length:Nat):Int) != ((r.length:Nat):Int))=false:=al;refine dd @uu.eq_1 @eU.eq_1 (h.bf bV) (ai.bf bV) e ?_;exact Mr h ai ar a l.length 0 (l.length+1) aa aa aW
 ·have e:(((l.length:Nat):Int) != ((r.length:Nat):Int))=true:=bne_iff_ne.2 aa;refine dd @uu.eq_1 @eU.eq_1 (h.bf bV) (ai.bf bV) e ?_;refine aE.2 ⟨?_,rfl⟩;rw[decide_eq_false];grind
end
end
end Go.Proofs.YtmhhnnklfcbgfaaGreat
namespace Go.a2
open Go.cv
structure cS where
  b:Int
  r:Int
  d:Int
 deriving DecidableEq
structure In where
 op:Int
 a:Int
 b:Int
 c:Int
 n:Int
 args:List Int
structure bQ where
 params:Int
 vars:List cS
 has:Bool
 res:cS
 ins:List In
structure su where
 f:Int
 ty:cS
structure bq where
 ca:List (List cS)
 globals:List cS
 ax:List bQ
 sites:List su
 main:Int
def eR{α:Type}(l:List α)(i:Int):Option α:=if 0<=i then l[i.toNat]? else Z
def bw:cS:=⟨0,0,0⟩
def di:cS:=⟨1,0,0⟩
def eG:cS:=⟨2,0,0⟩
def kZ(t:cS):Bool:=t.b==3||decide (0<t.d)
def less(t:cS):cS:=⟨t.b,t.r,t.d-1⟩
def a7(c:bQ)(v:Int):cS:=(eR c.vars v).getD bw
def eK(a:Nat)(t:cS):Bool:=decide (0<=t.d/\t.d<=3)&&(bif t.b==1||t.b==2 then t.r==0 else bif t.b==3 then decide (0<=t.r/\t.r<a)else I)
def m5(x:bq)(t:cS):Option (List cS):=if t.b=3/\t.d=0 then eR x.ca t.r else Z
def fh(x:bq)(t:cS)(k:Int):cS:=((m5 x t).bind λfs=>eR fs k).getD bw
def je(x:bq)(f:Nat)(s:Int)(t:cS):Bool:=match eR x.sites s with
 |some z=>z.f==(f:Int)&&decide (z.ty=t)
 |none=>I
def named(i:In):Bool:=
 let z (b c n g:Bool):Bool:=(b||i.b==0)&&((c||i.c==0)&&((n||i.n==0)&&(g||i.args.length==0)))
 match i.op with
 |1=>z I I J I
 |11=>z I I J I
 |19=>z I I J I
 |20=>z I I J I
 |3=>z J I I I
 |10=>z J I I I
 |4=>z J J J I
 |5=>z J I J I
 |12=>z J I J I
 |6=>z J J I I
 |7=>z J J I I
 |8=>z J J I I
 |9=>z J J I I
 |13=>z I J I J
 |17=>z I J J I
 |16=>i.a==0&&(i.b==0&&(i.c==0&&i.args.length==0))
 |_=>z I I I I
def hs(n:Int)(a b d:cS):Bool:=
 if 14<=n/\n<=18 then decide (a=di/\b=di/\d=di)
 else if n=19\/n=20 then decide (a=eG/\b=di/\d=di)
 else if n=21\/n=22 then decide (a=eG/\b≠bw/\b=d)
 else if n=23\/n=24 then decide (a=eG/\b=eG/\d=eG)
 else I
def lg(c g:bQ):List Int->Nat->Bool
 |[],_=>J
 |v::ak,k=>decide (a7 c v≠bw)&&(decide (g.vars[k]? =A (a7 c v))&&lg c g ak (k+1))
def mI(x:bq)(c:bQ)(i:In):Bool:=match eR x.ax i.c with
 |none=>I
 |some g=>decide (0<=g.params/\g.params<=g.vars.length/\(i.args.length:Int)=g.params)&&(lg c g i.args 0&&
  (i.a== -1||(g.has&&decide (a7 c i.a≠bw/\a7 c i.a=g.res))))
def within(n:Int)(m:Nat):Bool:=decide (0<=n/\n<m)
def dM(x:bq)(f:Nat)(c:bQ)(i:In):Bool:=
 let a:=a7 c i.a
 let b:=a7 c i.b
 let d:=a7 c i.c
 named i&&match i.op with
 |1=>decide (a=di)||(decide (a=eG)&&(i.n==0||i.n==1))
 |2=>decide (a≠bw)&&kZ a
 |3=>decide (a≠bw/\a=b)
 |4=>hs i.n a b d
 |5=>(i.n==12&&decide (a=di/\b=di))||(i.n==13&&decide (a=eG/\b=eG))
 |6=>decide (a≠bw/\a=fh x b i.c)
 |7=>decide (b≠bw/\b=fh x a i.c)
 |8=>decide (a≠bw/\0<b.d/\d=di/\a=less b)
 |9=>decide (d≠bw/\0<a.d/\b=di/\d=less a)
 |10=>decide (a=di/\0<b.d)
 |11=>decide (a≠bw/\a.b=3/\a.d=0)&&je x f i.n a
 |12=>decide (0<a.d/\b=di)&&je x f i.n a
 |13=>mI x c i
 |14=>decide (a=di)
 |15=>decide (a=di)
 |16=>within i.n c.ins.length
 |17=>decide (a=eG)&&(within i.n c.ins.length&&within i.c c.ins.length)
 |18=>bif c.has then decide (a≠bw/\a=c.res)else i.a== -1
 |19=>decide (a≠bw)&&decide (eR x.globals i.n=A a)
 |20=>decide (a≠bw)&&decide (eR x.globals i.n=A a)
 |_=>I
def kN(op:Int):Bool:=op==16||op==17||op==18
def lr(l:List In):Int:=match l.getLast? with
 |some i=>i.op
 |none=>0
def codeOk(x:bq)(f:Nat)(c:bQ):Bool:=decide (0<=c.params/\c.params<=6/\c.params<=c.vars.length/\c.vars.length<=4000/\1<=c.ins.length)&&(c.vars.all (eK x.ca.length)&& ((bif c.has then eK x.ca.length c.res else decide (c.res=bw))&&(c.ins.all (dM x f c)&&kN (lr c.ins))))
def kI(x:bq):List bQ->Nat->Bool
 |[],_=>J
 |c::cs,f=>codeOk x f c&&kI x cs (f+1)
def hz:List bQ->Nat
 |[]=>0
 |c::cs=>c.ins.length+hz cs
def jJ(x:bq)(s:su):Bool:=decide (0<=s.f/\s.f<x.ax.length)&&(eK x.ca.length s.ty&&kZ s.ty)
def jA(x:bq):Bool:=match eR x.ax x.main with
 |some c=>c.params==0&& !c.has
 |none=>I
def right(x:bq):Bool:=decide (x.ca.length<=12/\x.globals.length<=8/\1<=x.ax.length/\x.ax.length<=16/\x.sites.length<=60)&&(jA x&&(x.globals.all (eK x.ca.length)&& (x.ca.all (λl=>decide (l.length<=8)&&l.all (eK x.ca.length))&&(x.sites.all (jJ x)&&(decide (hz x.ax<=2500)&&kI x x.ax 0)))))
