/-
  Texts of one proof, laid together: Hp Hq Cp Cd CpD ShA Mb SgA.
-/
import Derived.Test.YtmhhnnklfcbgfaaGreatME
set_option linter.unusedVariables false
set_option linter.unusedSimpArgs false
set_option linter.defProp false
open Option renaming some→A,none→Z
open Bool renaming true→J,false→I
namespace Go.cw
section
variable {P:Program}{call:aq}{ops:Array Oper}
def uQ(o:Op):K->Prop
 | .cR _ _=>cls o= .write\/cls o= .call
 | .new _ _=>cls o= .new
 | .read _=>cls o= .read\/cls o= .both
 |_=>True
def Ly{o:Op}{R:bo}{H:ae}{g a:K->O}(h:∀x,uQ o x->g x=a x):dA P call o R H g=dA P call o R H a:=by
 unfold dA;split
 ·cases hx P o R with
  |none=>rfl
  |some v=>exact h (.pure v) trivial
 ·rename_i aA;cases hy P o R H with
  |none=>rfl
  |some v=>exact h (.read v) (.inl aA)
 ·rename_i aA;unfold iM;cases hx P o R with
  |some v=>exact h (.pure v) trivial
  |none=>
   cases hy P o R H with
   |none=>rfl
   |some v=>exact h (.read v) (.inr aA)
 ·rename_i aA;unfold jA;cases iz P o R H.next with
  |none=>rfl
  |some p=>exact h (.new p.1 p.2) aA
 ·rename_i aA;unfold eb;cases k2 P o R H with
  |none=>rfl
  |some p=>exact congrArg (λz=>bif decide (H.next<=p.2.next)then z else Z) (h (.cR p.1 p.2) (.inl aA))
 ·rename_i aA;cases o<;>try rfl
  rename_i c;simp only
  cases qG P H R c with
  |none=>rfl
  |some p=>
   simp only[Option.bind_some];unfold eb;cases call p.1 p.2 H with
   |none=>rfl
   |some q=>exact congrArg (λz=>bif decide (H.next<=q.2.next)then z else Z) (h (.cR q.1 q.2) (.inr aA))
def Yl{o:Oper}{R:bo}{H:ae}{g a:K->O}(h:∀x,uQ o.op x->g x=a x):mj P call ops o R H g=mj P call ops o R H a:=by
 unfold mj;split
 ·exact Ly h
 ·split
  ·split
   ·rename_i d _;unfold ca;split
    ·rw[Ly h,h .skip trivial]
    ·exact h .skip trivial
   ·exact h .skip trivial
  ·exact h .skip trivial
def yy:List Oper->Nat->List fr->Prop
 |[],_,T=>T=[]
 |o::os,i,T=>∃t a,T=t::a/\t.i=i/\uQ o.op t.k/\yy os (i+1) a
def qD(ms:List Nat):List Oper->Nat->List Nat->Bool
 |[],_,_=>J
 |o::os,i,ids=>match cls o.op with
  | .new=>qD ms os (i+1) (i::ids)
  | .write=>ids.all (λj=>cz ms j i)&&qD ms os (i+1) (i::ids)
  | .call=>ids.all (λj=>cz ms j i)&&qD ms os (i+1) (i::ids)
  |_=>qD ms os (i+1) ids
def Ad(cN:List Nat):List Oper->Nat->Bool
 |[],_=>J
 |o::os,i=>(match cls o.op with
  | .read=>cN.contains i
  | .both=>cN.contains i
  |_=>J)&&Ad cN os (i+1)
theorem qC{ms:List Nat}:∀{T:List fr} {ids a:List Nat},(∀j∈ids,j∈a)->hv ms T a=J->hv ms T ids=J
 |[],_,_,_,_=>rfl
 |t::T,ids,a,aP,h=>by
  have aA:∀j,j∈t.i::ids->j∈t.i::a:=al;rw[hv]at h ⊢;cases c:t.k<;>rw[c]at h<;>simp only at h ⊢
  ·exact qC aP h
  ·exact qC aP h
  ·exact qC aP h
  ·exact qC aA h
  ·simp only[Bool.and_eq_true,List.all_eq_true]at h ⊢;exact⟨λj b=>h.1 j (aP j b),qC aA h.2⟩
theorem uC{ms:List Nat}:∀{os:List Oper} {i:Nat} {T:List fr} {ids:List Nat},yy os i T->qD ms os i ids=J->hv ms T ids=J
 |[],_,T,_,h,_=>by cases h;rfl
 |o::os,i,T,ids,h,he=>by
  obtain⟨t,c,rfl,rfl,a,cu⟩:=h;have sub:∀j∈ids,j∈t.i::ids:=al;rw[qD]at he;rw[hv];cases aA:cls o.op<;>rw[aA]at he<;>simp only[Bool.and_eq_true]at he<;>cases b:t.k<;>rw[b]at a<;>simp only[uQ,aA]at a<;>simp only[Bool.and_eq_true]<;>first
   |exact uC cu he
   |exact qC sub (uC cu he)
   |exact qC sub (uC cu he.2)
   |exact⟨he.1,uC cu he.2⟩
   |(cases a;done)
   |(rcases a with a|a<;>cases a;done)
theorem Pt{ms cN:List Nat}{ko:List fr}{H:ae}:∀{os:List Oper} {i:Nat} {T:List fr},yy os i T->Ad cN os i=J->jb ms cN ko H T=J
 |[],_,T,h,_=>by cases h;rfl
 |o::os,i,T,h,he=>by
  obtain⟨t,a,rfl,rfl,b,cu⟩:=h;rw[Ad,Bool.and_eq_true]at he;rw[jb,Bool.and_eq_true];refine⟨?_,Pt cu he.2⟩;grind[uQ]
theorem Kg{ky:List fr->bo->ae->O}{k:bo->ae->O}:∀(os:List Oper) (i:Nat) (R:bo) (H:ae),ops.toList.drop i=os->(∀T bl H',yy os i T->ky T bl H'=k bl H')->
   jM P call ops (List.range' i os.length) R H ky=ke P call ops os R H k
  |[],_,R,H,_,h=>by
   rw[List.length_nil,List.range'_zero,jM,ke];exact h [] R H rfl
  |o::os,i,R,H,aZ,h=>by
   have aP:ops[i]? =A o:=by
    rw[<-Array.getElem?_toList,<-List.Y1 i ops.toList,aZ];rfl
   rw[List.length_cons,List.range'_succ,jM,aP,ke];refine Yl λx aE=> ?_
   refine Kg os (i+1) _ _ ?_ λT bl H' dO=> ?_
   ·rw[<-List.drop_drop,aZ];rfl
   ·exact h _ _ _ ⟨_,_,rfl,rfl,aE,dO⟩
 where List.Y1 (i:Nat) (l:List Oper):(l.drop i)[0]? =l[i]? :=al
def zU(ops:Array Oper):Bool:=decide (order ops=List.range ops.size)&&((qa ops (order ops)).isNone&&(quiet ops||(qD (cJ ops) ops.toList 0 []&&Ad (hV ops) ops.toList 0)))
theorem acZ{R:bo}{H:ae}{k:bo->ae->O}(h:zU ops=J):mM P call ops J R H k=ke P call ops ops.toList R H k:=by
 unfold zU at h;simp only[Bool.and_eq_true,Bool.or_eq_true,decide_eq_true_eq,Option.isNone_iff_eq_none]at h;obtain⟨ah,ai,ax⟩:=h;have e:List.range ops.size=List.range' 0 ops.toList.length:=by grind[List.range_eq_range']
 grind[mM,Kg,uC,Pt,jj]
end
section
variable {P:Program}{call:aq}{ops:Array Oper}
def fC(P:Program)(t:TypeId):Option (List af):=match k9 P t,fX P t with
 |none,A z=>bif z.cells.all af.one then A z.cells else Z
 |_,_=>Z
def Du(P:Program)(H:ae)(t:TypeId)(o:Option (List af))(k:af->ae->O):O:=match o with
 |some cs=>e5 H cs k
 |none=>fe H ((fX P t).bind (mf (k9 P t) H.next)) k
def eH(P:Program)(call:aq)(o:Op)(R:bo)(H:ae)(k:af->ae->O):O:=match o with
 | .alloc t=>Du P H t (fC P t) k
 | .box t x=>(bm R x).bind λv=>fe H (mf (k9 P t) H.next v) k
 | .buildSlice t n dk=>(iW R dk.toList).bind λl=>fe H (gB P H.next t n l) k
 | .makeMap t r=>fe H (iz P (.makeMap t r) R H.next) k
 | .makeSlice t x c=>(bm R x).bind λu=>(bm R c).bind λv=>fe H (gS (hL P ⟨.leaf,H.next⟩ t u v) H.next) k
 | .load t x=>(bm R x).bind λu=>aU (aI P H t u) λv=>k v H
 | .lookup t x i ok=>aU (hy P (.lookup t x i ok) R H) λv=>k v H
 | .store t x y=>(bm R x).bind λu=>(bm R y).bind λv=>gp H (cr P H t u v) λH'=>k (.tuple []) H'
 | .mapUpdate t m i x=>(bm R m).bind λu=>(bm R i).bind λv=>(bm R x).bind λz=>gp H (jI P H t u v z) λH'=>k (.tuple []) H'
 | .insert t m i x=>(bm R m).bind λu=>(bm R i).bind λv=>(bm R x).bind λz=>gp H (jI P H t u v z) λH'=>k (.tuple []) H'
 | .convert s d x=>(bm R x).bind λv=>IY P s d v H λw=>k w H
 | .call c=>match c.callee with
  | .builtin .append=>ea H (k2 P (.call c) R H) k
  | .builtin .clear=>ea H (k2 P (.call c) R H) k
  | .builtin b=>(fl R c.args.toList).bind λak=>eM P b c.argTypes.toList ak H λw=>k w H
  | .value f=>(bm R f).bind λu=>(fl R c.args.toList).bind λak=>qe call H u ak k
  | .invoke r a=>(bm R r).bind λu=>(fl R c.args.toList).bind λak=>(jr P H u a ak).bind λp=>ea H (call p.1 p.2 H) k
 |o=>aU (hx P o R) λv=>k v H
def D5{r:Option af}{k:af->O}:r.bind k=aU r k:=by cases r<;>rfl
theorem step_eq(o:Op)(R:bo)(H:ae)(k:af->ae->O):dA P call o R H (λx=>k x.val (x.heap H))=eH P call o R H k:=by
 have pu:cls o= .pure->dA P call o R H (λx=>k x.val (x.heap H))=aU (hx P o R) λv=>k v H:=λh=>by
  unfold dA;rw[h];simp only[D5];rfl
 have g:cls o= .read->dA P call o R H (λx=>k x.val (x.heap H))=aU (hy P o R H) λv=>k v H:=λh=>by
  unfold dA;rw[h];simp only[D5];rfl
 have ne:cls o= .new->dA P call o R H (λx=>k x.val (x.heap H))=fe H (iz P o R H.next) k:=λh=>by
  unfold dA;rw[h];simp only[jA,fe];cases iz P o R H.next<;>rfl
 have wr:cls o= .write->dA P call o R H (λx=>k x.val (x.heap H))=ea H (k2 P o R H) k:=λh=>by
  unfold dA;rw[h];simp only[eb,ea];cases k2 P o R H<;>rfl
 cases o with
 |alloc t=>
  rw[ne rfl];simp only[eH,iz];cases a:fC P t with
  |none=>rfl
  |some cs=>
   unfold fC at a;split at a
   ·rename_i z ah ai;cases e:z.cells.all af.one<;>rw[e]at a
    ·grind
    ·cases a;simp only[Du,ah,ai,Option.bind_some,mf,e,g8,fe,e5];rfl
   grind
 |box t x=>rw[ne rfl];simp only[eH,iz];cases bm R x<;>rfl
 |buildSlice t n dk=>rw[ne rfl];simp only[eH,iz];cases iW R dk.toList<;>rfl
 |makeMap t r=>rw[ne rfl];rfl
 |makeSlice t x c=>rw[ne rfl];simp only[eH,iz];cases bm R x with
  |none=>rfl
  |some u=>cases bm R c<;>rfl
 |load t x=>rw[g rfl];simp only[eH,hy];cases bm R x<;>rfl
 |lookup t x i ok=>rw[g rfl];rfl
 |store t x y=>
  rw[wr rfl];simp only[eH,k2];cases bm R x with
  |none=>rfl
  |some u=>cases bm R y with
   |none=>rfl
   |some v=>simp only[Option.bind_some,gp];cases cr P H t u v<;>rfl
 |mapUpdate t m i x=>
  rw[wr rfl];simp only[eH,k2];cases bm R m with
  |none=>rfl
  |some u=>cases bm R i with
   |none=>rfl
   |some v=>cases bm R x with
    |none=>rfl
    |some z=>simp only[Option.bind_some,gp];cases jI P H t u v z<;>rfl
 |insert t m i x=>
  rw[wr rfl];simp only[eH,k2];cases bm R m with
  |none=>rfl
  |some u=>cases bm R i with
   |none=>rfl
   |some v=>cases bm R x with
    |none=>rfl
    |some z=>simp only[Option.bind_some,gp];cases jI P H t u v z<;>rfl
 |convert s d x=>
  simp only[dA,cls,eH,hx,hy];cases bm R x with
  |none=>rfl
  |some v=>simp only[Option.bind_some,iM,IY];cases r_ P s d v<;>rfl
 |call c=>
  have q:∀b,c.callee= .builtin b->cls (.call c)= .both->dA P call (.call c) R H (λx=>k x.val (x.heap H))=(fl R c.args.toList).bind λak=>eM P b c.argTypes.toList ak H λw=>k w H:=λb j h=>by
   unfold dA;rw[h];simp only[hx,hy,j];cases fl R c.args.toList with
   |none=>rfl
   |some ak=>simp only[Option.bind_some,iM,eM];cases bE P .empty b c.argTypes.toList ak<;>rfl
  simp only[eH];cases aA:c.callee with
  |builtin b=>
   grind[cls]
  |value f=>
   simp only[dA,cls,aA,qG];cases bm R f with
   |none=>rfl
   |some u=>cases fl R c.args.toList with
    |none=>rfl
    |some ak=>
     simp only[Option.bind_some,qe];cases oY u ak with
     |none=>rfl
     |some p=>simp only[Option.bind_some,eb,ea];cases call p.1 p.2 H<;>rfl
  |invoke r l=>
   simp only[dA,cls,aA,qG];cases bm R r with
   |none=>rfl
   |some u=>cases fl R c.args.toList with
    |none=>rfl
    |some ak=>
     simp only[Option.bind_some];cases jr P H u l ak with
     |none=>rfl
     |some p=>simp only[Option.bind_some,eb,ea];cases call p.1 p.2 H<;>rfl
 |_=>exact pu rfl
def dM{α:Type}(o:Option α)(f:α->(K->O)->O):(K->O)->O:=λq=>o.bind λv=>f v q
def Uy{α:Type}(v:α)(f:α->(K->O)->O):dM (A v) f=f v:=rfl
def vd(o:Option af):(K->O)->O:=ck o
def acI(v:af):vd (A v)=qv v:=rfl
def gn(P:Program)(call:aq)(o:Op)(R:bo)(H:ae):(K->O)->O:=match o with
 | .move x=>vd (bm R x)
 | .assign x=>vd (bm R x)
 | .load t x=>dM (bm R x) λu=>qr (aI P H t u)
 | .buildSlice t n dk=>dM (iW R dk.toList) λl q=>jA (gB P H.next t n l) q
 | .call c=>match c.callee with
  | .builtin .append=>dA P call (.call c) R H
  | .builtin .clear=>dA P call (.call c) R H
  | .builtin b=>dM (fl R c.args.toList) λak q=>iM (bE P .empty b c.argTypes.toList ak) (bE P H b c.argTypes.toList ak) q
  | .value (.func f)=>dM (fl R c.args.toList) λak q=>eb H (call f ([]++ak++[]) H) q
  |_=>dA P call (.call c) R H
 | .binOp op t x y m=>dM (bm R x) λu=>dM (bm R y) λv=>ck (bx P op t (isConst x||isConst y) u v)
 | .unOp op t x=>dM (bm R x) λu=>ck (jL op u)
 | .fieldAddr t x f=>dM (bm R x) λu=>ck (bO P t u f)
 | .indexAddr t x i=>dM (bm R x) λu=>dM (bm R i) λv=>ck (ct P t u v)
 | .nilCheck x=>dM (bm R x) λu=>ck (eB u)
 | .extract x i=>dM (bm R x) λu=>ck (iS u i)
 | .pick c a b=>dM (bm R c) λu=>ck (dt u (bm R a) (bm R b))
 |o=>dA P call o R H
theorem R8(o:Op)(R:bo)(H:ae):dA P call o R H=gn P call o R H:=by
 funext q
 cases o with
 |call c=>
  simp only[gn];cases aA:c.callee with
  |builtin b=>
   by_cases ah:b= .append
   ·subst ah;rfl
   by_cases ai:b= .clear
   ·subst ai;rfl
   have ax:cls (.call c)= .both:=by
    grind[cls]
   have e:dA P call (.call c) R H q=dM (fl R c.args.toList) (λak q=>iM (bE P .empty b c.argTypes.toList ak) (bE P H b c.argTypes.toList ak) q) q:=by
    unfold dA;rw[ax];simp only[hx,hy,aA,dM];cases fl R c.args.toList<;>rfl
   rw[e];cases b<;>first|rfl|exact absurd rfl ah|grind
  |value f=>
   cases f<;>try rfl
   simp only[dA,cls,aA,qG,bm,dM,Option.bind_some];cases fl R c.args.toList<;>rfl
  |invoke r d=>rfl
 |move x=>rfl
 |assign x=>rfl
 |load t x=>simp only[gn,dA,cls,hy,dM];cases bm R x<;>rfl
 |buildSlice t n dk=>simp only[gn,dA,cls,iz,dM];cases iW R dk.toList<;>rfl
 |binOp op t x y m=>simp only[gn,dA,cls,hx,dM];cases bm R x with
  |none=>rfl
  |some u=>cases bm R y<;>rfl
 |unOp op t x=>simp only[gn,dA,cls,hx,dM];cases bm R x<;>rfl
 |fieldAddr t x f=>simp only[gn,dA,cls,hx,dM];cases bm R x<;>rfl
 |indexAddr t x i=>simp only[gn,dA,cls,hx,dM];cases bm R x with
  |none=>rfl
  |some u=>cases bm R i<;>rfl
 |nilCheck x=>simp only[gn,dA,cls,hx,dM];cases bm R x<;>rfl
 |extract x i=>simp only[gn,dA,cls,hx,dM];cases bm R x<;>rfl
 |pick c a b=>simp only[gn,dA,cls,hx,dM];cases bm R c<;>rfl
 |_=>rfl
def sC(ops:Array Oper)(j:Nat)(R:bo):af:=match ops[j]? with
 |some q=>(match q.dst with
  |some d=>R d
  |none=> .tuple [])
 |none=> .tuple []
def agv{d:Option Nat}{o:Op}{t:TypeId}{p:String}{a:Array Edge}{os:List Oper}{R:bo}{H:ae}{k:bo->ae->O}:
  ke P call ops (⟨d,o,t,p,a,Z⟩::os) R H k=eH P call o R H λv H'=>ke P call ops os (dG R d v) H' k:=by
 rw[<-step_eq];rfl
def agu{d:Option Nat}{o:Op}{t:TypeId}{p:String}{a:Array Edge}{j:Nat}{w:Bool}{os:List Oper}{R:bo}{H:ae}{k:bo->ae->O}:
  ke P call ops (⟨d,o,t,p,a,A (j,w)⟩::os) R H k=bW (sC ops j R) w H (gn P call o R H) λv H'=>ke P call ops os (dG R d v) H' k:=by
 rw[<-R8];simp only[ke,mj,sC,bW];cases ops[j]? with
 |none=>rfl
 |some q=>
  obtain⟨b,_,_,_,_,_⟩:=q;cases b<;>rfl
end
end Go.cw
namespace Go.Proofs.YtmhhnnklfcbgfaaGreat
open Go.cw
section
set_option maxRecDepth 100000
def YS(R:bo)(t:Nat):bm R (.tmp t)=A (R t):=rfl
def YL(R:bo)(f:Nat):bm R (.func f)=A (.func (.func f) [] []):=rfl
def YM(R:bo)(k:IntKind)(n:Int):bm R (.const (.int k n))=A (.int k n):=rfl
def YR(R:bo)(l:List UInt8):bm R (.const (.string ⟨l.toArray⟩))=A (.str l):=rfl
def YK(R:bo)(b:Bool):bm R (.const (.bool b))=A (.bool b):=rfl
def YQ(R:bo):bm R (.const (.slice Z 0 0))=A .ao:=rfl
def YP(R:bo):bm R (.const (.pointer Z))=A .ho:=rfl
def YO(R:bo):bm R (.const (.map Z))=A .js:=rfl
def YN(R:bo):bm R (.const .nilFunc)=A .nilFunc:=rfl
def YU(R:bo):fl R []=A []:=rfl
def YT(R:bo)(x:Operand)(xs:List Operand):fl R (x::xs)=(bm R x).bind λv=>(fl R xs).bind λak=>A (v::ak):=rfl
def Yv(R:bo):iW R []=A []:=rfl
def Yu(R:bo)(i:Nat)(x:Operand)(xs:List (Nat×Operand)):iW R ((i,x)::xs)=(bm R x).bind λv=>(iW R xs).bind λak=>A ((i,v)::ak):=rfl
def YI(R:bo):jR R Z=A none:=rfl
def YJ(R:bo)(x:Operand):jR R (A x)=(bm R x).bind λv=>A (A v):=rfl
def ajr(R:bo)(v:af):dG R Z v=R:=rfl
def ajs(R:bo)(d:Nat)(v:af)(e:Nat):dG R (A d) v e=if e=d then v else R e:=by
 show(bif Nat.beq e d then v else R e)=_;by_cases h:e=d
 ·rw[if_pos h,h,Nat.beq_refl];rfl
 ·rw[if_neg h];cases a:Nat.beq e d with
  |true=>exact absurd (Nat.eq_of_beq_eq_true a) h
  |false=>rfl
def aj7(v:af)(k:af->O):aU (A v) k=k v:=rfl
def Um(v:af)(ak:List af):cY (v::ak) 0=v:=rfl
def Un(v:af)(ak:List af)(n:Nat):cY (v::ak) (n+1)=cY ak n:=rfl
def aj5(G:aq)(H:ae)(f:Nat)(ak:List af)(k:af->ae->O):qe G H (.func (.func f) [] []) ak k=ea H (G f ak H) k:=by simp[qe,oY]
def ada{rs:List ResultVar}(R:bo)(H:ae):lf P rs R H=lP P H R rs λak=>A (lA ak,H):=rfl
def ac5(H:ae)(R:bo)(k:List af->O):lP P H R [] k=k []:=rfl
def ac8(H:ae)(R:bo)(t:Nat)(rs:List ResultVar)(k:List af->O):lP P H R (.tmp t::rs) k=lP P H R rs λak=>k (R t::ak):=rfl
def ac6(H:ae)(R:bo)(a t:Nat)(rs:List ResultVar)(k:List af->O):lP P H R (.cell a t::rs) k=aU (aI P H t (R a)) λv=>lP P H R rs λak=>k (v::ak):=D5
def T8:lA []= .tuple []:=rfl
def T9(v:af):lA [v]=v:=rfl
def T_(v u:af)(ak:List af):lA (v::u::ak)= .tuple (v::u::ak):=rfl
def agt{G:aq}{ops:Array Oper}(R:bo)(H:ae)(k:bo->ae->O):ke P G ops [] R H k=k R H:=rfl
def ac2{G:aq}{ops:Array Oper}(R:bo)(H:ae)(k:bo->ae->O):mM P G ops I R H k=ke P G ops ops.toList R H k:=rfl
def UW{l:Nat}{v:af}{t:Nat}(h:(k9 P t).isNone=J):mf (k9 P t) l v=fj l v:=by
 rw[Option.isNone_iff_eq_none.1 h];rfl
def akd(H:ae)(t:Nat)(cs:List af)(k:af->ae->O):Du P H t (A cs) k=e5 H cs k:=rfl
def Vv(c:Operand)(aV:bQ)(e:List (Nat×bQ))(d:bQ)(G:aq)(N:Nat)(a b:Code)(R:bo)(H:ae):bS P G N (.cond c a b) aV e d R H=ep (bm R c) (bS P G N a aV e d R H) (bS P G N b aV e d R H):=rfl
def V5(g:Nat)(ops:Array Oper)(d:Bool)(aV:bQ)(b:List (Nat×bQ))(a:bQ)(G:aq)(N:Nat)(R:bo)(H:ae):bS P G N (.region g ops d) aV b a R H=mM P G ops d R H aV:=rfl
def V7(a b:Code)(aV:bQ)(d:List (Nat×bQ))(c:bQ)(G:aq)(N:Nat)(R:bo)(H:ae):bS P G N (.seq a b) aV d c R H=bS P G N a (λR H=>bS P G N b aV d c R H) d c R H:=rfl
def Vd(i:Nat)(b:Code)(aV:bQ)(c:List (Nat×bQ))(a:bQ)(G:aq)(N:Nat)(R:bo)(H:ae):bS P G N (.block i b) aV c a R H=bS P G N b aV ((i,aV)::c) a R H:=rfl
def Vs(i:Nat)(aV:bQ)(a:List (Nat×bQ))(b:bQ)(G:aq)(N:Nat)(R:bo)(H:ae):bS P G N (.exit i) aV a b R H=Go.cw.look i a R H:=rfl
def V6(aV:bQ)(b:List (Nat×bQ))(a:bQ)(G:aq)(N:Nat)(R:bo)(H:ae):bS P G N .ret aV b a R H=a R H:=rfl
def V8(aV:bQ)(b:List (Nat×bQ))(a:bQ)(G:aq)(N:Nat)(R:bo)(H:ae):bS P G N .skip aV b a R H=aV R H:=rfl
def VE(l:Nat)(aV:bQ)(b:List (Nat×bQ))(a:bQ)(G:aq)(N:Nat)(R:bo)(H:ae):bS P G N (.label l) aV b a R H=aV R H:=rfl
def abi(i j:Nat)(k:bQ)(a:List (Nat×bQ))(R:bo)(H:ae):Go.cw.look i ((j,k)::a) R H=if i=j then k R H else Go.cw.look i a R H:=by
 show(bif Nat.beq i j then _ else _)=_;by_cases h:i=j
 ·rw[if_pos h,h,Nat.beq_refl];rfl
 ·rw[if_neg h];cases b:Nat.beq i j with
  |true=>exact absurd (Nat.eq_of_beq_eq_true b) h
  |false=>rfl
def YG(a b:Code):Code.aj (.seq a b)=a:=rfl
def YE(c:Operand)(a b:Code):Code.aj (.cond c a b)=a:=rfl
def YD(i:Nat)(b:Code):Code.aj (.block i b)=b:=rfl
def YF(b:Code):Code.aj (.loop b)=b:=rfl
def aha(a b:Code):Code.aa (.seq a b)=b:=rfl
def ag_(c:Operand)(a b:Code):Code.aa (.cond c a b)=b:=rfl
def aiK(c:Operand)(a b:Code):Code.test (.cond c a b)=c:=rfl
def ZN(v:Value):isConst (.const v)=true:=rfl
def ZO(t:Nat):isConst (.tmp t)=false:=rfl
def acP(f:Func):a8 f=lf P f.results.toList:=rfl
def Vt(f:Func)(G:aq)(N:Nat):ev f G N=bS P G N (bL f) (a8 f) [] (a8 f):=rfl
def KV{p:Prop}(h:p:=by decide+kernel):p:=h
def ab6(i:Nat)(b:Code):Code.num (.block i b)=i:=rfl
def EC(o:Option Oper)(R:bo):af:=match o with
 |some q=>(match q.dst with
  |some d=>R d
  |none=> .tuple [])
 |none=> .tuple []
section
variable {G:aq}{R:bo}{H:ae}{k:af->ae->O}{t s m:Nat}{x y z c:Operand}{i:Nat}
def ahN:eH P G (.move x) R H k=aU (bm R x) λv=>k v H:=rfl
def aho:eH P G (.assign x) R H k=aU (bm R x) λv=>k v H:=rfl
def ahQ:eH P G (.pick c x y) R H k=aU ((bm R c).bind λu=>dt u (bm R x) (bm R y)) λv=>k v H:=rfl
def ahs{dk:Array (Nat×Operand)}:eH P G (.build t dk) R H k=aU ((iW R dk.toList).bind (ei P t)) λv=>k v H:=rfl
def ahP:eH P G (.nilCheck x) R H k=aU ((bm R x).bind λv=>eB v) λv=>k v H:=rfl
def ahp{op:BinOp}:eH P G (.binOp op t x y m) R H k=aU ((bm R x).bind λu=>(bm R y).bind λv=>bx P op t (isConst x||isConst y) u v) λv=>k v H:=rfl
def ahY{op:UnOp}:eH P G (.unOp op t x) R H k=aU ((bm R x).bind (jL op)) λv=>k v H:=rfl
def ahL:eH P G (.makeInterface t x) R H k=aU ((bm R x).bind (nW P t)) λv=>k v H:=rfl
def ahK{f:Fn}{a b:Array Operand}:eH P G (.makeFunc f a b) R H k=aU ((fl R a.toList).bind λfs=>(fl R b.toList).bind λcs=>A (.func f fs cs)) λv=>k v H:=rfl
def ahV{a b d:Option Operand}:eH P G (.slice t x a b d) R H k=aU ((bm R x).bind λv=>(jR R a).bind λl=>(jR R b).bind λh=>(jR R d).bind λm=>gu P t v l h m) λv=>k v H:=rfl
def ahy:eH P G (.fieldAddr t x i) R H k=aU ((bm R x).bind λv=>bO P t v i) λv=>k v H:=rfl
def ahx:eH P G (.field t x i) R H k=aU ((bm R x).bind λv=>oT P t v i) λv=>k v H:=rfl
def ahA:eH P G (.indexAddr t x y) R H k=aU ((bm R x).bind λu=>(bm R y).bind λv=>ct P t u v) λv=>k v H:=rfl
def ahB:eH P G (.index t x y) R H k=aU ((bm R x).bind λu=>(bm R y).bind λv=>qm P t u v) λv=>k v H:=rfl
def ahw:eH P G (.extract x i) R H k=aU ((bm R x).bind λv=>iS v i) λv=>k v H:=rfl
def ahl:eH P G (.alloc t) R H k=Du P H t (fC P t) k:=rfl
def ahq:eH P G (.box t x) R H k=(bm R x).bind λv=>fe H (mf (k9 P t) H.next v) k:=rfl
def ahr{dk:Array (Nat×Operand)}:eH P G (.buildSlice t i dk) R H k=(iW R dk.toList).bind λl=>fe H (gB P H.next t i l) k:=rfl
def ahO:eH P G (.makeSlice t x c) R H k=(bm R x).bind λu=>(bm R c).bind λv=>fe H (gS (hL P ⟨.leaf,H.next⟩ t u v) H.next) k:=rfl
def ahI:eH P G (.load t x) R H k=(bm R x).bind λu=>aU (aI P H t u) λv=>k v H:=rfl
def ahW:eH P G (.store t x y) R H k=(bm R x).bind λu=>(bm R y).bind λv=>gp H (cr P H t u v) λH'=>k (.tuple []) H':=rfl
def ahm{ts:Array Nat}:eH P G (.call ⟨.builtin .append,#[x,y],ts⟩) R H k=ea H ((bm R x).bind λu=>(bm R y).bind λv=>eA P H ts.toList u v) k:=rfl
def ahG{a:Array Operand}{ts:Array Nat}:eH P G (.call ⟨.builtin .len,a,ts⟩) R H k=(fl R a.toList).bind λak=>eM P .len ts.toList ak H λw=>k w H:=rfl
def ahu{a:Array Operand}{ts:Array Nat}:eH P G (.call ⟨.builtin .cap,a,ts⟩) R H k=(fl R a.toList).bind λak=>eM P .cap ts.toList ak H λw=>k w H:=rfl
def ahM{a:Array Operand}{ts:Array Nat}:eH P G (.call ⟨.builtin .min,a,ts⟩) R H k=(fl R a.toList).bind λak=>eM P .min ts.toList ak H λw=>k w H:=rfl
def ahJ{a:Array Operand}{ts:Array Nat}:eH P G (.call ⟨.builtin .max,a,ts⟩) R H k=(fl R a.toList).bind λak=>eM P .max ts.toList ak H λw=>k w H:=rfl
def aht{a:Array Operand}{ts:Array Nat}:eH P G (.call ⟨.value x,a,ts⟩) R H k=(bm R x).bind λu=>(fl R a.toList).bind λak=>qe G H u ak k:=rfl
def agW:gn P G (.move x) R H=vd (bm R x):=rfl
def agK:gn P G (.assign x) R H=vd (bm R x):=rfl
def agV:gn P G (.load t x) R H=dM (bm R x) λu=>qr (aI P H t u):=rfl
def agM{dk:Array (Nat×Operand)}:gn P G (.buildSlice t i dk) R H=dM (iW R dk.toList) λl q=>jA (gB P H.next t i l) q:=rfl
def agU{a:Array Operand}{ts:Array Nat}:gn P G (.call ⟨.builtin .len,a,ts⟩) R H=dM (fl R a.toList) λak q=>iM (bE P .empty .len ts.toList ak) (bE P H .len ts.toList ak) q:=rfl
def agO{f:Nat}{a:Array Operand}{ts:Array Nat}:gn P G (.call ⟨.value (.func f),a,ts⟩) R H=dM (fl R a.toList) λak q=>eb H (G f ([]++ak++[]) H) q:=rfl
def agL{op:BinOp}:gn P G (.binOp op t x y m) R H=dM (bm R x) λu=>dM (bm R y) λv=>ck (bx P op t (isConst x||isConst y) u v):=rfl
def ag0{op:UnOp}:gn P G (.unOp op t x) R H=dM (bm R x) λu=>ck (jL op u):=rfl
def agQ:gn P G (.fieldAddr t x i) R H=dM (bm R x) λu=>ck (bO P t u i):=rfl
def agS:gn P G (.indexAddr t x y) R H=dM (bm R x) λu=>dM (bm R y) λv=>ck (ct P t u v):=rfl
def agX:gn P G (.nilCheck x) R H=dM (bm R x) λu=>ck (eB u):=rfl
def agP:gn P G (.extract x i) R H=dM (bm R x) λu=>ck (iS u i):=rfl
def agY:gn P G (.pick c x y) R H=dM (bm R c) λu=>ck (dt u (bm R x) (bm R y)):=rfl
def agN{dk:Array (Nat×Operand)}:gn P G (.build t dk) R H=dM (iW R dk.toList) λl=>ck (ei P t l):=by
 funext q
 show dA P G (.build t dk) R H q=_;simp only[dA,cls,hx,dM];cases iW R dk.toList<;>rfl
def agT:gn P G (.index t x y) R H=dM (bm R x) λu=>dM (bm R y) λv=>ck (qm P t u v):=by
 funext q
 show dA P G (.index t x y) R H q=_;simp only[dA,cls,hx,dM];cases bm R x with
 |none=>rfl
 |some u=>cases bm R y<;>rfl
def agR:gn P G (.field t x i) R H=dM (bm R x) λu=>ck (oT P t u i):=by
 funext q
 show dA P G (.field t x i) R H q=_;simp only[dA,cls,hx,dM];cases bm R x<;>rfl
def agZ{a b d:Option Operand}:gn P G (.slice t x a b d) R H=dM (bm R x) λv=>dM (jR R a) λl=>dM (jR R b) λh=>dM (jR R d) λm=>ck (gu P t v l h m):=by
 funext q
 show dA P G (.slice t x a b d) R H q=_;simp only[dA,cls,hx,dM];cases bm R x with
 |none=>rfl
 |some u=>cases jR R a with
  |none=>rfl
  |some u=>cases jR R b with
   |none=>rfl
   |some u=>cases jR R d<;>rfl
def Y0{os:List Oper}{j:Nat}:sC os.toArray j R=EC os[j]? R:=by
 unfold sC EC;rw[List.getElem?_toArray]<;>cases os[j]? <;>rfl
def YY{d:Nat}{o:Op}{ty:TypeId}{p:String}{a:Array Edge}{g:Option (Nat×Bool)}:EC (A ⟨A d,o,ty,p,a,g⟩) R=R d:=rfl
end
def aki:fC P 49=A [.int .i64 0,af.ao,.bool I,.int .i64 0,.int .i64 0,.int .i64 0,af.ao]/\fC P 95=A [.str [],af.ao]/\fC P 98=A [.str [],.int .i64 0,.int .i64 0,.int .i64 0]/\fC P 46=A [.int .i64 0,.int .i64 0,.int .i64 0]/\fC P 100=A [.int .i64 0,.int .i64 0,.int .i64 0,.int .i64 0]/\fC P 89=A [.int .i64 0,.int .i64 0,.int .i64 0,.int .i64 0,.int .i64 0,af.ao]/\fC P 154=A [af.ao,af.ao]/\fC P 56=A [.int .i64 0,.int .i64 0,.int .i64 0,.int .i64 0]/\fC P 310=A []/\fC P 286=A [.int .i64 0,.int .i64 0,.int .i64 0]/\fC P 33=A [.int .i64 0,af.ao,af.ao,af.ao]/\fC P 3=A [.int .i64 0]/\fC P 62=A [af.ao,af.ao,af.ao]/\fC P 65=A [.int .i64 0,.int .i64 0]/\fC P 27=A [af.ao,af.ao,af.ao,af.ao,.int .i64 0]/\fC P 113=A [.int .i64 0,.str [],.int .i64 0,.int .i64 0]/\fC P 118=A [.str [],af.ao,.int .i64 0]/\fC P 123=A [.str [],.str [],.int .i64 0,.int .i64 0]/\fC P 128=A [.str [],af.ao,.bool I,.str [],.int .i64 0,af.ao,.int .i64 0]/\fC P 121=A [.str [],.int .i64 0]/\fC P 192=A [.int .i64 0,.str [],.str [],.int .i64 0,af.ao,af.ao,af.ao,.int .i64 0,.int .i64 0]/\fC P 235=A [.int .i64 0,.int .i64 0,.str [],.str [],.int .i64 0,af.ao,.int .i64 0,.int .i64 0,.int .i64 0,.int .i64 0,.int .i64 0]/\fC P 135=A [af.ao,af.ao,af.ao,.int .i64 0,af.ao]/\fC P 132=A [af.ao,af.ao,af.ao,.int .i64 0]/\fC P 143=A [.str [],af.ao,.bool I,.int .i64 0,.int .i64 0,.int .i64 0]/\fC P 141=A [af.ao,af.ao,.int .i64 0]/\fC P 294=A [.int .u64 0]:=by
 repeat (refine ag aF ?_)
 kernel_rfl
instance {α β:Type}{p:(α->β)->Prop}:CoeFun {g:α->β // p g} λ_=>α->β:=⟨Subtype.val⟩
def KT:=ag (ag (ag (ag (ag (ag @YS (ag @YL @YM)) (ag (ag @YR @YK) (ag @YQ @YP))) (ag (ag @YO (ag @YN @YU)) (ag (ag @YT @Yv) (ag @Yu @YI)))) (ag (ag (ag @YJ (ag @ajr @ajs)) (ag (ag @aj7 @Um) (ag @Un @aj5))) (ag (ag @ada (ag @ac5 @ac8)) (ag (ag @ac6 @T8) (ag @T9 @T_))))) (ag (ag (ag (ag @agt (ag @ac2 @UW)) (ag (ag @akd @Vv) (ag @V5 @V7))) (ag (ag @Vd (ag @Vs @V6)) (ag (ag @V8 @VE) (ag @abi @YG)))) (ag (ag (ag @YE (ag @YD @YF)) (ag (ag @aha @ag_) (ag @aiK @ZN))) (ag (ag (ag @ZO @acP) (ag @Vt @ab6)) (ag (ag @ahN @aho) (ag @ahQ @ahs)))))) (ag (ag (ag (ag (ag @ahP (ag @ahp @ahY)) (ag (ag @ahL @ahK) (ag @ahV @ahy))) (ag (ag @ahx (ag @ahA @ahB)) (ag (ag @ahw @ahl) (ag @ahq @ahr)))) (ag (ag (ag @ahO (ag @ahI @ahW)) (ag (ag @ahm @ahG) (ag @ahu @ahM))) (ag (ag (ag @ahJ @aht) (ag @agW @agK)) (ag (ag @agV @agM) (ag @agU @agO))))) (ag (ag (ag (ag @agL (ag @ag0 @agQ)) (ag (ag @agS @agX) (ag @agP @agY))) (ag (ag @agN (ag @agT @agR)) (ag (ag @agZ @YY) (ag @Y0 (@acZ P))))) (ag (ag (ag (@agv P) (ag (@agu P) @Uy)) (ag (ag @acI aki) (ag @Option.bind_some.{0,0} @List.toList_toArray.{0}))) (ag (ag (ag @List.getElem?_cons_succ.{0} @List.getElem?_cons_zero.{0}) (ag @Bool.or_false @Bool.or_true)) (ag (ag @Bool.false_or @Bool.true_or) (ag @List.nil_append.{0} @List.append_nil.{0}))))))
abbrev ko:=ae->O
abbrev T1:=af->ko
abbrev T2:=af->T1
abbrev b6:=af->T2
abbrev cg:=af->b6
abbrev cx:=af->cg
abbrev cy:=af->cx
abbrev ec:=af->cy
abbrev hs:=af->ec
abbrev jE:=af->hs
abbrev jf:=af->jE
abbrev oQ:=af->jf
abbrev Jg:=af->oQ
abbrev akj:ko:=λ_=>Z
abbrev Td:T1:=λ_=>akj
abbrev m2:T2:=λ_=>Td
abbrev gD:b6:=λ_=>m2
abbrev fq:cg:=λ_=>gD
abbrev hH:cx:=λ_=>fq
abbrev ir:cy:=λ_=>hH
abbrev kN:ec:=λ_=>ir
abbrev tX:hs:=λ_=>kN
abbrev ys:jE:=λ_=>tX
abbrev yr:jf:=λ_=>ys
abbrev akk:oQ:=λ_=>yr
def br(g:ko):bQ:=λR H=>g H
def Vf{g:ko}{R:bo}{H:ae}:br g R H=g H:=rfl
def a1(g:T1)(i0:Nat):bQ:=λR H=>g (R i0) H
def Vg{g:T1}{i0:Nat}{R:bo}{H:ae}:a1 g i0 R H=g (R i0) H:=rfl
def bd(g:T2)(i0 i1:Nat):bQ:=λR H=>g (R i0) (R i1) H
def Vk{g:T2}{i0 i1:Nat}{R:bo}{H:ae}:bd g i0 i1 R H=g (R i0) (R i1) H:=rfl
def bn(g:b6)(i0 i1 i2:Nat):bQ:=λR H=>g (R i0) (R i1) (R i2) H
def Vl{g:b6}{i0 i1 i2:Nat}{R:bo}{H:ae}:bn g i0 i1 i2 R H=g (R i0) (R i1) (R i2) H:=rfl
def bI(g:cg)(i0 i1 i2 i3:Nat):bQ:=λR H=>g (R i0) (R i1) (R i2) (R i3) H
def Vm{g:cg}{i0 i1 i2 i3:Nat}{R:bo}{H:ae}:bI g i0 i1 i2 i3 R H=g (R i0) (R i1) (R i2) (R i3) H:=rfl
def bY(g:cx)(i0 i1 i2 i3 i4:Nat):bQ:=λR H=>g (R i0) (R i1) (R i2) (R i3) (R i4) H
def Vn{g:cx}{i0 i1 i2 i3 i4:Nat}{R:bo}{H:ae}:bY g i0 i1 i2 i3 i4 R H=g (R i0) (R i1) (R i2) (R i3) (R i4) H:=rfl
def ch(g:cy)(i0 i1 i2 i3 i4 i5:Nat):bQ:=λR H=>g (R i0) (R i1) (R i2) (R i3) (R i4) (R i5) H
def Vo{g:cy}{i0 i1 i2 i3 i4 i5:Nat}{R:bo}{H:ae}:ch g i0 i1 i2 i3 i4 i5 R H=g (R i0) (R i1) (R i2) (R i3) (R i4) (R i5) H:=rfl
def dp(g:ec)(i0 i1 i2 i3 i4 i5 i6:Nat):bQ:=λR H=>g (R i0) (R i1) (R i2) (R i3) (R i4) (R i5) (R i6) H
def Vp{g:ec}{i0 i1 i2 i3 i4 i5 i6:Nat}{R:bo}{H:ae}:dp g i0 i1 i2 i3 i4 i5 i6 R H=g (R i0) (R i1) (R i2) (R i3) (R i4) (R i5) (R i6) H:=rfl
def fY(g:hs)(i0 i1 i2 i3 i4 i5 i6 i7:Nat):bQ:=λR H=>g (R i0) (R i1) (R i2) (R i3) (R i4) (R i5) (R i6) (R i7) H
def Vq{g:hs}{i0 i1 i2 i3 i4 i5 i6 i7:Nat}{R:bo}{H:ae}:fY g i0 i1 i2 i3 i4 i5 i6 i7 R H=g (R i0) (R i1) (R i2) (R i3) (R i4) (R i5) (R i6) (R i7) H:=rfl
def oX(g:jE)(i0 i1 i2 i3 i4 i5 i6 i7 i8:Nat):bQ:=λR H=>g (R i0) (R i1) (R i2) (R i3) (R i4) (R i5) (R i6) (R i7) (R i8) H
def Vr{g:jE}{i0 i1 i2 i3 i4 i5 i6 i7 i8:Nat}{R:bo}{H:ae}:oX g i0 i1 i2 i3 i4 i5 i6 i7 i8 R H=g (R i0) (R i1) (R i2) (R i3) (R i4) (R i5) (R i6) (R i7) (R i8) H:=rfl
def qt(g:jf)(i0 i1 i2 i3 i4 i5 i6 i7 i8 i9:Nat):bQ:=λR H=>g (R i0) (R i1) (R i2) (R i3) (R i4) (R i5) (R i6) (R i7) (R i8) (R i9) H
def Vh{g:jf}{i0 i1 i2 i3 i4 i5 i6 i7 i8 i9:Nat}{R:bo}{H:ae}:qt g i0 i1 i2 i3 i4 i5 i6 i7 i8 i9 R H=g (R i0) (R i1) (R i2) (R i3) (R i4) (R i5) (R i6) (R i7) (R i8) (R i9) H:=rfl
def Ke(g:oQ)(i0 i1 i2 i3 i4 i5 i6 i7 i8 i9 i10:Nat):bQ:=λR H=>g (R i0) (R i1) (R i2) (R i3) (R i4) (R i5) (R i6) (R i7) (R i8) (R i9) (R i10) H
def Vi{g:oQ}{i0 i1 i2 i3 i4 i5 i6 i7 i8 i9 i10:Nat}{R:bo}{H:ae}:Ke g i0 i1 i2 i3 i4 i5 i6 i7 i8 i9 i10 R H=g (R i0) (R i1) (R i2) (R i3) (R i4) (R i5) (R i6) (R i7) (R i8) (R i9) (R i10) H:=rfl
def UZ(g:Jg)(i0 i1 i2 i3 i4 i5 i6 i7 i8 i9 i10 i11:Nat):bQ:=λR H=>g (R i0) (R i1) (R i2) (R i3) (R i4) (R i5) (R i6) (R i7) (R i8) (R i9) (R i10) (R i11) H
def Vj{g:Jg}{i0 i1 i2 i3 i4 i5 i6 i7 i8 i9 i10 i11:Nat}{R:bo}{H:ae}:UZ g i0 i1 i2 i3 i4 i5 i6 i7 i8 i9 i10 i11 R H=g (R i0) (R i1) (R i2) (R i3) (R i4) (R i5) (R i6) (R i7) (R i8) (R i9) (R i10) (R i11) H:=rfl
def Kl:=ag (ag (ag @Vf (ag @Vg @Vk)) (ag @Vl (ag @Vm @Vn))) (ag (ag @Vo (ag @Vp @Vq)) (ag (ag @Vr @Vh) (ag @Vi @Vj)))
def ja{p:Prop}(h:p:=by intros;simp(maxSteps:=4000000) (disch:=try exact KV)only[KT,Kl,Nat.reduceEqDiff,reduceIte, *];rfl):p:=h
def cO{zA B zC:bQ}(h:∀R H,zA R H=B R H)(e:∀R H,B R H=zC R H:=by intro R H;kernel_rfl):∀R H,zA R H=zC R H:=λR H=>(h R H).trans (e R H)
section
variable {f:Func}{G:aq}{N:Nat}{c d:Code}{b7 B:bQ}{b2:List (Nat×bQ)}{rs:List ResultVar}
abbrev hJ(f:Func)(G:aq)(N:Nat)(p:Code->Code)(b7:bQ)(b2:List (Nat×bQ)):={g:ko // ∀R H,bS P G N (p (bL f)) b7 b2 (a8 f) R H=g H}
abbrev W0(f:Func)(G:aq)(p:Code->Code)(b7:bQ)(b2:List (Nat×bQ)):={g:ko // ∀N R H,bS P G N (p (bL f)) b7 b2 (a8 f) R H=g H}
def v0{g:ko}(h:∀R H,bS P G N c b7 b2 (a8 f) R H=B R H)(a:bL f=d:=by(conv=>lhs;whnf);try rfl)(ar:f.results.toList=rs:=by(conv=>lhs;whnf);try rfl)(e:bL f=d->f.results.toList=rs->∀(R:bo) H,B R H=g H:=by exact ja):∀R H,bS P G N c b7 b2 (a8 f) R H=g H:=λR H=>(h R H).trans (e a ar R H)
abbrev eJ(i0:Nat)(f:Func)(G:aq)(N:Nat)(p:Code->Code)(b7:bQ)(b2:List (Nat×bQ)):={g:T1 // ∀R H,bS P G N (p (bL f)) b7 b2 (a8 f) R H=g (R i0) H}
abbrev h_(i0:Nat)(f:Func)(G:aq)(p:Code->Code)(b7:bQ)(b2:List (Nat×bQ)):={g:T1 // ∀N R H,bS P G N (p (bL f)) b7 b2 (a8 f) R H=g (R i0) H}
def v1{g:T1}{i0:Nat}(h:∀R H,bS P G N c b7 b2 (a8 f) R H=B R H)(b:bL f=d:=by(conv=>lhs;whnf);try rfl)(ar:f.results.toList=rs:=by(conv=>lhs;whnf);try rfl)(e:bL f=d->f.results.toList=rs->∀a (R:bo) H,R i0=a->B R H=g a H:=by exact ja):∀R H,bS P G N c b7 b2 (a8 f) R H=g (R i0) H:=λR H=>(h R H).trans (e b ar _ R H rfl)
abbrev gG(i0 i1:Nat)(f:Func)(G:aq)(N:Nat)(p:Code->Code)(b7:bQ)(b2:List (Nat×bQ)):={g:T2 // ∀R H,bS P G N (p (bL f)) b7 b2 (a8 f) R H=g (R i0) (R i1) H}
abbrev r3(i0 i1:Nat)(f:Func)(G:aq)(p:Code->Code)(b7:bQ)(b2:List (Nat×bQ)):={g:T2 // ∀N R H,bS P G N (p (bL f)) b7 b2 (a8 f) R H=g (R i0) (R i1) H}
def v2{g:T2}{i0 i1:Nat}(h:∀R H,bS P G N c b7 b2 (a8 f) R H=B R H)(b:bL f=d:=by(conv=>lhs;whnf);try rfl)(ar:f.results.toList=rs:=by(conv=>lhs;whnf);try rfl)(e:bL f=d->f.results.toList=rs->∀a x1 (R:bo) H,R i0=a->R i1=x1->B R H=g a x1 H:=by exact ja):∀R H,bS P G N c b7 b2 (a8 f) R H=g (R i0) (R i1) H:=λR H=>(h R H).trans (e b ar _ _ R H rfl rfl)
abbrev eh(i0 i1 i2:Nat)(f:Func)(G:aq)(N:Nat)(p:Code->Code)(b7:bQ)(b2:List (Nat×bQ)):={g:b6 // ∀R H,bS P G N (p (bL f)) b7 b2 (a8 f) R H=g (R i0) (R i1) (R i2) H}
abbrev jG(i0 i1 i2:Nat)(f:Func)(G:aq)(p:Code->Code)(b7:bQ)(b2:List (Nat×bQ)):={g:b6 // ∀N R H,bS P G N (p (bL f)) b7 b2 (a8 f) R H=g (R i0) (R i1) (R i2) H}
def v3{g:b6}{i0 i1 i2:Nat}(h:∀R H,bS P G N c b7 b2 (a8 f) R H=B R H)(b:bL f=d:=by(conv=>lhs;whnf);try rfl)(ar:f.results.toList=rs:=by(conv=>lhs;whnf);try rfl)(e:bL f=d->f.results.toList=rs->∀a x1 x2 (R:bo) H,R i0=a->R i1=x1->R i2=x2->B R H=g a x1 x2 H:=by exact ja):∀R H,bS P G N c b7 b2 (a8 f) R H=g (R i0) (R i1) (R i2) H:=λR H=>(h R H).trans (e b ar _ _ _ R H rfl rfl rfl)
abbrev dI(i0 i1 i2 i3:Nat)(f:Func)(G:aq)(N:Nat)(p:Code->Code)(b7:bQ)(b2:List (Nat×bQ)):={g:cg // ∀R H,bS P G N (p (bL f)) b7 b2 (a8 f) R H=g (R i0) (R i1) (R i2) (R i3) H}
abbrev nT(i0 i1 i2 i3:Nat)(f:Func)(G:aq)(p:Code->Code)(b7:bQ)(b2:List (Nat×bQ)):={g:cg // ∀N R H,bS P G N (p (bL f)) b7 b2 (a8 f) R H=g (R i0) (R i1) (R i2) (R i3) H}
def v4{g:cg}{i0 i1 i2 i3:Nat}(h:∀R H,bS P G N c b7 b2 (a8 f) R H=B R H)(b:bL f=d:=by(conv=>lhs;whnf);try rfl)(ar:f.results.toList=rs:=by(conv=>lhs;whnf);try rfl)(e:bL f=d->f.results.toList=rs->∀a x1 x2 x3 (R:bo) H,R i0=a->R i1=x1->R i2=x2->R i3=x3->B R H=g a x1 x2 x3 H:=by exact ja):∀R H,bS P G N c b7 b2 (a8 f) R H=g (R i0) (R i1) (R i2) (R i3) H:=λR H=>(h R H).trans (e b ar _ _ _ _ R H rfl rfl rfl rfl)
abbrev eY(i0 i1 i2 i3 i4:Nat)(f:Func)(G:aq)(N:Nat)(p:Code->Code)(b7:bQ)(b2:List (Nat×bQ)):={g:cx // ∀R H,bS P G N (p (bL f)) b7 b2 (a8 f) R H=g (R i0) (R i1) (R i2) (R i3) (R i4) H}
abbrev r4(i0 i1 i2 i3 i4:Nat)(f:Func)(G:aq)(p:Code->Code)(b7:bQ)(b2:List (Nat×bQ)):={g:cx // ∀N R H,bS P G N (p (bL f)) b7 b2 (a8 f) R H=g (R i0) (R i1) (R i2) (R i3) (R i4) H}
def v5{g:cx}{i0 i1 i2 i3 i4:Nat}(h:∀R H,bS P G N c b7 b2 (a8 f) R H=B R H)(b:bL f=d:=by(conv=>lhs;whnf);try rfl)(ar:f.results.toList=rs:=by(conv=>lhs;whnf);try rfl)(e:bL f=d->f.results.toList=rs->∀a x1 x2 x3 x4 (R:bo) H,R i0=a->R i1=x1->R i2=x2->R i3=x3->R i4=x4->B R H=g a x1 x2 x3 x4 H:=by exact ja):∀R H,bS P G N c b7 b2 (a8 f) R H=g (R i0) (R i1) (R i2) (R i3) (R i4) H:=λR H=>(h R H).trans (e b ar _ _ _ _ _ R H rfl rfl rfl rfl rfl)
abbrev fD(i0 i1 i2 i3 i4 i5:Nat)(f:Func)(G:aq)(N:Nat)(p:Code->Code)(b7:bQ)(b2:List (Nat×bQ)):={g:cy // ∀R H,bS P G N (p (bL f)) b7 b2 (a8 f) R H=g (R i0) (R i1) (R i2) (R i3) (R i4) (R i5) H}
abbrev W6(i0 i1 i2 i3 i4 i5:Nat)(f:Func)(G:aq)(p:Code->Code)(b7:bQ)(b2:List (Nat×bQ)):={g:cy // ∀N R H,bS P G N (p (bL f)) b7 b2 (a8 f) R H=g (R i0) (R i1) (R i2) (R i3) (R i4) (R i5) H}
def v6{g:cy}{i0 i1 i2 i3 i4 i5:Nat}(h:∀R H,bS P G N c b7 b2 (a8 f) R H=B R H)(b:bL f=d:=by(conv=>lhs;whnf);try rfl)(ar:f.results.toList=rs:=by(conv=>lhs;whnf);try rfl)(e:bL f=d->f.results.toList=rs->∀a x1 x2 x3 x4 x5 (R:bo) H,R i0=a->R i1=x1->R i2=x2->R i3=x3->R i4=x4->R i5=x5->B R H=g a x1 x2 x3 x4 x5 H:=by exact ja):∀R H,bS P G N c b7 b2 (a8 f) R H=g (R i0) (R i1) (R i2) (R i3) (R i4) (R i5) H:=λR H=>(h R H).trans (e b ar _ _ _ _ _ _ R H rfl rfl rfl rfl rfl rfl)
abbrev gM(i0 i1 i2 i3 i4 i5 i6:Nat)(f:Func)(G:aq)(N:Nat)(p:Code->Code)(b7:bQ)(b2:List (Nat×bQ)):={g:ec // ∀R H,bS P G N (p (bL f)) b7 b2 (a8 f) R H=g (R i0) (R i1) (R i2) (R i3) (R i4) (R i5) (R i6) H}
abbrev r5(i0 i1 i2 i3 i4 i5 i6:Nat)(f:Func)(G:aq)(p:Code->Code)(b7:bQ)(b2:List (Nat×bQ)):={g:ec // ∀N R H,bS P G N (p (bL f)) b7 b2 (a8 f) R H=g (R i0) (R i1) (R i2) (R i3) (R i4) (R i5) (R i6) H}
def g2{g:ec}{i0 i1 i2 i3 i4 i5 i6:Nat}(h:∀R H,bS P G N c b7 b2 (a8 f) R H=B R H)(b:bL f=d:=by(conv=>lhs;whnf);try rfl)(ar:f.results.toList=rs:=by(conv=>lhs;whnf);try rfl)(e:bL f=d->f.results.toList=rs->∀a x1 x2 x3 x4 x5 x6 (R:bo) H,R i0=a->R i1=x1->R i2=x2->R i3=x3->R i4=x4->R i5=x5->R i6=x6->B R H=g a x1 x2 x3 x4 x5 x6 H:=by exact ja):∀R H,bS P G N c b7 b2 (a8 f) R H=g (R i0) (R i1) (R i2) (R i3) (R i4) (R i5) (R i6) H:=λR H=>(h R H).trans (e b ar _ _ _ _ _ _ _ R H rfl rfl rfl rfl rfl rfl rfl)
abbrev nS(i0 i1 i2 i3 i4 i5 i6 i7:Nat)(f:Func)(G:aq)(N:Nat)(p:Code->Code)(b7:bQ)(b2:List (Nat×bQ)):={g:hs // ∀R H,bS P G N (p (bL f)) b7 b2 (a8 f) R H=g (R i0) (R i1) (R i2) (R i3) (R i4) (R i5) (R i6) (R i7) H}
def mZ{g:hs}{i0 i1 i2 i3 i4 i5 i6 i7:Nat}(h:∀R H,bS P G N c b7 b2 (a8 f) R H=B R H)(b:bL f=d:=by(conv=>lhs;whnf);try rfl)(ar:f.results.toList=rs:=by(conv=>lhs;whnf);try rfl)(e:bL f=d->f.results.toList=rs->∀a x1 x2 x3 x4 x5 x6 x7 (R:bo) H,R i0=a->R i1=x1->R i2=x2->R i3=x3->R i4=x4->R i5=x5->R i6=x6->R i7=x7->B R H=g a x1 x2 x3 x4 x5 x6 x7 H:=by exact ja):∀R H,bS P G N c b7 b2 (a8 f) R H=g (R i0) (R i1) (R i2) (R i3) (R i4) (R i5) (R i6) (R i7) H:=λR H=>(h R H).trans (e b ar _ _ _ _ _ _ _ _ R H rfl rfl rfl rfl rfl rfl rfl rfl)
abbrev ql(i0 i1 i2 i3 i4 i5 i6 i7 i8:Nat)(f:Func)(G:aq)(N:Nat)(p:Code->Code)(b7:bQ)(b2:List (Nat×bQ)):={g:jE // ∀R H,bS P G N (p (bL f)) b7 b2 (a8 f) R H=g (R i0) (R i1) (R i2) (R i3) (R i4) (R i5) (R i6) (R i7) (R i8) H}
def v9{g:jE}{i0 i1 i2 i3 i4 i5 i6 i7 i8:Nat}(h:∀R H,bS P G N c b7 b2 (a8 f) R H=B R H)(b:bL f=d:=by(conv=>lhs;whnf);try rfl)(ar:f.results.toList=rs:=by(conv=>lhs;whnf);try rfl)(e:bL f=d->f.results.toList=rs->∀a x1 x2 x3 x4 x5 x6 x7 x8 (R:bo) H,R i0=a->R i1=x1->R i2=x2->R i3=x3->R i4=x4->R i5=x5->R i6=x6->R i7=x7->R i8=x8->B R H=g a x1 x2 x3 x4 x5 x6 x7 x8 H:=by exact ja):∀R H,bS P G N c b7 b2 (a8 f) R H=g (R i0) (R i1) (R i2) (R i3) (R i4) (R i5) (R i6) (R i7) (R i8) H:=λR H=>(h R H).trans (e b ar _ _ _ _ _ _ _ _ _ R H rfl rfl rfl rfl rfl rfl rfl rfl rfl)
abbrev r2(i0 i1 i2 i3 i4 i5 i6 i7 i8 i9:Nat)(f:Func)(G:aq)(N:Nat)(p:Code->Code)(b7:bQ)(b2:List (Nat×bQ)):={g:jf // ∀R H,bS P G N (p (bL f)) b7 b2 (a8 f) R H=g (R i0) (R i1) (R i2) (R i3) (R i4) (R i5) (R i6) (R i7) (R i8) (R i9) H}
def v10{g:jf}{i0 i1 i2 i3 i4 i5 i6 i7 i8 i9:Nat}(h:∀R H,bS P G N c b7 b2 (a8 f) R H=B R H)(b:bL f=d:=by(conv=>lhs;whnf);try rfl)(ar:f.results.toList=rs:=by(conv=>lhs;whnf);try rfl)(e:bL f=d->f.results.toList=rs->∀a x1 x2 x3 x4 x5 x6 x7 x8 x9 (R:bo) H,R i0=a->R i1=x1->R i2=x2->R i3=x3->R i4=x4->R i5=x5->R i6=x6->R i7=x7->R i8=x8->R i9=x9->B R H=g a x1 x2 x3 x4 x5 x6 x7 x8 x9 H:=by exact ja):∀R H,bS P G N c b7 b2 (a8 f) R H=g (R i0) (R i1) (R i2) (R i3) (R i4) (R i5) (R i6) (R i7) (R i8) (R i9) H:=λR H=>(h R H).trans (e b ar _ _ _ _ _ _ _ _ _ _ R H rfl rfl rfl rfl rfl rfl rfl rfl rfl rfl)
abbrev Tl(i0 i1 i2 i3 i4 i5 i6 i7 i8 i9 i10:Nat)(f:Func)(G:aq)(N:Nat)(p:Code->Code)(b7:bQ)(b2:List (Nat×bQ)):={g:oQ // ∀R H,bS P G N (p (bL f)) b7 b2 (a8 f) R H=g (R i0) (R i1) (R i2) (R i3) (R i4) (R i5) (R i6) (R i7) (R i8) (R i9) (R i10) H}
def v11{g:oQ}{i0 i1 i2 i3 i4 i5 i6 i7 i8 i9 i10:Nat}(h:∀R H,bS P G N c b7 b2 (a8 f) R H=B R H)(b:bL f=d:=by(conv=>lhs;whnf);try rfl)(ar:f.results.toList=rs:=by(conv=>lhs;whnf);try rfl)(e:bL f=d->f.results.toList=rs->∀a x1 x2 x3 x4 x5 x6 x7 x8 x9 x10 (R:bo) H,R i0=a->R i1=x1->R i2=x2->R i3=x3->R i4=x4->R i5=x5->R i6=x6->R i7=x7->R i8=x8->R i9=x9->R i10=x10->B R H=g a x1 x2 x3 x4 x5 x6 x7 x8 x9 x10 H:=by exact ja):∀R H,bS P G N c b7 b2 (a8 f) R H=g (R i0) (R i1) (R i2) (R i3) (R i4) (R i5) (R i6) (R i7) (R i8) (R i9) (R i10) H:=λR H=>(h R H).trans (e b ar _ _ _ _ _ _ _ _ _ _ _ R H rfl rfl rfl rfl rfl rfl rfl rfl rfl rfl rfl)
abbrev uf(f:Func)(G:aq):={g:ko // ∀N H,ev f G N (cY []) H=g H}
def t0{g:ko}(h:∀R H,ev f G N R H=B R H)(a:bL f=d:=by(conv=>lhs;whnf);try rfl)(ar:f.results.toList=rs:=by(conv=>lhs;whnf);try rfl)(e:bL f=d->f.results.toList=rs->∀H,B (cY []) H=g H:=by exact ja):∀H,ev f G N (cY []) H=g H:=λH=>(h _ H).trans (e a ar H)
def M1{g:ko}{zA:bQ}(h:∀R H,zA R H=B R H)(e:∀H,B (cY []) H=g H:=by intros;kernel_rfl):∀H,zA (cY []) H=g H:=λH=>(h _ H).trans (e H)
def F7{i:Nat}{S:aq->ko}(aC:P.funcs[i]? =A f)(he:∀G H,ev f G N (cY []) H=S G H)(b:∀a H,aG i a H=none:=by intros;kernel_rfl)(c:f.body=A (bL f):=by first|kernel_rfl)(d:gY f.ntmps (bL f)=true:=by first|kernel_rfl)(aL:Nat.ble 0 f.ntmps=true:=by first|kernel_rfl) ⦃H Q⦄(h:W (S (aK P aG) H) Q):W (aK P aG i [] H) Q:=r6 (λ_ h=>q2 (b _ _) aC c d aL ((he _ H).trans h)) h
abbrev fM(f:Func)(G:aq)(N:Nat):={g:T1 // ∀a H,ev f G N (cY [a]) H=g a H}
abbrev g5(f:Func)(G:aq):={g:T1 // ∀N a H,ev f G N (cY [a]) H=g a H}
def t1{g:T1}(h:∀R H,ev f G N R H=B R H)(b:bL f=d:=by(conv=>lhs;whnf);try rfl)(ar:f.results.toList=rs:=by(conv=>lhs;whnf);try rfl)(e:bL f=d->f.results.toList=rs->∀a H,B (cY [a]) H=g a H:=by exact ja):∀a H,ev f G N (cY [a]) H=g a H:=λa H=>(h _ H).trans (e b ar a H)
def zr{g:T1}{zA:bQ}(h:∀R H,zA R H=B R H)(e:∀a H,B (cY [a]) H=g a H:=by intros;kernel_rfl):∀a H,zA (cY [a]) H=g a H:=λa H=>(h _ H).trans (e a H)
def en{i:Nat}{S:aq->T1}(aC:P.funcs[i]? =A f)(he:∀G b H,ev f G N (cY [b]) H=S G b H)(c:∀a H,aG i a H=none:=by intros;kernel_rfl)(d:f.body=A (bL f):=by first|kernel_rfl)(e:gY f.ntmps (bL f)=true:=by first|kernel_rfl)(aL:Nat.ble 1 f.ntmps=true:=by first|kernel_rfl) ⦃b H Q⦄(h:W (S (aK P aG) b H) Q):W (aK P aG i [b] H) Q:=r6 (λ_ h=>q2 (c _ _) aC d e aL ((he _ b H).trans h)) h
abbrev fW(f:Func)(G:aq)(N:Nat):={g:T2 // ∀a x1 H,ev f G N (cY [a,x1]) H=g a x1 H}
abbrev eO(f:Func)(G:aq):={g:T2 // ∀N a x1 H,ev f G N (cY [a,x1]) H=g a x1 H}
def t2{g:T2}(h:∀R H,ev f G N R H=B R H)(b:bL f=d:=by(conv=>lhs;whnf);try rfl)(ar:f.results.toList=rs:=by(conv=>lhs;whnf);try rfl)(e:bL f=d->f.results.toList=rs->∀a x1 H,B (cY [a,x1]) H=g a x1 H:=by exact ja):∀a x1 H,ev f G N (cY [a,x1]) H=g a x1 H:=λa x1 H=>(h _ H).trans (e b ar a x1 H)
def M3{g:T2}{zA:bQ}(h:∀R H,zA R H=B R H)(e:∀a x1 H,B (cY [a,x1]) H=g a x1 H:=by intros;kernel_rfl):∀a x1 H,zA (cY [a,x1]) H=g a x1 H:=λa x1 H=>(h _ H).trans (e a x1 H)
def c1{i:Nat}{S:aq->T2}(aC:P.funcs[i]? =A f)(he:∀G b x1 H,ev f G N (cY [b,x1]) H=S G b x1 H)(c:∀a H,aG i a H=none:=by intros;kernel_rfl)(d:f.body=A (bL f):=by first|kernel_rfl)(e:gY f.ntmps (bL f)=true:=by first|kernel_rfl)(aL:Nat.ble 2 f.ntmps=true:=by first|kernel_rfl) ⦃b x1 H Q⦄(h:W (S (aK P aG) b x1 H) Q):W (aK P aG i [b,x1] H) Q:=r6 (λ_ h=>q2 (c _ _) aC d e aL ((he _ b x1 H).trans h)) h
abbrev m_(f:Func)(G:aq)(N:Nat):={g:b6 // ∀a x1 x2 H,ev f G N (cY [a,x1,x2]) H=g a x1 x2 H}
abbrev jH(f:Func)(G:aq):={g:b6 // ∀N a x1 x2 H,ev f G N (cY [a,x1,x2]) H=g a x1 x2 H}
def t3{g:b6}(h:∀R H,ev f G N R H=B R H)(b:bL f=d:=by(conv=>lhs;whnf);try rfl)(ar:f.results.toList=rs:=by(conv=>lhs;whnf);try rfl)(e:bL f=d->f.results.toList=rs->∀a x1 x2 H,B (cY [a,x1,x2]) H=g a x1 x2 H:=by exact ja):∀a x1 x2 H,ev f G N (cY [a,x1,x2]) H=g a x1 x2 H:=λa x1 x2 H=>(h _ H).trans (e b ar a x1 x2 H)
def M4{g:b6}{zA:bQ}(h:∀R H,zA R H=B R H)(e:∀a x1 x2 H,B (cY [a,x1,x2]) H=g a x1 x2 H:=by intros;kernel_rfl):∀a x1 x2 H,zA (cY [a,x1,x2]) H=g a x1 x2 H:=λa x1 x2 H=>(h _ H).trans (e a x1 x2 H)
def hC{i:Nat}{S:aq->b6}(aC:P.funcs[i]? =A f)(he:∀G b x1 x2 H,ev f G N (cY [b,x1,x2]) H=S G b x1 x2 H)(c:∀a H,aG i a H=none:=by intros;kernel_rfl)(d:f.body=A (bL f):=by first|kernel_rfl)(e:gY f.ntmps (bL f)=true:=by first|kernel_rfl)(aL:Nat.ble 3 f.ntmps=true:=by first|kernel_rfl) ⦃b x1 x2 H Q⦄(h:W (S (aK P aG) b x1 x2 H) Q):W (aK P aG i [b,x1,x2] H) Q:=r6 (λ_ h=>q2 (c _ _) aC d e aL ((he _ b x1 x2 H).trans h)) h
abbrev DF(f:Func)(G:aq)(N:Nat):={g:cg // ∀a x1 x2 x3 H,ev f G N (cY [a,x1,x2,x3]) H=g a x1 x2 x3 H}
abbrev r7(f:Func)(G:aq):={g:cg // ∀N a x1 x2 x3 H,ev f G N (cY [a,x1,x2,x3]) H=g a x1 x2 x3 H}
def t4{g:cg}(h:∀R H,ev f G N R H=B R H)(b:bL f=d:=by(conv=>lhs;whnf);try rfl)(ar:f.results.toList=rs:=by(conv=>lhs;whnf);try rfl)(e:bL f=d->f.results.toList=rs->∀a x1 x2 x3 H,B (cY [a,x1,x2,x3]) H=g a x1 x2 x3 H:=by exact ja):∀a x1 x2 x3 H,ev f G N (cY [a,x1,x2,x3]) H=g a x1 x2 x3 H:=λa x1 x2 x3 H=>(h _ H).trans (e b ar a x1 x2 x3 H)
def aaf{g:cg}{zA:bQ}(h:∀R H,zA R H=B R H)(e:∀a x1 x2 x3 H,B (cY [a,x1,x2,x3]) H=g a x1 x2 x3 H:=by intros;kernel_rfl):∀a x1 x2 x3 H,zA (cY [a,x1,x2,x3]) H=g a x1 x2 x3 H:=λa x1 x2 x3 H=>(h _ H).trans (e a x1 x2 x3 H)
def om{i:Nat}{S:aq->cg}(aC:P.funcs[i]? =A f)(he:∀G b x1 x2 x3 H,ev f G N (cY [b,x1,x2,x3]) H=S G b x1 x2 x3 H)(c:∀a H,aG i a H=none:=by intros;kernel_rfl)(d:f.body=A (bL f):=by first|kernel_rfl)(e:gY f.ntmps (bL f)=true:=by first|kernel_rfl)(aL:Nat.ble 4 f.ntmps=true:=by first|kernel_rfl) ⦃b x1 x2 x3 H Q⦄(h:W (S (aK P aG) b x1 x2 x3 H) Q):W (aK P aG i [b,x1,x2,x3] H) Q:=r6 (λ_ h=>q2 (c _ _) aC d e aL ((he _ b x1 x2 x3 H).trans h)) h
abbrev Ji(f:Func)(G:aq):={g:cx // ∀N a x1 x2 x3 x4 H,ev f G N (cY [a,x1,x2,x3,x4]) H=g a x1 x2 x3 x4 H}
def t5{g:cx}(h:∀R H,ev f G N R H=B R H)(b:bL f=d:=by(conv=>lhs;whnf);try rfl)(ar:f.results.toList=rs:=by(conv=>lhs;whnf);try rfl)(e:bL f=d->f.results.toList=rs->∀a x1 x2 x3 x4 H,B (cY [a,x1,x2,x3,x4]) H=g a x1 x2 x3 x4 H:=by exact ja):∀a x1 x2 x3 x4 H,ev f G N (cY [a,x1,x2,x3,x4]) H=g a x1 x2 x3 x4 H:=λa x1 x2 x3 x4 H=>(h _ H).trans (e b ar a x1 x2 x3 x4 H)
def PW{i:Nat}{S:aq->cx}(aC:P.funcs[i]? =A f)(he:∀G b x1 x2 x3 x4 H,ev f G N (cY [b,x1,x2,x3,x4]) H=S G b x1 x2 x3 x4 H)(c:∀a H,aG i a H=none:=by intros;kernel_rfl)(d:f.body=A (bL f):=by first|kernel_rfl)(e:gY f.ntmps (bL f)=true:=by first|kernel_rfl)(aL:Nat.ble 5 f.ntmps=true:=by first|kernel_rfl) ⦃b x1 x2 x3 x4 H Q⦄(h:W (S (aK P aG) b x1 x2 x3 x4 H) Q):W (aK P aG i [b,x1,x2,x3,x4] H) Q:=r6 (λ_ h=>q2 (c _ _) aC d e aL ((he _ b x1 x2 x3 x4 H).trans h)) h
end
section
variable {G:aq}{N:Nat}{b7 fV:bQ}{b2:List (Nat×bQ)}{c:Code}
def an:∀R H,bS P G N c b7 b2 fV R H=bS P G N c b7 b2 fV R H:=ajH c
def ak{k T:bQ}(a:∀R H,bS P G N c.aa b7 b2 fV R H=k R H)(aE:∀R H,bS P G N c.aj k b2 fV R H=T R H)(aA:c.MB=true:=by first|kernel_rfl):∀R H,bS P G N c b7 b2 fV R H=T R H:=ajJ aA a aE
def c4{zA B:bQ}(a:∀R H,bS P G N c.aj b7 b2 fV R H=zA R H)(b:∀R H,bS P G N c.aa b7 b2 fV R H=B R H)(aA:c.Mv=true:=by first|kernel_rfl):∀R H,bS P G N c b7 b2 fV R H=ep (bm R c.test) (zA R H) (B R H):=ajG aA a b
def bj{T:bQ}(a:∀R H,bS P G N c.aj b7 ((c.num,b7)::b2) fV R H=T R H)(aA:c.Mu=true:=by first|kernel_rfl):∀R H,bS P G N c b7 b2 fV R H=T R H:=ajF aA a
def bH{k:Nat->bQ}(b:∀n R H,bS P G N c.aj (k n) b2 fV R H=k (n+1) R H)(a:∀R H,k 0 R H=none:=by intro R H;kernel_rfl)(aA:c.My=true:=by first|kernel_rfl):∀R H,bS P G N c b7 b2 fV R H=k N R H:=ajI aA a b
end
end
section
set_option maxRecDepth 100000
section
variable {G:aq}{ops:Array Oper}{R:bo}{H:ae}
def K2(ops:Array Oper):Bool:= !zU ops&&((qa ops (order ops)).isNone&& !quiet ops)
def K1(ops:Array Oper):Bool:= !zU ops&&((qa ops (order ops)).isNone&&quiet ops)
def ac1{k:bo->ae->O}(h:K2 ops=J):mM P G ops J R H k=jM P G ops (order ops) R H λT bl H'=>bif jj (cJ ops) (hV ops) T H then k bl H' else none:=by
 unfold K2 at h;simp only[Bool.and_eq_true,Bool.not_eq_true',Option.isNone_iff_eq_none]at h;unfold mM;rw[h.2.1,h.2.2];rfl
def ac0{k:bo->ae->O}(h:K1 ops=J):mM P G ops J R H k=jM P G ops (order ops) R H λ_ bl H'=>k bl H':=by
 unfold K1 at h;simp only[Bool.and_eq_true,Bool.not_eq_true',Option.isNone_iff_eq_none]at h;unfold mM;rw[h.2.1,h.2.2];rfl
variable {i j:Nat}{is:List Nat}{ky:List fr->bo->ae->O}{q:K->af->ae->O}{o:Op}
noncomputable def Ea(G:aq)(ops:Array Oper)(o:Option Oper)(i:Nat)(is:List Nat)(R:bo)(H:ae)(k:List fr->bo->ae->O):O:=match o with
 |none=>Z
 |some o=>mj P G ops o R H λx=>jM P G ops is (dG R o.dst x.val) (x.heap H) λT bl H'=>k (⟨i,x,hy P o.op R⟩::T) bl H'
def Vb:jM P G ops [] R H ky=ky [] R H:=rfl
def U_:jM P G ops (i::is) R H ky=Ea G ops ops[i]? i is R H ky:=rfl
noncomputable def j1(G:aq)(o:Op)(R:bo)(H:ae)(q:K->af->ae->O):O:=dA P G o R H λx=>q x x.val (x.heap H)
variable {d:Option Nat}{t:TypeId}{p:String}{a:Array Edge}{w:Bool}
def Vc:Ea G ops (A ⟨d,o,t,p,a,Z⟩) i is R H ky=j1 G o R H λx v h=>jM P G ops is (dG R d v) h λT bl H'=>ky (⟨i,x,hy P o R⟩::T) bl H':=rfl
def Va:Ea G ops (A ⟨d,o,t,p,a,A (j,w)⟩) i is R H ky=ca (sC ops j R) w (gn P G o R H) λx=>jM P G ops is (dG R d x.val) (x.heap H) λT bl H'=>ky (⟨i,x,hy P o R⟩::T) bl H':=by
 rw[<-R8];show mj P G ops ⟨d,o,t,p,a,A (j,w)⟩ R H _=_;simp only[mj,sC];cases ops[j]? with
 |none=>rfl
 |some q=>
  obtain⟨b,_,_,_,_,_⟩:=q;cases b<;>rfl
def MA(o:Op):Bool:=match cls o with| .pure=>J|_=>I
def Mw(o:Op):Bool:=match cls o with| .write=>(match o with| .store _ _ _=>I|_=>J)| .call=>J|_=>I
def Mx(o:Op):Bool:=match cls o with| .read=>J|_=>I
def ahh(h:MA o=J):j1 G o R H q=eH P G o R H λv _=>q (.pure v) v H:=by
 rw[<-step_eq];unfold MA at h;split at h
 ·rename_i aA;unfold j1 dA;rw[aA];rfl
 ·cases h
def ahf(h:Mx o=J):j1 G o R H q=eH P G o R H λv _=>q (.read v) v H:=by
 rw[<-step_eq];unfold Mx at h;split at h
 ·rename_i aA;unfold j1 dA;rw[aA];rfl
 ·cases h
def ahe(h:Mw o=J):j1 G o R H q=eH P G o R H λv h=>q (.cR v h) v h:=by
 rw[<-step_eq];unfold Mw at h;split at h
 ·rename_i aA;unfold j1 dA;rw[aA];rfl
 ·rename_i aA;unfold j1 dA;rw[aA];cases o<;>first|rfl|skip
 ·cases h
variable {x y z:Operand}{b:Builtin}{se:Array Operand}{ts:Array Nat}{n m:Nat}{dk:Array (Nat×Operand)}
def ahi:j1 G (.store t x y) R H q=(bm R x).bind λu=>(bm R y).bind λv=>rS H (cr P H t u v) λw h=>q (.cR w h) w h:=by
 show dA P G (.store t x y) R H (λx=>q x x.val (x.heap H))=_;unfold dA rS eb ea;show(match k2 P (.store t x y) R H with|some (v,H')=>bif decide (H.next<=H'.next)then q (.cR v H') v H' else Z|none=>Z)=_;simp only[k2];cases bm R x with
 |none=>rfl
 |some u=>cases bm R y with
  |none=>rfl
  |some v=>simp only[Option.bind_some];cases cr P H t u v<;>rfl
def uL(b:Builtin):Bool:=match b with| .append=>I| .clear=>I|_=>J
def ahd(h:uL b=J):j1 G (.call ⟨.builtin b,se,ts⟩) R H q=(fl R se.toList).bind λak=>iM (bE P .empty b ts.toList ak) (bE P H b ts.toList ak) λk=>q k k.val (k.heap H):=by
 have aA:cls (.call ⟨.builtin b,se,ts⟩)= .both:=by cases b<;>first|rfl|cases h
 unfold j1 dA;rw[aA];simp only[hx,hy];cases fl R se.toList<;>rfl
def Mz(o:Op):Bool:=match cls o with| .new=>(match o with| .alloc _=>I|_=>J)|_=>I
def R2(h:cls o= .new):j1 G o R H q=oL H (iz P o R H.next) λv b h=>q (.new v b) v h:=by
 unfold j1 dA;rw[h];unfold jA oL;cases iz P o R H.next<;>rfl
def ahg(h:Mz o=J):j1 G o R H q=oL H (iz P o R H.next) λv b h=>q (.new v b) v h:=by
 unfold Mz at h;split at h
 ·rename_i aA;exact R2 aA
 ·cases h
noncomputable def Fx(G:aq)(t:TypeId)(l:Option (List af))(R:bo)(H:ae)(q:K->af->ae->O):O:=match l with
 |some cs=>e5 H cs λv h=>q (.new v (.row I (List.length cs) [cs])) v h
 |none=>j1 G (.alloc t) R H q
def ahc:j1 G (.alloc t) R H q=Fx G t (fC P t) R H q:=by
 cases h:fC P t with
 |none=>rfl
 |some cs=>
  rw[R2 rfl];unfold fC at h;split at h
  ·rename_i z ah ai;cases a:z.cells.all af.one<;>rw[a]at h
   ·cases h
   ·cases h;simp only[iz,ah,ai,Option.bind_some,mf,a,g8,oL,Fx,e5,eQ]
  ·cases h
def ahj{cs:List af}:Fx G t (A cs) R H q=e5 H cs λv h=>q (.new v (.row I (List.length cs) [cs])) v h:=rfl
def Yp:iz P (.box t x) R n=(bm R x).bind (mf (k9 P t) n):=rfl
def Yq:iz P (.buildSlice t m dk) R n=(iW R dk.toList).bind (gB P n t m):=rfl
def Yr:iz P (.makeSlice t x y) R n=(bm R x).bind λu=>(bm R y).bind λv=>gS (hL P ⟨.leaf,n⟩ t u v) n:=rfl
def Yz:hy P (.load t x) R=λH=>(bm R x).bind λu=>aI P H t u:=rfl
def Yy{ok:Bool}:hy P (.lookup t x y ok) R=λH=>(bm R x).bind λu=>(bm R y).bind λv=>l9 P H t u v ok:=rfl
def Yx:hy P (.call ⟨.builtin b,se,ts⟩) R=λH=>(fl R se.toList).bind λak=>bE P H b ts.toList ak:=rfl
def ZR(o:Op):Bool:=match o with| .load _ _=>I| .lookup _ _ _ _=>I| .convert _ _ _=>I| .call ⟨.builtin _,_,_⟩=>I|_=>J
def YA(h:ZR o=J):hy P o R=λ_=>none:=by
 funext H
 cases o<;>first|rfl|cases h|skip
 rename_i c;obtain⟨f,_,_⟩:=c;cases f<;>first|rfl|cases h
def ahX{cO:af->ae->O}{ok:Bool}{u v:TypeId}:eH P G (.typeAssert x u v ok) R H cO=aU ((bm R x).bind λz=>r8 P v ok z) λv=>cO v H:=rfl
def ahH{cO:af->ae->O}{ok:Bool}:eH P G (.lookup t x y ok) R H cO=aU ((bm R x).bind λu=>(bm R y).bind λv=>l9 P H t u v ok) λv=>cO v H:=rfl
variable {ms cN ids:List Nat}{T U:List fr}{v:af}{h:ae}{e:bz}{f:ae->Option af}{rd:ae->Bool}{s:Bool}{k:K}
def V9:jj ms cN T H=(hv ms T []&&jb ms cN T H T):=rfl
def UO(h:cz ms i j=J):cz ms i j=true:=h
def UN(h:cz ms i j=I):cz ms i j=false:=h
def Ww(h:cN.contains i=J):cN.contains i=true:=h
def Wv(h:cN.contains i=I):cN.contains i=false:=h
def Wh:hv ms [] ids=true:=rfl
def Wi:hv ms (⟨i,.pure v,f⟩::T) ids=hv ms T ids:=rfl
def Wj:hv ms (⟨i,.read v,f⟩::T) ids=hv ms T ids:=rfl
def Wf:hv ms (⟨i,.new v e,f⟩::T) ids=hv ms T (i::ids):=rfl
def Wg:hv ms (⟨i,.cR v h,f⟩::T) ids=(ids.all (λj=>cz ms j i)&&hv ms T (i::ids)):=rfl
def ajS:jb ms cN U H []=true:=rfl
def ajT:jb ms cN U H (⟨i,.pure v,f⟩::T)=jb ms cN U H T:=rfl
def ajQ:jb ms cN U H (⟨i,.new v e,f⟩::T)=jb ms cN U H T:=rfl
def ajR:jb ms cN U H (⟨i,.cR v h,f⟩::T)=jb ms cN U H T:=rfl
def ajU:jb ms cN U H (⟨i,.read v,f⟩::T)=((cN.contains i||rE ms (λH=>bF (f H) v) i U H)&&jb ms cN U H T):=rfl
def agp:rE ms rd i T H=(bif jN ms i T I then iq ms rd i T H||iZ ms rd i T H I else iq ms rd i T H):=rfl
def U2:jN ms i [] s=false:=rfl
def U3:jN ms i (⟨j,.pure v,f⟩::T) s=jN ms i T s:=rfl
def U4:jN ms i (⟨j,.read v,f⟩::T) s=jN ms i T s:=rfl
def U0:jN ms i (⟨j,.new v e,f⟩::T) s=((s&&cz ms j i&&T.all λu=>kB u.k)||jN ms i T (s|| !cz ms j i)):=rfl
def U1:jN ms i (⟨j,.cR v h,f⟩::T) s=jN ms i T (s|| !cz ms j i):=rfl
def ab0:kB (.pure v)=true:=rfl
def ab1:kB (.read v)=true:=rfl
def abY:kB (.new v e)=true:=rfl
def abZ:kB (.cR v h)=false:=rfl
def ajX:iq ms rd i [] H=rd H:=rfl
def ajY:iq ms rd i (⟨j,.pure v,f⟩::T) H=iq ms rd i T H:=rfl
def ajZ:iq ms rd i (⟨j,.read v,f⟩::T) H=iq ms rd i T H:=rfl
def ajV:iq ms rd i (⟨j,.new v e,f⟩::T) H=((cz ms j i||rd H)&&(cz ms i j||iq ms rd i T (H.push e))):=rfl
def ajW:iq ms rd i (⟨j,.cR v h,f⟩::T) H=((cz ms j i||rd H)&&(cz ms i j||iq ms rd i T h)):=rfl
def abR:iZ ms rd i [] H s=false:=rfl
def abS:iZ ms rd i (⟨j,.pure v,f⟩::T) H s=iZ ms rd i T H s:=rfl
def abT:iZ ms rd i (⟨j,.read v,f⟩::T) H s=iZ ms rd i T H s:=rfl
def abP:iZ ms rd i (⟨j,.new v e,f⟩::T) H s=(bif s&&cz ms j i&&T.all (λu=>kB u.k)then rd (H.push e).only||iZ ms rd i T (H.push e) (s|| !cz ms j i)else iZ ms rd i T (H.push e) (s|| !cz ms j i)):=rfl
def abQ:iZ ms rd i (⟨j,.cR v h,f⟩::T) H s=iZ ms rd i T h (s|| !cz ms j i):=rfl
def akc{r:Option (af×bz)}{k:af->ae->O}:oL H r (λv _ h=>k v h)=fe H r k:=by
 unfold oL fe;cases r<;>rfl
def akf{r:Option ae}{k:ae->O}:rS H r (λ_ h=>k h)=gp H r k:=rfl
end
def drawn:Code->List (Array Oper)
 | .seq a b=>drawn a++drawn b
 | .cond _ a b=>drawn a++drawn b
 | .block _ b=>drawn b
 | .loop b=>drawn b
 | .region _ ops J=>[ops]
 |_=>[]
def jl:List (Array Oper)->List (List Nat×List Nat×List Nat)->Prop
 |o::os,q::qs=>(order o=q.1/\cJ o=q.2.1/\hV o=q.2.2)/\jl os qs
 |_,_=>True
def j_:∀{L:List (Array Oper)},jl L (L.map λo=>(order o,cJ o,hV o))
 |[]=>trivial
 |_::_=>⟨⟨rfl,rfl,rfl⟩,j_⟩
end
section
set_option maxRecDepth 100000
def Ve:=ag (ag (ag (ag (ag @ac1 @ac0) (ag @Vb @U_)) (ag (ag @Vc @Va) (ag @ahh @ahf))) (ag (ag (ag @ahe @ahi) (ag @ahd @ahg)) (ag (ag @ahc @ahj) (ag @Yp @Yq)))) (ag (ag (ag (ag @Yr @Yz) (ag @Yy @Yx)) (ag (ag @YA @ahX) (ag @ahH @Jc))) (ag (ag (ag @Jd @Jb) (ag @Ja @I9)) (ag (ag @I_ @I8) (ag @I7 @List.getElem?_toArray.{0}))))
def kp:=ag (ag (ag (ag (ag @V9 (ag @UO @UN)) (ag @Ww (ag @Wv @Wh))) (ag (ag @Wi (ag @Wj @Wf)) (ag @Wg (ag @ajS @ajT)))) (ag (ag (ag @ajQ (ag @ajR @ajU)) (ag @agp (ag @U2 @U3))) (ag (ag @U4 (ag @U0 @U1)) (ag (ag @ab0 @ab1) (ag @abY @abZ))))) (ag (ag (ag (ag @ajX (ag @ajY @ajZ)) (ag @ajV (ag @ajW @abR))) (ag (ag @abS (ag @abT @abP)) (ag (ag @abQ @akc) (ag @akf @List.all_cons.{0})))) (ag (ag (ag @List.all_nil.{0} (ag @Bool.false_or @Bool.true_or)) (ag @Bool.or_true (ag @Bool.or_false @Bool.true_and))) (ag (ag @Bool.and_true (ag @Bool.false_and @Bool.and_false)) (ag (ag @Bool.not_true @Bool.not_false) (ag @g8 @oZ)))))
def kL{p:Prop}(h:p:=by intro a b q x;(try simp only[drawn,jl,List.append_nil,List.nil_append,List.cons_append,and_true]at q);intros;simp(maxSteps:=4000000) (disch:=try exact KV)only[KT,Kl,Ve,Nat.reduceEqDiff,reduceIte, *];rfl):p:=h
section
variable {f:Func}{G:aq}{N:Nat}{c d:Code}{b7 B:bQ}{b2:List (Nat×bQ)}{rs:List ResultVar}{L:List (List Nat×List Nat×List Nat)}{E:Prop}
def qA{g:T1}{i0:Nat}(h:∀R H,bS P G N c b7 b2 (a8 f) R H=B R H)(a:bL f=d:=by(conv=>lhs;whnf);try rfl)(ar:f.results.toList=rs:=by(conv=>lhs;whnf);try rfl)(aw:(drawn (bL f)).map (λo=>(order o,cJ o,hV o))=L:=by(conv=>lhs;cbv);try rfl)(x:E:=by exact kp)(e:bL f=d->f.results.toList=rs->jl (drawn d) L->E->∀b (R:bo) H,R i0=b->B R H=g b H:=by exact kL):∀R H,bS P G N c b7 b2 (a8 f) R H=g (R i0) H:=λR H=>(h R H).trans (e a ar (a▸aw▸j_) x _ R H rfl)
def hh{g:T2}{i0 i1:Nat}(h:∀R H,bS P G N c b7 b2 (a8 f) R H=B R H)(a:bL f=d:=by(conv=>lhs;whnf);try rfl)(ar:f.results.toList=rs:=by(conv=>lhs;whnf);try rfl)(aw:(drawn (bL f)).map (λo=>(order o,cJ o,hV o))=L:=by(conv=>lhs;cbv);try rfl)(x:E:=by exact kp)(e:bL f=d->f.results.toList=rs->jl (drawn d) L->E->∀b x1 (R:bo) H,R i0=b->R i1=x1->B R H=g b x1 H:=by exact kL):∀R H,bS P G N c b7 b2 (a8 f) R H=g (R i0) (R i1) H:=λR H=>(h R H).trans (e a ar (a▸aw▸j_) x _ _ R H rfl rfl)
def n2{g:b6}{i0 i1 i2:Nat}(h:∀R H,bS P G N c b7 b2 (a8 f) R H=B R H)(a:bL f=d:=by(conv=>lhs;whnf);try rfl)(ar:f.results.toList=rs:=by(conv=>lhs;whnf);try rfl)(aw:(drawn (bL f)).map (λo=>(order o,cJ o,hV o))=L:=by(conv=>lhs;cbv);try rfl)(x:E:=by exact kp)(e:bL f=d->f.results.toList=rs->jl (drawn d) L->E->∀b x1 x2 (R:bo) H,R i0=b->R i1=x1->R i2=x2->B R H=g b x1 x2 H:=by exact kL):∀R H,bS P G N c b7 b2 (a8 f) R H=g (R i0) (R i1) (R i2) H:=λR H=>(h R H).trans (e a ar (a▸aw▸j_) x _ _ _ R H rfl rfl rfl)
def lI{g:cg}{i0 i1 i2 i3:Nat}(h:∀R H,bS P G N c b7 b2 (a8 f) R H=B R H)(a:bL f=d:=by(conv=>lhs;whnf);try rfl)(ar:f.results.toList=rs:=by(conv=>lhs;whnf);try rfl)(aw:(drawn (bL f)).map (λo=>(order o,cJ o,hV o))=L:=by(conv=>lhs;cbv);try rfl)(x:E:=by exact kp)(e:bL f=d->f.results.toList=rs->jl (drawn d) L->E->∀b x1 x2 x3 (R:bo) H,R i0=b->R i1=x1->R i2=x2->R i3=x3->B R H=g b x1 x2 x3 H:=by exact kL):∀R H,bS P G N c b7 b2 (a8 f) R H=g (R i0) (R i1) (R i2) (R i3) H:=λR H=>(h R H).trans (e a ar (a▸aw▸j_) x _ _ _ _ R H rfl rfl rfl rfl)
def ng{g:cx}{i0 i1 i2 i3 i4:Nat}(h:∀R H,bS P G N c b7 b2 (a8 f) R H=B R H)(a:bL f=d:=by(conv=>lhs;whnf);try rfl)(ar:f.results.toList=rs:=by(conv=>lhs;whnf);try rfl)(aw:(drawn (bL f)).map (λo=>(order o,cJ o,hV o))=L:=by(conv=>lhs;cbv);try rfl)(x:E:=by exact kp)(e:bL f=d->f.results.toList=rs->jl (drawn d) L->E->∀b x1 x2 x3 x4 (R:bo) H,R i0=b->R i1=x1->R i2=x2->R i3=x3->R i4=x4->B R H=g b x1 x2 x3 x4 H:=by exact kL):∀R H,bS P G N c b7 b2 (a8 f) R H=g (R i0) (R i1) (R i2) (R i3) (R i4) H:=λR H=>(h R H).trans (e a ar (a▸aw▸j_) x _ _ _ _ _ R H rfl rfl rfl rfl rfl)
def o2{g:cy}{i0 i1 i2 i3 i4 i5:Nat}(h:∀R H,bS P G N c b7 b2 (a8 f) R H=B R H)(a:bL f=d:=by(conv=>lhs;whnf);try rfl)(ar:f.results.toList=rs:=by(conv=>lhs;whnf);try rfl)(aw:(drawn (bL f)).map (λo=>(order o,cJ o,hV o))=L:=by(conv=>lhs;cbv);try rfl)(x:E:=by exact kp)(e:bL f=d->f.results.toList=rs->jl (drawn d) L->E->∀b x1 x2 x3 x4 x5 (R:bo) H,R i0=b->R i1=x1->R i2=x2->R i3=x3->R i4=x4->R i5=x5->B R H=g b x1 x2 x3 x4 x5 H:=by exact kL):∀R H,bS P G N c b7 b2 (a8 f) R H=g (R i0) (R i1) (R i2) (R i3) (R i4) (R i5) H:=λR H=>(h R H).trans (e a ar (a▸aw▸j_) x _ _ _ _ _ _ R H rfl rfl rfl rfl rfl rfl)
def o3{g:ec}{i0 i1 i2 i3 i4 i5 i6:Nat}(h:∀R H,bS P G N c b7 b2 (a8 f) R H=B R H)(a:bL f=d:=by(conv=>lhs;whnf);try rfl)(ar:f.results.toList=rs:=by(conv=>lhs;whnf);try rfl)(aw:(drawn (bL f)).map (λo=>(order o,cJ o,hV o))=L:=by(conv=>lhs;cbv);try rfl)(x:E:=by exact kp)(e:bL f=d->f.results.toList=rs->jl (drawn d) L->E->∀b x1 x2 x3 x4 x5 x6 (R:bo) H,R i0=b->R i1=x1->R i2=x2->R i3=x3->R i4=x4->R i5=x5->R i6=x6->B R H=g b x1 x2 x3 x4 x5 x6 H:=by exact kL):∀R H,bS P G N c b7 b2 (a8 f) R H=g (R i0) (R i1) (R i2) (R i3) (R i4) (R i5) (R i6) H:=λR H=>(h R H).trans (e a ar (a▸aw▸j_) x _ _ _ _ _ _ _ R H rfl rfl rfl rfl rfl rfl rfl)
def Eo{g:hs}{i0 i1 i2 i3 i4 i5 i6 i7:Nat}(h:∀R H,bS P G N c b7 b2 (a8 f) R H=B R H)(a:bL f=d:=by(conv=>lhs;whnf);try rfl)(ar:f.results.toList=rs:=by(conv=>lhs;whnf);try rfl)(aw:(drawn (bL f)).map (λo=>(order o,cJ o,hV o))=L:=by(conv=>lhs;cbv);try rfl)(x:E:=by exact kp)(e:bL f=d->f.results.toList=rs->jl (drawn d) L->E->∀b x1 x2 x3 x4 x5 x6 x7 (R:bo) H,R i0=b->R i1=x1->R i2=x2->R i3=x3->R i4=x4->R i5=x5->R i6=x6->R i7=x7->B R H=g b x1 x2 x3 x4 x5 x6 x7 H:=by exact kL):∀R H,bS P G N c b7 b2 (a8 f) R H=g (R i0) (R i1) (R i2) (R i3) (R i4) (R i5) (R i6) (R i7) H:=λR H=>(h R H).trans (e a ar (a▸aw▸j_) x _ _ _ _ _ _ _ _ R H rfl rfl rfl rfl rfl rfl rfl rfl)
def We{g:jE}{i0 i1 i2 i3 i4 i5 i6 i7 i8:Nat}(h:∀R H,bS P G N c b7 b2 (a8 f) R H=B R H)(a:bL f=d:=by(conv=>lhs;whnf);try rfl)(ar:f.results.toList=rs:=by(conv=>lhs;whnf);try rfl)(aw:(drawn (bL f)).map (λo=>(order o,cJ o,hV o))=L:=by(conv=>lhs;cbv);try rfl)(x:E:=by exact kp)(e:bL f=d->f.results.toList=rs->jl (drawn d) L->E->∀b x1 x2 x3 x4 x5 x6 x7 x8 (R:bo) H,R i0=b->R i1=x1->R i2=x2->R i3=x3->R i4=x4->R i5=x5->R i6=x6->R i7=x7->R i8=x8->B R H=g b x1 x2 x3 x4 x5 x6 x7 x8 H:=by exact kL):∀R H,bS P G N c b7 b2 (a8 f) R H=g (R i0) (R i1) (R i2) (R i3) (R i4) (R i5) (R i6) (R i7) (R i8) H:=λR H=>(h R H).trans (e a ar (a▸aw▸j_) x _ _ _ _ _ _ _ _ _ R H rfl rfl rfl rfl rfl rfl rfl rfl rfl)
def Wd{g:jf}{i0 i1 i2 i3 i4 i5 i6 i7 i8 i9:Nat}(h:∀R H,bS P G N c b7 b2 (a8 f) R H=B R H)(a:bL f=d:=by(conv=>lhs;whnf);try rfl)(ar:f.results.toList=rs:=by(conv=>lhs;whnf);try rfl)(aw:(drawn (bL f)).map (λo=>(order o,cJ o,hV o))=L:=by(conv=>lhs;cbv);try rfl)(x:E:=by exact kp)(e:bL f=d->f.results.toList=rs->jl (drawn d) L->E->∀b x1 x2 x3 x4 x5 x6 x7 x8 x9 (R:bo) H,R i0=b->R i1=x1->R i2=x2->R i3=x3->R i4=x4->R i5=x5->R i6=x6->R i7=x7->R i8=x8->R i9=x9->B R H=g b x1 x2 x3 x4 x5 x6 x7 x8 x9 H:=by exact kL):∀R H,bS P G N c b7 b2 (a8 f) R H=g (R i0) (R i1) (R i2) (R i3) (R i4) (R i5) (R i6) (R i7) (R i8) (R i9) H:=λR H=>(h R H).trans (e a ar (a▸aw▸j_) x _ _ _ _ _ _ _ _ _ _ R H rfl rfl rfl rfl rfl rfl rfl rfl rfl rfl)
def o1{g:T1}(h:∀R H,ev f G N R H=B R H)(b:bL f=d:=by(conv=>lhs;whnf);try rfl)(ar:f.results.toList=rs:=by(conv=>lhs;whnf);try rfl)(aw:(drawn (bL f)).map (λo=>(order o,cJ o,hV o))=L:=by(conv=>lhs;cbv);try rfl)(x:E:=by exact kp)(e:bL f=d->f.results.toList=rs->jl (drawn d) L->E->∀a H,B (cY [a]) H=g a H:=by exact kL):∀a H,ev f G N (cY [a]) H=g a H:=λa H=>(h _ H).trans (e b ar (b▸aw▸j_) x a H)
def qz{g:T2}(h:∀R H,ev f G N R H=B R H)(b:bL f=d:=by(conv=>lhs;whnf);try rfl)(ar:f.results.toList=rs:=by(conv=>lhs;whnf);try rfl)(aw:(drawn (bL f)).map (λo=>(order o,cJ o,hV o))=L:=by(conv=>lhs;cbv);try rfl)(x:E:=by exact kp)(e:bL f=d->f.results.toList=rs->jl (drawn d) L->E->∀a x1 H,B (cY [a,x1]) H=g a x1 H:=by exact kL):∀a x1 H,ev f G N (cY [a,x1]) H=g a x1 H:=λa x1 H=>(h _ H).trans (e b ar (b▸aw▸j_) x a x1 H)
def uA{g:b6}(h:∀R H,ev f G N R H=B R H)(b:bL f=d:=by(conv=>lhs;whnf);try rfl)(ar:f.results.toList=rs:=by(conv=>lhs;whnf);try rfl)(aw:(drawn (bL f)).map (λo=>(order o,cJ o,hV o))=L:=by(conv=>lhs;cbv);try rfl)(x:E:=by exact kp)(e:bL f=d->f.results.toList=rs->jl (drawn d) L->E->∀a x1 x2 H,B (cY [a,x1,x2]) H=g a x1 x2 H:=by exact kL):∀a x1 x2 H,ev f G N (cY [a,x1,x2]) H=g a x1 x2 H:=λa x1 x2 H=>(h _ H).trans (e b ar (b▸aw▸j_) x a x1 x2 H)
def Wc{g:cg}(h:∀R H,ev f G N R H=B R H)(b:bL f=d:=by(conv=>lhs;whnf);try rfl)(ar:f.results.toList=rs:=by(conv=>lhs;whnf);try rfl)(aw:(drawn (bL f)).map (λo=>(order o,cJ o,hV o))=L:=by(conv=>lhs;cbv);try rfl)(x:E:=by exact kp)(e:bL f=d->f.results.toList=rs->jl (drawn d) L->E->∀a x1 x2 x3 H,B (cY [a,x1,x2,x3]) H=g a x1 x2 x3 H:=by exact kL):∀a x1 x2 x3 H,ev f G N (cY [a,x1,x2,x3]) H=g a x1 x2 x3 H:=λa x1 x2 x3 H=>(h _ H).trans (e b ar (b▸aw▸j_) x a x1 x2 x3 H)
end
end
section
set_option maxRecDepth 100000
set_option maxHeartbeats 4000000
noncomputable section
def w8(G:aq):g5 Tryz.f43 G:=⟨λa H=>aU (bx P .eql 30 J a af.ao) λx4=>ep (A x4) (A (af.ao,H)) (fe H (A (.az (H).next 0 0 1 (A 0),.row I 1 [])) λx5 ah=>ea ah (eA P ah [30,30] x5 a) λx7 ai=>A (x7,ai)),λN=>zr an⟩
def afe(N:Nat):=en Tryz.func43 λG=>(w8 G).2 N
def H4(G:aq)(N:Nat):eJ 6 Tryz.f79 G N (·.aa.aa.aa.aa.aa) (a8 Tryz.f79) []:=⟨_,v1 an⟩
def H2(G:aq)(N:Nat)(L2:cg):dI 6 25 26 27 Tryz.f79 G N (·.aa.aa.aa.aa.aj.aa.aj.aj) (bI L2 6 25 26 27) [(2,(a1 (H4 G N) 6))]:=⟨_,v4 an⟩
def H5(G:aq)(N:Nat):Nat->cg
 |0=>fq
 |n+1=>H2 G N (H5 G N n)
def xr(G:aq)(N:Nat):gG 0 3 Tryz.f79 G N (·.aa.aa.aa) (a8 Tryz.f79) []:=⟨_,v2 (ak (ak ((H4 G N).2) (ak (bj (bH (λm=>(H2 G N (H5 G N m)).2))) an)) an)⟩
def Cs(G:aq)(N:Nat)(L3:cx):eY 0 3 9 10 11 Tryz.f79 G N (·.aa.aa.aj.aa.aj.aj.aa.aa.aa) (bY L3 0 3 9 10 11) [(0,(bd (xr G N) 0 3))]:=⟨_,v5 an⟩
def H3(G:aq)(N:Nat)(L3:cx):eY 0 3 9 10 11 Tryz.f79 G N (·.aa.aa.aj.aa.aj.aj) (bY L3 0 3 9 10 11) [(0,(bd (xr G N) 0 3))]:=⟨λa x3 x9 x10 x11 H=>aU (bx P .lss 3 I x11 x10) λx12=>ep (A x12) (aU (ct P 198 x9 x11) λc=>aU (aI P H 53 c) λd=>eM P .len [53] [d] H λe=>aU (bx P .add 3 I x3 e) λb=>aU (bx P .lss 3 J b (.int .i64 0)) λf=>ep (A f) (aU (nW P 9 (.str [108,101,110,32,111,117,116,32,111,102,32,114,97,110,103,101])) λg=>aU ((Z:Option af)) λy=>Cs G N L3 a b x9 x10 x11 H) (Cs G N L3 a b x9 x10 x11 H)) (xr G N a x3 H),cO (ak (ak (ak ((Cs G N L3).2) an) an) an)⟩
def H6(G:aq)(N:Nat):Nat->cx
 |0=>hH
 |n+1=>H3 G N (H6 G N n)
def HZ(G:aq)(N:Nat):fM Tryz.f79 G N:=⟨_,t1 (ak (ak (ak ((xr G N).2) (ak (bj (bH (λm=>(H3 G N (H6 G N m)).2))) an)) an) an)⟩
def afx(N:Nat):=en Tryz.func79 λG=>(HZ G N).2
def Cv(G:aq)(N:Nat):hJ Tryz.f81 G N (·.aa.aa.aa) (a8 Tryz.f81) []:=⟨_,v0 an⟩
def Cu(G:aq)(N:Nat)(L1:cg):dI 0 1 12 13 Tryz.f81 G N (·.aa.aa.aj.aa.aj.aj) (bI L1 0 1 12 13) [(0,(br (Cv G N)))]:=⟨_,v4 an⟩
def xu(G:aq)(N:Nat):Nat->cg
 |0=>fq
 |n+1=>Cu G N (xu G N n)
def tG(G:aq)(N:Nat):fW Tryz.f81 G N:=⟨_,t2 (ak (ak (ak ((Cv G N).2) (ak (bj (bH (λm=>(Cu G N (xu G N m)).2))) an)) an) an)⟩
def afz(N:Nat):=c1 Tryz.func81 λG=>(tG G N).2
def Ij(G:aq):eO Tryz.f94 G:=⟨_,λN=>t2 an⟩
def afM(N:Nat):=c1 Tryz.func94 λG=>(Ij G).2 N
def Il(G:aq):eO Tryz.f99 G:=⟨_,λN=>t2 an⟩
def afO(N:Nat):=c1 Tryz.func99 λG=>(Il G).2 N
def Gt(G:aq):h_ 0 Tryz.f133 G (·.aa.aa.aa) (a8 Tryz.f133) []:=⟨_,λN=>v1 an⟩
def Gs(G:aq):r3 0 1 Tryz.f133 G (·.aa.aa) (a8 Tryz.f133) []:=⟨_,λN=>v2 (ak ((Gt G).2 N) an)⟩
def AU(G:aq):eO Tryz.f133 G:=⟨_,λN=>t2 (ak (ak ((Gs G).2 N) an) an)⟩
def adU(N:Nat):=c1 Tryz.func133 λG=>(AU G).2 N
def AW(G:aq)(N:Nat):hJ Tryz.f134 G N (·.aa.aa) (a8 Tryz.f134) []:=⟨_,v0 an⟩
def AV(G:aq)(N:Nat)(L1:cg):dI 0 1 7 8 Tryz.f134 G N (·.aa.aj.aa.aj.aj) (bI L1 0 1 7 8) [(0,(br (AW G N)))]:=⟨_,v4 an⟩
def vJ(G:aq)(N:Nat):Nat->cg
 |0=>fq
 |n+1=>AV G N (vJ G N n)
def vI(G:aq)(N:Nat):fW Tryz.f134 G N:=⟨_,t2 (ak (ak ((AW G N).2) (ak (bj (bH (λm=>(AV G N (vJ G N m)).2))) an)) an)⟩
def adV(N:Nat):=c1 Tryz.func134 λG=>(vI G N).2
def GA(G:aq)(N:Nat):hJ Tryz.f146 G N (·.aa.aa) (a8 Tryz.f146) []:=⟨_,v0 an⟩
def A9(G:aq)(N:Nat)(L1:cg):dI 0 1 7 8 Tryz.f146 G N (·.aa.aj.aa.aj.aj) (bI L1 0 1 7 8) [(0,(br (GA G N)))]:=⟨_,v4 an⟩
def vV(G:aq)(N:Nat):Nat->cg
 |0=>fq
 |n+1=>A9 G N (vV G N n)
def Gz(G:aq)(N:Nat):fW Tryz.f146 G N:=⟨_,t2 (ak (ak ((GA G N).2) (ak (bj (bH (λm=>(A9 G N (vV G N m)).2))) an)) an)⟩
def ad4(N:Nat):=c1 Tryz.func146 λG=>(Gz G N).2
def GO(G:aq):eO Tryz.f177 G:=⟨_,λN=>t2 an⟩
def aei(N:Nat):=c1 Tryz.func177 λG=>(GO G).2 N
def Ha(G:aq)(N:Nat):hJ Tryz.f219 G N (·.aa.aa) (a8 Tryz.f219) []:=⟨_,v0 an⟩
def Bw(G:aq)(N:Nat)(L1:cg):dI 0 1 7 8 Tryz.f219 G N (·.aa.aj.aa.aj.aj) (bI L1 0 1 7 8) [(0,(br (Ha G N)))]:=⟨_,v4 an⟩
def wv(G:aq)(N:Nat):Nat->cg
 |0=>fq
 |n+1=>Bw G N (wv G N n)
def G_(G:aq)(N:Nat):fW Tryz.f219 G N:=⟨_,t2 (ak (ak ((Ha G N).2) (ak (bj (bH (λm=>(Bw G N (wv G N m)).2))) an)) an)⟩
def aeC(N:Nat):=c1 Tryz.func219 λG=>(G_ G N).2
def Hu(G:aq):eO Tryz.f252 G:=⟨_,λN=>t2 an⟩
def aeY(N:Nat):=c1 Tryz.func252 λG=>(Hu G).2 N
def Hy(G:aq)(N:Nat):hJ Tryz.f261 G N (·.aa.aa) (a8 Tryz.f261) []:=⟨_,v0 an⟩
def BH(G:aq)(N:Nat)(L1:cg):dI 0 1 7 8 Tryz.f261 G N (·.aa.aj.aa.aj.aj) (bI L1 0 1 7 8) [(0,(br (Hy G N)))]:=⟨_,v4 an⟩
def wM(G:aq)(N:Nat):Nat->cg
 |0=>fq
 |n+1=>BH G N (wM G N n)
def Hx(G:aq)(N:Nat):fW Tryz.f261 G N:=⟨_,t2 (ak (ak ((Hy G N).2) (ak (bj (bH (λm=>(BH G N (wM G N m)).2))) an)) an)⟩
def ae3(N:Nat):=c1 Tryz.func261 λG=>(Hx G N).2
def af7(G:aq):g5 Tryz.f41 G:=⟨_,λN=>t1 an⟩
def af8(G:aq):g5 Tryz.f42 G:=⟨_,λN=>t1 an⟩
def Rx(G:aq)(N:Nat)(L0:cg):dI 0 5 6 7 Tryz.f97 G N (·.aa.aj.aj) (bI L0 0 5 6 7) [(0,(a8 Tryz.f97))]:=⟨_,v4 an⟩
def Ry(G:aq)(N:Nat):Nat->cg
 |0=>fq
 |n+1=>Rx G N (Ry G N n)
def agd(G:aq)(N:Nat):fW Tryz.f97 G N:=⟨_,t2 (ak (bj (bH (λm=>(Rx G N (Ry G N m)).2))) an)⟩
end
end
section
set_option maxRecDepth 2000
def aN:eS Int:=⟨1,λ_ _ n cs=>cs=[.int .i64 n],by rintro _ _ _ _ rfl;exact⟨rfl,rfl⟩,λ_ h=>h⟩
def Dy:eS Bool:=⟨1,λ_ _ b cs=>cs=[.bool b],by rintro _ _ _ _ rfl;exact⟨rfl,rfl⟩,λ_ h=>h⟩
def bu{α:Type}(K:eS α):eS (List α):=⟨1,λH ok l cs=>∃v,cs=[v]/\aH K H ok l v,by
 rintro _ _ _ _ ⟨v,rfl,h⟩;exact⟨rfl,by simp[h.one]⟩,by
 rintro _ _ _ _ _ _ p ⟨v,rfl,h⟩;exact⟨v,rfl,h.keep p⟩⟩
theorem b0:fa 30 3 1:=⟨aF,aF,⟨8,aF,bZ⟩,⟨.int .i64 0,aF,rfl,rfl⟩,bZ⟩
theorem dP:fa 31 30 1:=⟨aF,aF,⟨24,aF,bZ⟩,⟨.ao,aF,rfl,rfl⟩,bZ⟩
theorem pn:fa 104 4 1:=⟨aF,aF,⟨1,aF,bZ⟩,⟨.bool I,aF,rfl,rfl⟩,bZ⟩
section
variable {H:ae}{ok:Nat->Prop}
def aH.int{l:List Int}{v:af}(h:aH aN H ok l v){j:Int}{a:Int}(b:0<=j)(c:l[j.toNat]? =A a):∃p,ct P 30 v (.int .i64 j)=A p/\aI P H 3 p=A (.int .i64 a):=by
 obtain⟨p,cs,ah,ai,ax⟩:=aH.val (K:=aN) b0 rO h b c;exact⟨p,ah,by rw[ai,show cs=[_]from ax];rfl⟩
def aH.bool{l:List Bool}{v:af}(h:aH Dy H ok l v){j:Int}{a:Bool}(b:0<=j)(c:l[j.toNat]? =A a):∃p,ct P 104 v (.int .i64 j)=A p/\aI P H 4 p=A (.bool a):=by
 obtain⟨p,cs,ah,ai,ax⟩:=aH.val (K:=Dy) pn Dh h b c;exact⟨p,ah,by rw[ai,show cs=[_]from ax];rfl⟩
theorem aH.list{l:List (List Int)}{v:af}(h:aH (bu aN) H ok l v){j:Int}{a:List Int}(b:0<=j)(c:l[j.toNat]? =A a):∃p w,ct P 31 v (.int .i64 j)=A p/\aI P H 30 p=A w/\aH aN H ok a w:=by
 obtain⟨p,cs,ah,ai,w,rfl,ax⟩:=aH.val (K:=bu aN) dP yn h b c;grind
theorem fB{k:Nat}(h:k<=1000000000):IntKind.i64.wrap ((k:Int)+1)=((k+1:Nat):Int):=by grind[wrap_i64]
def pb(l:List Int)(a:Int):Int:=if a∈l then(l.idxOf a:Int)else-1
theorem Mo{l:List Int}{v:af}{a:Int}(h:aH aN H ok l v)(b:l.length<=1000000000){N:Nat}:∀(j k m:Nat),k+j=l.length->j<m->a∉l.take k->W (vJ (aK P aG) N m v (.int .i64 a) (.int .i64 l.length) (.int .i64 k) H) λr H'=>r= .int .i64 (pb l a)/\H'=H
 |_,_,0,_,hm,_=>ad
 |0,k,m+1,c,_,aL=>by
  have g:¬(k:Int)<(l.length:Int):=ad;refine cv @AW.eq_1 @AV.eq_1 @vJ.eq_2 @vI.eq_1 ?_;grind[aD,pb]
 |j+1,k,m+1,c,hm,aL=>by
  have i:k<l.length:=ad;obtain⟨p,e,f⟩:=h.int (j:=(k:Int)) (a:=l[k]) ad al;refine bh @AW.eq_1 @AV.eq_1 @vJ.eq_2 @vI.eq_1 e f ?_;by_cases he:a=l[k]
  ·rw[show(a==l[k])=J by grind];refine bN ?_;refine aD.2 ⟨?_,rfl⟩;have d:a∈l:=al;rw[pb,if_pos d];have:l.idxOf a=k:=by
    grind[List.take_append_drop,List.drop_eq_getElem_cons]
   grind
  ·rw[show(a==l[k])=I by grind];refine bN ?_;refine Mo h b j (k+1) m ad ad ?_;grind[List.take_succ_eq_append_getElem]
def Mp{l:List Int}{v:af}{a:Int}(h:aH aN H ok l v)(b:l.length<=1000000000):W (aK P aG 134 [v,.int .i64 a] H) λr H'=>r= .int .i64 (pb l a)/\H'=H:=by
 refine adV (l.length+1) ?_;simp-implicitDefEqProofs(disch:=try exact aW)only[vI,eM,h.len b0];exact Mo h b l.length 0 (l.length+1) ad ad aX
theorem ZV{l:List Int}{a:Int}:decide (0<=pb l a)=decide (a∈l):=by
 grind[pb]
theorem V2{l:List Int}{v:af}{a:Int}(h:aH aN H ok l v)(b:l.length<=1000000000):W (aK P aG 94 [v,.int .i64 a] H) λr H'=>r= .bool (decide (a∈l))/\H'=H:=by
 refine afM 0 ?_;simp-implicitDefEqProofs(disch:=try exact aW)only[Ij];refine dK (Mp h b) ?_;refine bP @ZV ?_;grind[aD]
def Wn:bx P .eql 30 J .ao .ao=A (.bool J):=aF
theorem Lc(l i n e:Nat)(c:Option Nat):bx P .eql 30 J (.az l i n e c) .ao=A (.bool I):=aF
def Tg{H:ae}{ok ok':Nat->Prop}(a:Int)(cs:List af)(h:aN.V H ok a cs):aN.V H ok' a cs:=h
def aY.ints{B:Nat}{H1:ae}{l m:List Int}{v w:af}(h:aY aN B bb H1 l v)(b:B<=H1.next)(hm:aH aN H1 ok m w)(aw:l.length+m.length<=1000000000):
  ∃a H',eA P H1 [30,30] v w=A (a,H')/\aY aN B bb H' (l++m) a/\cl B H1 H'/\(∀k,k<H1.next->(∀L n c,v= .az L 0 n 1 c->k≠L)->H'.get k=H1.get k)/\(a=v\/∃n,a= .az H1.next 0 n 1 Z):=
 h.app b0 b ((hm.y7 b0).plain (okE':=λ_=>False) Tg) (λ_ _ h=>h.elim) (λ_ _ _ _=>trivial) trivial aw
def c2(l:Nat)(n:Int):gB P l 30 1 [(0,.int .i64 n)]=A (.az l 0 1 1 (A 1),.row I 1 [[.int .i64 n]]):=mW b0 l rfl rfl rfl
def aY.jU{B:Nat}{H1:ae}{l:List Int}{v:af}{a:Int}(h:aY aN B bb H1 l v)(d:B<=H1.next)(aw:l.length<=999999999):
  ∃b H',eA P (H1.push (.row I 1 [[.int .i64 a]])) [30,30] v (.az H1.next 0 1 1 (A 1))=A (b,H')/\aY aN B bb H' (l++[a]) b/\cl B H1 H'/\H1.next<H'.next/\(∀k,k<H1.next->(∀L n c,v= .az L 0 n 1 c->k≠L)->H'.get k=H1.get k):=
 h.sc b0 d (au.refl _) (a:=a) (cs:=[.int .i64 a]) rfl (λ_ _=>trivial) aw
theorem VH{l:List Int}{v:af}(h:aH aN H ok l v)(o:l.length<=1000000000):W (aK P aG 43 [v] H) λr H'=>aY aN H.next bb H' l r/\au H H'/\km aN r:=by
 refine afe 0 ?_;have body:bx P .eql 30 J v .ao=A (.bool I)->W (w8 (aK P aG) v H) λr H'=>aY aN H.next bb H' l r/\au H H'/\km aN r:=by
  intro he;have d:=au.push H (.row I 1 []);have g:aY aN H.next bb (H.push (.row I 1 [])) [] (.az H.next 0 0 1 (A 0)):=⟨.inr ⟨H.next,[],A 0,rfl,trivial,ae.a2 _ _,ad,.inr rfl,λi a aP=>al⟩,al⟩
  obtain⟨p,H',e,f,b,k,m⟩:=g.ints aX (h.aB d) al;have hle:=b.1;refine b3 @w8.eq_1 he e ?_;refine aD.2 ⟨f,cl.aB ((ek d ad).trans b),λL n c j=> ?_⟩;grind
 rcases h with⟨rfl,rfl⟩|⟨L,i,cap,ro,els,rfl,_⟩|⟨L,i,cap,rfl,rfl⟩
 ·refine bG @w8.eq_1 @Wn ?_;exact aD.2 ⟨aY.nil _ _ _ _,au.refl _,λL n c j=>al⟩
 ·grind[Lc]
 grind[Lc]
theorem Ld{l r:List Int}{v w:af}{ok':Nat->Prop}(h:aH aN H ok l v)(ai:aH aN H ok' r w)(aw:l.length=r.length)(b:l.length<=1000000000){N:Nat}:∀(j k m:Nat),k+j=l.length->j<m->l.take k=r.take k->W (xu (aK P aG) N m v w (.int .i64 l.length) (.int .i64 k) H) λq H'=>q= .bool (decide (l=r))/\H'=H
 |_,_,0,_,hm,_=>ad
 |0,k,m+1,c,_,aL=>by
  have i:¬(k:Int)<(l.length:Int):=ad;refine cv @Cv.eq_1 @Cu.eq_1 @xu.eq_2 @tG.eq_1 ?_;grind[aD]
 |j+1,k,m+1,c,hm,aL=>by
  have n:k<l.length:=ad;have o:k<r.length:=ad;obtain⟨p,d,e⟩:=h.int (j:=(k:Int)) (a:=l[k]) ad al;obtain⟨s,f,g⟩:=ai.int (j:=(k:Int)) (a:=r[k]) ad al;refine bh @Cv.eq_1 @Cu.eq_1 @xu.eq_2 @tG.eq_1 d (ag e (ag f g)) ?_;by_cases he:l[k]=r[k]
  ·rw[show(l[k] != r[k])=I by grind];refine bN ?_;refine Ld h ai aw b j (k+1) m ad ad ?_;grind[List.take_succ_eq_append_getElem]
  ·rw[show(l[k] != r[k])=J by grind];refine bN ?_;refine aD.2 ⟨?_,rfl⟩;rw[decide_eq_false];grind
theorem Wo{l r:List Int}{v w:af}{ok':Nat->Prop}(h:aH aN H ok l v)(ai:aH aN H ok' r w)(a:l.length<=1000000000):W (aK P aG 81 [v,w] H) λq H'=>q= .bool (decide (l=r))/\H'=H:=by
 refine afz (l.length+1) ?_;by_cases aw:l.length=r.length
 ·have e:(((l.length:Nat):Int) != ((r.length:Nat):Int))=false:=al;refine c_ @tG.eq_1 @eM.eq_1 (h.bg b0) (ai.bg b0) e ?_;exact Ld h ai aw a l.length 0 (l.length+1) ad ad aX
 ·have e:(((l.length:Nat):Int) != ((r.length:Nat):Int))=true:=bne_iff_ne.2 ad;refine c_ @tG.eq_1 @eM.eq_1 (h.bg b0) (ai.bg b0) e ?_;refine aD.2 ⟨?_,rfl⟩;rw[decide_eq_false];grind
end
end
end Go.Proofs.YtmhhnnklfcbgfaaGreat
namespace Go.a_
open Go.cw
structure cM where
  b:Int
  r:Int
  d:Int
 deriving DecidableEq
structure In where
 op:Int
 a:Int
 b:Int
 c:Int
 n:Int
 args:List Int
structure bT where
 params:Int
 vars:List cM
 has:Bool
 res:cM
 ins:List In
structure r0 where
 f:Int
 ty:cM
structure bC where
 b_:List (List cM)
 globals:List cM
 ay:List bT
 sites:List r0
 main:Int
def eK{α:Type}(l:List α)(i:Int):Option α:=if 0<=i then l[i.toNat]? else Z
def bt:cM:=⟨0,0,0⟩
def da:cM:=⟨1,0,0⟩
def ey:cM:=⟨2,0,0⟩
def kH(t:cM):Bool:=t.b==3||decide (0<t.d)
def less(t:cM):cM:=⟨t.b,t.r,t.d-1⟩
def a6(c:bT)(v:Int):cM:=(eK c.vars v).getD bt
def eD(a:Nat)(t:cM):Bool:=decide (0<=t.d/\t.d<=3)&&(bif t.b==1||t.b==2 then t.r==0 else bif t.b==3 then decide (0<=t.r/\t.r<a)else I)
def mL(x:bC)(t:cM):Option (List cM):=if t.b=3/\t.d=0 then eK x.b_ t.r else Z
def e8(x:bC)(t:cM)(k:Int):cM:=((mL x t).bind λfs=>eK fs k).getD bt
def iT(x:bC)(f:Nat)(s:Int)(t:cM):Bool:=match eK x.sites s with
 |some z=>z.f==(f:Int)&&decide (z.ty=t)
 |none=>I
def named(i:In):Bool:=
 let z (b c n g:Bool):Bool:=(b||i.b==0)&&((c||i.c==0)&&((n||i.n==0)&&(g||i.args.length==0)))
 match i.op with
 |1=>z I I J I
 |11=>z I I J I
 |19=>z I I J I
 |20=>z I I J I
 |3=>z J I I I
 |10=>z J I I I
 |4=>z J J J I
 |5=>z J I J I
 |12=>z J I J I
 |6=>z J J I I
 |7=>z J J I I
 |8=>z J J I I
 |9=>z J J I I
 |13=>z I J I J
 |17=>z I J J I
 |16=>i.a==0&&(i.b==0&&(i.c==0&&i.args.length==0))
 |_=>z I I I I
def hd(n:Int)(a b d:cM):Bool:=
 if 14<=n/\n<=18 then decide (a=da/\b=da/\d=da)
 else if n=19\/n=20 then decide (a=ey/\b=da/\d=da)
 else if n=21\/n=22 then decide (a=ey/\b≠bt/\b=d)
 else if n=23\/n=24 then decide (a=ey/\b=ey/\d=ey)
 else I
def kX(c g:bT):List Int->Nat->Bool
 |[],_=>J
 |v::ak,k=>decide (a6 c v≠bt)&&(decide (g.vars[k]? =A (a6 c v))&&kX c g ak (k+1))
def mh(x:bC)(c:bT)(i:In):Bool:=match eK x.ay i.c with
 |none=>I
 |some g=>decide (0<=g.params/\g.params<=g.vars.length/\(i.args.length:Int)=g.params)&&(kX c g i.args 0&&
  (i.a== -1||(g.has&&decide (a6 c i.a≠bt/\a6 c i.a=g.res))))
def within(n:Int)(m:Nat):Bool:=decide (0<=n/\n<m)
def dY(x:bC)(f:Nat)(c:bT)(i:In):Bool:=
 let a:=a6 c i.a
 let b:=a6 c i.b
 let d:=a6 c i.c
 named i&&match i.op with
 |1=>decide (a=da)||(decide (a=ey)&&(i.n==0||i.n==1))
 |2=>decide (a≠bt)&&kH a
 |3=>decide (a≠bt/\a=b)
 |4=>hd i.n a b d
 |5=>(i.n==12&&decide (a=da/\b=da))||(i.n==13&&decide (a=ey/\b=ey))
 |6=>decide (a≠bt/\a=e8 x b i.c)
 |7=>decide (b≠bt/\b=e8 x a i.c)
 |8=>decide (a≠bt/\0<b.d/\d=da/\a=less b)
 |9=>decide (d≠bt/\0<a.d/\b=da/\d=less a)
 |10=>decide (a=da/\0<b.d)
 |11=>decide (a≠bt/\a.b=3/\a.d=0)&&iT x f i.n a
 |12=>decide (0<a.d/\b=da)&&iT x f i.n a
 |13=>mh x c i
 |14=>decide (a=da)
 |15=>decide (a=da)
 |16=>within i.n c.ins.length
 |17=>decide (a=ey)&&(within i.n c.ins.length&&within i.c c.ins.length)
 |18=>bif c.has then decide (a≠bt/\a=c.res)else i.a== -1
 |19=>decide (a≠bt)&&decide (eK x.globals i.n=A a)
 |20=>decide (a≠bt)&&decide (eK x.globals i.n=A a)
 |_=>I
def kx(op:Int):Bool:=op==16||op==17||op==18
def k5(l:List In):Int:=match l.getLast? with
 |some i=>i.op
 |none=>0
def codeOk(x:bC)(f:Nat)(c:bT):Bool:=decide (0<=c.params/\c.params<=6/\c.params<=c.vars.length/\c.vars.length<=4000/\1<=c.ins.length)&&(c.vars.all (eD x.b_.length)&& ((bif c.has then eD x.b_.length c.res else decide (c.res=bt))&&(c.ins.all (dY x f c)&&kx (k5 c.ins))))
def kr(x:bC):List bT->Nat->Bool
 |[],_=>J
 |c::cs,f=>codeOk x f c&&kr x cs (f+1)
def hl:List bT->Nat
 |[]=>0
 |c::cs=>c.ins.length+hl cs
def jz(x:bC)(s:r0):Bool:=decide (0<=s.f/\s.f<x.ay.length)&&(eD x.b_.length s.ty&&kH s.ty)
def jq(x:bC):Bool:=match eK x.ay x.main with
 |some c=>c.params==0&& !c.has
 |none=>I
def right(x:bC):Bool:=decide (x.b_.length<=12/\x.globals.length<=8/\1<=x.ay.length/\x.ay.length<=16/\x.sites.length<=60)&&(jq x&&(x.globals.all (eD x.b_.length)&& (x.b_.all (λl=>decide (l.length<=8)&&l.all (eD x.b_.length))&&(x.sites.all (jz x)&&(decide (hl x.ay<=2500)&&kr x x.ay 0)))))
