/-
  Texts of one proof, laid together: Rt Lays OrcA OrcB OrcC Kl SignKnown.
-/
import Derived.Shelf.SlGeneric
import Derived.Shelf.SlIterI.Collect
import Derived.Shelf.SortM.Plain
import Derived.Shelf.SortM.SortNone
import Derived.Ground.GgzProg
import Derived.Ground.SlgmProg
import Derived.RangeFuncBox
import Derived.RangeFuncLeaves
import Derived.Shelf.Abstract
import Derived.OwnWalkIn
import Derived.TacticsInMore
import Derived.LoopNIn
import Derived.LoopIn
import Derived.Sort.OwnSortedInts
import Derived.Test.YtmhhnnklfcbgfaaGreatMZ
import Derived.Test.YtmhhnnklfcbgfaaGreatMS
import Derived.Test.YtmhhnnklfcbgfaaGreatMT
import Derived.Test.YtmhhnnklfcbgfaaGreatRows
set_option linter.unusedVariables false
set_option linter.unusedSimpArgs false
set_option linter.defProp false
open Option renaming some→D,none→Y
open Bool renaming true→V,false→U
namespace Go.Proofs.YtmhhnnklfcbgfaaGreat
open Go.bN
section
open Go.ChangeShapes Go.WideShapes Go.ChangeAt Go.RowKit
def own:ownKnob Tryz.prog.godebug=none:=j
def laidOut:laidOutB Tryz.prog=true:=j
def U5:P.underlying 3=D (.int .i64):=j
def U6:P.underlying 4=D .bool:=j
def VD:P.underlying 9=D .string:=j
end
end Go.Proofs.YtmhhnnklfcbgfaaGreat
namespace Go.Proofs
open Go.Shelf
def Tryz.AH:Go.Shelf.Ren:=⟨λ |8=>95|11=>143|n=>n,λ |26=>3|28=>84|24=>30|0=>0|33=>70|4=>4|n=>n,λ |n=>n⟩
def Tryz.wu:Go.Proofs.SlLaysZI.n8 Tryz.prog Tryz.AH:={
 mixed:=by kernel_rfl
 f8:=⟨Tryz.f95.name,by decide,Tryz.func95.trans (congrArg D (by kernel_rfl))⟩
 f11:=⟨Tryz.f143.name,by decide,Tryz.func143.trans (congrArg D (by kernel_rfl))⟩
 t0:=Tryz.underlying0
 a0:=Tryz.isAgg0
 z0:=Tryz.sizeOf0
 v0:=Tryz.zeroValue0
 t24:=Tryz.underlying30
 a24:=Tryz.isAgg30
 z24:=Tryz.sizeOf30
 v24:=Tryz.zeroValue30
 t26:=Tryz.underlying3
 a26:=Tryz.isAgg3
 z26:=Tryz.sizeOf3
 v26:=Tryz.zeroValue3
 t28:=Tryz.underlying84
 a28:=Tryz.isAgg84
 z28:=Tryz.sizeOf84
 v28:=Tryz.zeroValue84
 i26:=by kernel_rfl}
def Tryz.Tu:Go.Shelf.Ren:=⟨λ |5=>96|8=>145|7=>144|19=>204|20=>205|10=>195|11=>196|12=>197|13=>198|14=>199|15=>200|16=>201|17=>202|18=>203|30=>229|31=>230|32=>231|33=>232|34=>233|35=>234|40=>254|n=>n,λ |23=>30|25=>3|3=>3|32=>217|22=>30|0=>0|44=>271|46=>251|4=>4|36=>265|35=>264|41=>223|5=>5|9=>9|53=>294|57=>298|63=>320|64=>321|n=>n,λ |n=>n⟩
def Tryz.vA:Go.Proofs.SlLaysM.n5 Tryz.prog Tryz.Tu:={
 mixed:=by kernel_rfl
 f5:=⟨Tryz.f96.name,by decide,Tryz.func96.trans (congrArg D (by kernel_rfl))⟩
 f7:=⟨Tryz.f144.name,by decide,Tryz.func144.trans (congrArg D (by kernel_rfl))⟩
 f8:=Tryz.func145.trans (congrArg D (by kernel_rfl))
 f10:=⟨Tryz.f195.name,by decide,Tryz.func195.trans (congrArg D (by kernel_rfl))⟩
 f11:=⟨Tryz.f196.name,by decide,Tryz.func196.trans (congrArg D (by kernel_rfl))⟩
 f12:=⟨Tryz.f197.name,by decide,Tryz.func197.trans (congrArg D (by kernel_rfl))⟩
 f13:=⟨Tryz.f198.name,by decide,Tryz.func198.trans (congrArg D (by kernel_rfl))⟩
 f14:=⟨Tryz.f199.name,by decide,Tryz.func199.trans (congrArg D (by kernel_rfl))⟩
 f15:=⟨Tryz.f200.name,by decide,Tryz.func200.trans (congrArg D (by kernel_rfl))⟩
 f16:=⟨Tryz.f201.name,by decide,Tryz.func201.trans (congrArg D (by kernel_rfl))⟩
 f17:=⟨Tryz.f202.name,by decide,Tryz.func202.trans (congrArg D (by kernel_rfl))⟩
 f18:=⟨Tryz.f203.name,by decide,Tryz.func203.trans (congrArg D (by kernel_rfl))⟩
 f19:=Tryz.func204.trans (congrArg D (by kernel_rfl))
 f20:=Tryz.func205.trans (congrArg D (by kernel_rfl))
 f30:=⟨Tryz.f229.name,by decide,Tryz.func229.trans (congrArg D (by kernel_rfl))⟩
 f31:=Tryz.func230.trans (congrArg D (by kernel_rfl))
 f32:=Tryz.func231.trans (congrArg D (by kernel_rfl))
 f33:=⟨Tryz.f232.name,by decide,Tryz.func232.trans (congrArg D (by kernel_rfl))⟩
 f34:=⟨Tryz.f233.name,by decide,Tryz.func233.trans (congrArg D (by kernel_rfl))⟩
 f35:=⟨Tryz.f234.name,by decide,Tryz.func234.trans (congrArg D (by kernel_rfl))⟩
 f40:=⟨Tryz.f254.name,by decide,Tryz.func254.trans (congrArg D (by kernel_rfl))⟩
 t0:=Tryz.underlying0
 a0:=Tryz.isAgg0
 z0:=Tryz.sizeOf0
 v0:=Tryz.zeroValue0
 t3:=Tryz.underlying3
 a3:=Tryz.isAgg3
 z3:=Tryz.sizeOf3
 v3:=Tryz.zeroValue3
 t4:=Tryz.underlying4
 a4:=Tryz.isAgg4
 z4:=Tryz.sizeOf4
 v4:=Tryz.zeroValue4
 t5:=Tryz.underlying5
 a5:=Tryz.isAgg5
 z5:=Tryz.sizeOf5
 v5:=Tryz.zeroValue5
 t9:=Tryz.underlying9
 a9:=Tryz.isAgg9
 z9:=Tryz.sizeOf9
 v9:=Tryz.zeroValue9
 t22:=Tryz.underlying30
 a22:=Tryz.isAgg30
 z22:=Tryz.sizeOf30
 v22:=Tryz.zeroValue30
 t23:=Tryz.underlying30
 a23:=Tryz.isAgg30
 z23:=Tryz.sizeOf30
 v23:=Tryz.zeroValue30
 t25:=Tryz.underlying3
 a25:=Tryz.isAgg3
 z25:=Tryz.sizeOf3
 v25:=Tryz.zeroValue3
 t32:=Tryz.underlying217
 a32:=Tryz.isAgg217
 z32:=Tryz.sizeOf217
 v32:=Tryz.zeroValue217
 t35:=Tryz.underlying264
 a35:=Tryz.isAgg264
 z35:=Tryz.sizeOf264
 v35:=Tryz.zeroValue264
 t36:=Tryz.underlying265
 a36:=Tryz.isAgg265
 z36:=Tryz.sizeOf265
 v36:=Tryz.zeroValue265
 t41:=Tryz.underlying223
 a41:=Tryz.isAgg223
 z41:=Tryz.sizeOf223
 v41:=Tryz.zeroValue223
 t44:=Tryz.underlying271
 a44:=Tryz.isAgg271
 z44:=Tryz.sizeOf271
 v44:=Tryz.zeroValue271
 t46:=Tryz.underlying251
 a46:=Tryz.isAgg251
 z46:=Tryz.sizeOf251
 v46:=Tryz.zeroValue251
 t53:=Tryz.underlying294
 a53:=Tryz.isAgg294
 z53:=Tryz.sizeOf294
 v53:=Tryz.zeroValue294
 t57:=Tryz.underlying298
 a57:=Tryz.isAgg298
 z57:=Tryz.sizeOf298
 v57:=Tryz.zeroValue298
 t63:=Tryz.underlying320
 a63:=Tryz.isAgg320
 z63:=Tryz.sizeOf320
 v63:=Tryz.zeroValue320
 t64:=Tryz.underlying321
 a64:=Tryz.isAgg321
 z64:=Tryz.sizeOf321
 v64:=Tryz.zeroValue321}
end Go.Proofs
namespace Go.Proofs.YtmhhnnklfcbgfaaGreat
section
open Go.RowKit Go.Maps Go.Sort Go.Shelf Go.Proofs
section
variable {P:Program}{ρ:Ren}
set_option maxRecDepth 100000 in
set_option maxHeartbeats 2000000 in
def zT(L:SlLaysZI.n11 P ρ)(F:Fence)(n:Nat)(T:F.fn (ρ.f 11))(E:F.round=Y)(ay:2<=n)(g:Nat)(c:Array Value)(aa:F.fn g)(Q:∀args w,(callFunc g args).run P w= .ok (.enter g args) w)
  (S:List Int->Prop) (N:Nat) (ae:N<=maxLen) (af:N*8<=140737488355328) (w:World) (ao:∀(l zD:Nat) (fn:FuncId) (W:World),(∀pre x b,AnyZI.ApAt ρ w fn (.func (.func g) #[] c) w.heap.size l zD pre b->pre.length<N->YieldAt F (n-1-1) P l #[encZ x] b λe p=>e= .returned (.bool V)/\AnyZI.ApAt ρ w fn (.func (.func g) #[] c) w.heap.size l zD (pre++[x]) p/\KeepsWalks b p)->AnyZI.ApAt ρ w fn (.func (.func g) #[] c) w.heap.size l zD [] W->CallsIn F (n-1) P g (#[.func (.yield l) #[] #[]]++c) W λe p=>(∃v,e= .returned v)/\∃xs,S xs/\AnyZI.ApAt ρ w fn (.func (.func g) #[] c) w.heap.size l zD xs p):
  CallsIn F n P (ρ.f 11) #[.slice Y 0 0,.func (.func g) #[] c] w λe M=>∃(v:Value) (m:List Int),e= .returned v/\S m/\M.ownsRow w.heap.size (ρ.t 26) 1 v m.length (m.map encZ)/\(v= .slice Y 0 0↔m=[])/\Below w.heap.size w M:=by
 have R:1<=n:=by omega
 have mixed:=L.mixed;have t0:=L.t0;have a0:=L.a0;have z0:=L.z0;have v0:=L.v0;have t24:=L.t24;have a24:=L.a24;have z24:=L.z24;have v24:=L.v24;have t26:=L.t26;have a26:=L.a26;have z26:=L.z26;have v26:=L.v26;have t28:=L.t28;have a28:=L.a28;have z28:=L.z28;have v28:=L.v28;have C:ρ.t 24≠ρ.t 26:=λe=>by have h:=L.t24;rw[e,L.t26]at h;cases h
 have aA:=run_underlying L.t0;have aB:=run_underlying L.t24;have aC:=run_underlying L.t26;have aD:=run_underlying L.t28;obtain⟨_,_,O⟩:=L.f11;refine callsIn_of_wp_marks O rfl T ?_ E;simp only[SlBodyZ.n11_ntmps ρ,List.size_toArray,List.length_cons,List.length_nil,Nat.reduceAdd,Nat.reduceSub,Array.replicate_succ,Array.replicate_zero,List.push_toArray,List.append_toArray,List.nil_append,List.cons_append]
 gi_wp2
 refine wpIn_rangeFunc ?_;intro fn aj;rw[E];obtain⟨a,q⟩:∃a,w.alloc (.cells #[.slice Y 0 0] (ρ.t 24))=a:=⟨_,rfl⟩;have an:a.heap.size=w.heap.size+1:=by rw[<-q];simp
 have aq:a.heap[w.heap.size]? =D (.cells #[.slice Y 0 0] (ρ.t 24) (0,0)):=by rw[<-q];exact World.alloc_heap_new w _
 have r:Below w.heap.size w a:=by rw[<-q];exact(Below.refl _ w).alloc (Nat.le.refl) _
 rw[q];obtain⟨b,j⟩:∃b,(a.alloc (.deferred (D []))).alloc (.loop (AnyZI.apRec ρ fn (.func (.func g) #[] c) w.heap.size a.heap.size .ready Y))=b:=⟨_,rfl⟩;have hold:∀k,k<a.heap.size->b.heap[k]? =a.heap[k]? :=λk ak=>by
  rw[<-j];exact(Below.heap_alloc _ _ k (by simp;omega)).trans (Below.heap_alloc _ _ k ak)
 have ai:Below w.heap.size w b:=by rw[<-j];exact(r.alloc r.size _).alloc (by have:=r.size;simp;omega) _
 have az:b.heap.size=a.heap.size+2:=by rw[<-j];simp
 have ad:AnyZI.ApAt ρ w fn (.func (.func g) #[] c) w.heap.size (a.heap.size+1) a.heap.size [] b:=
  ⟨⟨_,(hold w.heap.size (by omega)).trans aq,⟨rfl,.inl ⟨rfl,rfl⟩⟩,by simp⟩,
   by rw[<-j];have:=World.alloc_heap_new (a.alloc (.deferred (D []))) (.loop (AnyZI.apRec ρ fn (.func (.func g) #[] c) w.heap.size a.heap.size .ready Y));rwa[World.size_alloc]at this,
   by rw[<-j];exact(Below.heap_alloc _ _ _ (by simp)).trans (World.alloc_heap_new a _),ai⟩
 refine⟨a.heap.size+1,[{target:= .collected a.heap.size,args:= #[]}],b,{target:= .fn (.func g) c,args:= #[.func (.yield (a.heap.size+1)) #[] #[]]},b,g,
  #[.func (.yield (a.heap.size+1)) #[] #[]]++c,b,?_,?_,?_,?_,λ_=>R,?_⟩
 ·rw[<-j];exact run_enterLoop_outer _ _ _ _ _
 ·simp[resolve,go_sem]
 ·intro av A;simp[Target.leads]at A;subst A;exact aa
 ·simp[invoke,go_sem,Q]
 ·refine(ao (a.heap.size+1) a.heap.size fn b
   (λpre x W ab al=>AnyZI.apYield {L with} F (n-1-1) w fn aj _ w.heap.size (a.heap.size+1) a.heap.size (by omega) (by omega) (by omega) (Nat.le.refl) (by omega) N ae af pre x W ab al) ad).mono ?_
  rintro e s ⟨⟨v0,rfl⟩,m,ah,i⟩;obtain⟨v,ap,G,am⟩:=i.box;have z:=run_endLoop (P:=P) i.L (by simp[AnyZI.apRec]);obtain⟨d,o⟩:∃d,s.putObj (a.heap.size+1) (.loop {AnyZI.apRec ρ fn (.func (.func g) #[] c) w.heap.size a.heap.size .ready Y with state:= .exhausted})=d:=⟨_,rfl⟩;rw[o]at z;have B:s.grownBy d (D (a.heap.size+1)):=by rw[<-o];exact grownBy_putObj_a _ _ _
  have au:d.heap[w.heap.size]? =D (.cells #[v] (ρ.t 24) (0,0)):=by rw[<-o];exact(World.putObj_heap_other (by omega)).trans ap
  have u:d.heap[a.heap.size]? =D (.deferred (D [])):=by rw[<-o];exact(World.putObj_heap_other (by omega)).trans i.K
  have H:=G.kept B (ownsRow_ne_a G i.L (λcur e=>by first|cases e|exact C (Obj.cells.inj e).2.1));have y:Below w.heap.size w d:=i.below.grown B i.below.size (λk e=>by cases e;omega);obtain⟨aw,ax⟩:=cell_of_box_a au;clear o;refine⟨Y,d,z,?_⟩
  gi_wp2
  rw[<-an];refine⟨by simp,.inl ⟨_,_,rfl,run_takeDeferred u,?_⟩⟩;exact⟨_,results_tmp rfl _ _ _,v,m,rfl,ah,H.kept (grownBy_putObj_a _ _ _) (ownsRow_ne_a H u (λcur e=>by first|cases e|exact C (Obj.cells.inj e).2.1)),am,y.grown (grownBy_putObj_a _ _ _) y.size (λk e=>by cases e;omega)⟩
set_option maxHeartbeats 1000000 in
def wy(L:SlLaysZI.n8 P ρ)(F:Fence)(n:Nat)(o:F.fn (ρ.f 8))(m:F.fn (ρ.f 11))(i:F.round=Y)(E:3<=n)(g:Nat)(a:Array Value)(p:F.fn g)(k:∀args w,(callFunc g args).run P w= .ok (.enter g args) w)
  (S:List Int->Prop) (N:Nat) (q:N<=maxLen) (r:N*8<=140737488355328) (w:World) (A:∀(l zD:Nat) (fn:FuncId) (W:World),(∀pre x d,AnyZI.ApAt ρ w fn (.func (.func g) #[] a) w.heap.size l zD pre d->pre.length<N->YieldAt F (n-1-1-1) P l #[encZ x] d λe c=>e= .returned (.bool V)/\AnyZI.ApAt ρ w fn (.func (.func g) #[] a) w.heap.size l zD (pre++[x]) c/\KeepsWalks d c)->AnyZI.ApAt ρ w fn (.func (.func g) #[] a) w.heap.size l zD [] W->CallsIn F (n-1-1) P g (#[.func (.yield l) #[] #[]]++a) W λe c=>(∃v,e= .returned v)/\∃xs,S xs/\AnyZI.ApAt ρ w fn (.func (.func g) #[] a) w.heap.size l zD xs c):
  CallsIn F n P (ρ.f 8) #[.func (.func g) #[] a] w λe h=>∃(v:Value) (b:List Int),e= .returned v/\S b/\h.ownsRow w.heap.size (ρ.t 26) 1 v b.length (b.map encZ)/\(v= .slice Y 0 0↔b=[])/\Below w.heap.size w h:=by
 have C:1<=n:=by omega
 have B:∀args w,(callFunc (ρ.f 11) args).run P w= .ok (.enter (ρ.f 11) args) w:=L.f11.enters rfl;have mixed:=L.mixed;have t0:=L.t0;have a0:=L.a0;have z0:=L.z0;have v0:=L.v0;have t24:=L.t24;have a24:=L.a24;have z24:=L.z24;have v24:=L.v24;have t26:=L.t26;have a26:=L.a26;have z26:=L.z26;have v26:=L.v26;have t28:=L.t28;have a28:=L.a28;have z28:=L.z28;have v28:=L.v28;have G:=run_underlying L.t0;have H:=run_underlying L.t24;have K:=run_underlying L.t26;have M:=run_underlying L.t28;obtain⟨_,_,j⟩:=L.f8;refine callsIn_of_wp j rfl o ?_ i;simp only[SlBodyZ.n8_ntmps ρ,List.size_toArray,List.length_cons,List.length_nil,Nat.reduceAdd,Nat.reduceSub,Array.replicate_succ,Array.replicate_zero,List.push_toArray,List.append_toArray,List.nil_append,List.cons_append]
 gi_wp2_with (gi_at_fn (ρ.f 11);refine(zT {L with} F (n-1) m i (by omega) g a p k S N q r _ A).mono ?_;rintro e h ⟨v,b,rfl,s,z,y,u⟩)
 go_ret
 exact⟨v,b,rfl,s,z,y,u⟩
end
def upto{α:Type}(f:Nat->α)(k:Nat):List α:=(List.range k).map f
def U9{α:Type}(f:Nat->α)(k:Nat):upto f (k+1)=upto f k++[f k]:=by simp[upto,List.range_succ]
def U8{α:Type}(f:Nat->α)(k:Nat):(upto f k).length=k:=by simp[upto]
def U7(a:List Int):upto (λj=>a[j]?.getD 0) a.length=a:=by
 apply List.ext_getElem
 ·simp[upto]
 ·intro i c b;simp[upto,b]
attribute [local go_sem] Oper.semAt_some
set_option maxRecDepth 100000 in
set_option maxHeartbeats 2000000 in
def U_(F:Fence)(n:Nat)(w:F.fn 97)(H:F.round=Y)(N:1<=n)(l d g o b off len cap:Nat)(c:List Int)(O:len*8<=140737488351232)(C:0<len->b<o)(y:d<o)(w0:World)(a:List Int->World->Prop)(t:∀s W,a s W->Below o w0 W)
  (B:∀pre x W,a pre W->pre.length<len->YieldAt F (n-1) Tryz.prog l #[.int .i64 x] W λe f=>e= .returned (.bool V)/\a (pre++[x]) f)
  (W:World) (r:w0.cell? ⟨d,g,Y⟩=D (.slice (D ⟨b,off,Y⟩) len cap)) (E:∀j,j<len->w0.cell? ⟨b,off+j,Y⟩=D (.int .i64 (c[j]?.getD 0))) (q:a [] W):
  CallsIn F n Tryz.prog 97 #[.func (.yield l) #[] #[],.pointer (D ⟨d,g,Y⟩)] W λe f=>(∃v,e= .returned v)/\a (upto (λj=>c[j]?.getD 0) len) f:=by
 have r:=((t _ _ q).cell (p:=⟨d,g,Y⟩) y).trans r;refine callsIn_of_wp Tryz.func97 rfl w ?_ H;simp only[Tryz.ntmps97,List.size_toArray,List.length_cons,List.length_nil,Nat.reduceAdd,Nat.reduceSub,Array.replicate_succ,Array.replicate_zero,List.push_toArray,List.append_toArray,List.nil_append,List.cons_append]
 gi_wp2
 gi_loopw [7] (λi wr=>∃k:Nat,k<=len/\i= .int .i64 k/\a (upto (λj=>c[j]?.getD 0) k) wr)
  (λi _=>len-(intOf i).toNat)
 case atStart=>exact⟨0,Nat.zero_le _,rfl,q⟩
 case round=>
  obtain⟨k,M,rfl,m⟩:=hrel;have G:k<len->wr.cell? ⟨b,off+k,Y⟩=D (.int .i64 (c[k]?.getD 0)):=λh=>((t _ _ m).cell (p:=⟨b,off+k,Y⟩) (C (by omega))).trans (E k h)
  by_cases u:k<len
  ·obtain⟨fn,tmps,assign,body,P,A⟩:=B _ (c[k]?.getD 0) wr m (by rw[U8];exact u);have L:=G u
   gi_wp2
   refine A.mono ?_;rintro e K ⟨rfl,z⟩
   gi_wp2
   go_roundw
   case rel=>exact⟨k+1,by omega,by simp,by rw[U9];exact z⟩
   case measure=>simp[intOf];omega
  ·obtain rfl:k=len:=by omega
   gi_wp2
   go_end0
   exact⟨⟨_,rfl⟩,m⟩
set_option maxRecDepth 100000 in
set_option maxHeartbeats 1000000 in
def Va(F:Fence)(n:Nat)(g:F.fn 97)(j:F.round=Y)(l b c:Nat)(a:List Int->World->Prop)(W:World)(p:Option Addr)(cap:Nat)(k:W.cell? ⟨b,c,Y⟩=D (.slice p 0 cap))(f:a [] W):
  CallsIn F n Tryz.prog 97 #[.func (.yield l) #[] #[],.pointer (D ⟨b,c,Y⟩)] W λe d=>(∃v,e= .returned v)/\a [] d:=by
 refine callsIn_of_wp Tryz.func97 rfl g ?_ j;simp only[Tryz.ntmps97,List.size_toArray,List.length_cons,List.length_nil,Nat.reduceAdd,Nat.reduceSub,Array.replicate_succ,Array.replicate_zero,List.push_toArray,List.append_toArray,List.nil_append,List.cons_append]
 gi_wp2
 gi_loopw [7] (λi wr=>i= .int .i64 0/\a [] wr) (λ_ _=>0)
 case atStart=>exact⟨rfl,f⟩
 case round=>
  obtain⟨rfl,h⟩:=hrel
  gi_wp2
  go_end0
  exact⟨⟨_,rfl⟩,h⟩
end
section
open Go.bN Go.RowKit
def Vt{F:Fence}{m:Nat}{Q:Program}{l:Nat}{args:Array Value}{W:World}{C S:Ending->World->Prop}(h:YieldAt F m Q l args W C)(b:∀e w,C e w->S e w):YieldAt F m Q l args W S:=by
 obtain⟨fn,tmps,assign,body,c,a⟩:=h;exact⟨fn,tmps,assign,body,c,a.mono b⟩
def AI(w:World)(d g:Nat)(r:d<w.heap.size)(b off cap:Nat)(a:List Int)(B:a.length<=1000000)(q:w.cell? ⟨d,g,Y⟩=D (.slice (D ⟨b,off,Y⟩) a.length cap))
  (k:∀j,j<a.length->b<w.heap.size/\w.cell? ⟨b,off+j,Y⟩=D (.int .i64 (a[j]?.getD 0))):
  Calls Tryz.prog 95 #[.func (.func 97) #[] #[.pointer (D ⟨d,g,Y⟩)]] w λe i=>∃v:Value,e= .returned v/\i.ownsRow w.heap.size 3 1 v a.length (a.map encZ)/\(v= .slice Y 0 0↔a=[])/\Below w.heap.size w i:=by
 refine(callsIn_wide (n:=6)).1 ?_;have h:=wy Tryz.wu Fence.wide 6 trivial trivial rfl (by omega) 97 #[.pointer (D ⟨d,g,Y⟩)] trivial (enters_of Tryz.func97 (by kernel_rfl) rfl) (λm=>m=a) a.length (by simp only[maxLen];omega) (by omega) w
  (λl zD fn W u o=>(U_ Fence.wide 4 trivial rfl (by omega) l d g w.heap.size b off a.length cap a (by omega) (λh=>(k 0 h).1) r w _ (λs W h=>h.below) (λpre x W t z=>Vt (u pre x W t z) λe i ⟨f,c,_⟩=>⟨f,c⟩) W q (λj y=>(k j y).2) o).mono λe A ⟨f,c⟩=>⟨f,_,rfl,by rw[U7]at c;exact c⟩)
 refine CallsIn.mono h ?_;rintro e i ⟨v,m,rfl,rfl,f,c,p⟩;exact⟨v,rfl,f,c,p⟩
def wv(w:World)(a b:Nat)(m:a<w.heap.size)(p:Option Addr)(cap:Nat)(k:w.cell? ⟨a,b,Y⟩=D (.slice p 0 cap)):
  Calls Tryz.prog 95 #[.func (.func 97) #[] #[.pointer (D ⟨a,b,Y⟩)]] w λe i=>e= .returned (.slice Y 0 0)/\Below w.heap.size w i:=by
 refine(callsIn_wide (n:=6)).1 ?_;have h:=wy Tryz.wu Fence.wide 6 trivial trivial rfl (by omega) 97 #[.pointer (D ⟨a,b,Y⟩)] trivial (enters_of Tryz.func97 (by kernel_rfl) rfl) (λg=>g=[]) 0 (by simp only[maxLen];omega) (by omega) w
  (λl zD fn W q d=>(Va Fence.wide 4 trivial rfl l a b _ W p cap ((d.below.cell (p:=⟨a,b,Y⟩) m).trans k) d).mono λe o ⟨f,c⟩=>⟨f,_,rfl,c⟩)
 refine CallsIn.mono h ?_;rintro e i ⟨v,g,rfl,rfl,f,c,j⟩;obtain rfl:=c.2 rfl;exact⟨rfl,j⟩
def m5{f:Nat}{fn:Func}{c:Code}{xs:List Value}{w:World}{next:Value->World->Prop}(a:P.funcs[f]? =D fn)(d:fn.body=D c)(h:Calls P f xs.toArray w λe b=>∃x,e= .returned x/\next x b):eF P (callFunc f xs.toArray) w next:=by
 have i:(fn.name== "runtime.NumGoroutine")=false:=aR.names fn (Array.mem_of_getElem? a);have k:(callFunc f xs.toArray).run P w= .ok (.enter f xs.toArray) w:=by
  unfold callFunc;simp[a,d];intro g;simp[g]at i
 unfold eF;rw[k];simp only
 refine Calls.mono h λe b j=> ?_
 obtain⟨x,rfl,l⟩:=j;exact l
def yP{ρ:Env}{H:ae}{w c:World}(d:Rel ρ H w)(a:Below w.heap.size w c):Step ρ H w ρ H c:=
 ⟨ρ.le_refl,bM _,λ_ _=>rfl,d.ny a.block,a.os,a.tape,a.output,a.size,λb h _=>a.block b h,λ_ h=> .inl h,λ_ _ _ h=>h⟩
def TB{ρ:Env}{H:ae}{w q:World}(m:Rel ρ H w)(x:ρ H.next=Y)(f:Below w.heap.size w q)(loc:Go.bN.Loc)(o:w.heap.size<=loc.block){esz:Nat}{els:List (List aa)}(y:cl (ρ.b2 H.next loc) q loc U esz els):
  Step ρ H w (ρ.b2 H.next loc) (H.push (.row U esz els)) q:=by
 have hle:=Env.gH x loc;have n:=m.ny f.block;have s:∀l d,H.live l->ρ.b2 H.next loc l=D d->d.block<w.heap.size:=λl d h bs=>by
  have k:l≠H.next:=by
   rintro rfl;have:=eR h;omega
  rw[Env.cu k]at bs;exact m.r2 h bs
 refine⟨hle,by simp,λl o=>Env.cu (by simp at o;omega),⟨?_,?_,?_,?_⟩,f.os,f.tape,f.output,f.size,λb h _=>f.block b h,?_,ae.sQ rfl⟩
 ·intro l ro v u h;by_cases e:l=H.next
  ·subst e;rw[ae.cJ]at h;cases h;exact⟨loc,Env.ct _ _ _,y⟩
  ·rw[ae.cp e]at h;obtain⟨d,j,p⟩:=n.row _ _ _ _ h;exact⟨d,hle _ _ j,p.frame hle rfl⟩
 ·intro l es h;by_cases e:l=H.next
  ·subst e;rw[ae.cJ]at h;cases h
  ·rw[ae.cp e]at h;obtain⟨d,j,ents,clock,f,c,a⟩:=n.map _ _ h;exact⟨d,hle _ _ j,ents,clock,f,c.mono hle,a.mono hle⟩
 ·intro l t v u h;by_cases e:l=H.next
  ·subst e;rw[ae.cJ]at h;cases h
  ·rw[ae.cp e]at h;obtain⟨d,j,p⟩:=n.bS _ _ _ _ h;exact⟨d,hle _ _ j,p.frame hle rfl⟩
 ·intro l z B C c a k g i;rcases nS c with rfl|c
  ·rcases nB a with rfl|a
   ·exact absurd rfl k
   ·rw[Env.ct]at g;obtain rfl:=Option.some.inj g;have:=s _ _ a i;omega
  ·rcases nB a with rfl|a
   ·rw[Env.ct]at i;obtain rfl:=Option.some.inj i;have:=s _ _ c.live g;omega
   ·have cF:l≠H.next:=by rintro rfl;have:=eR c.live;omega
    have A:z≠H.next:=by rintro rfl;have:=eR a;omega
    rw[Env.cu cF]at g;rw[Env.cu A]at i;exact m.apart _ _ _ _ c a k g i
 ·rintro b ⟨l,d,c,a,r⟩;rcases nS c with rfl|c
  ·rw[Env.ct]at a;obtain rfl:=Option.some.inj a;exact .inr (r▸o)
  ·have cF:l≠H.next:=by rintro rfl;have:=eR c.live;omega
   rw[Env.cu cF]at a;exact .inl ⟨l,d,c,a,r⟩
def yQ{ρ:Env}{H:ae}{w i:World}(j:Rel ρ H w){l:Nat}{esz:Nat}{els p:List (List aa)}(o:H.get l=D (.row U esz els)){loc:Go.bN.Loc}(s:ρ l=D loc)
  (L:i.os=w.os) (P:i.tape=w.tape) (M:i.output=w.output) (O:w.heap.size<=i.heap.size) (y:∀k,k<w.heap.size->k≠loc.block->i.heap[k]? =w.heap[k]?) (N:cl ρ i loc U esz p):
  Step ρ H w ρ (H.set l (.row U esz p)) i:=by
 have u:=ae.dz o;have v:∀c d,H.live c->c≠l->ρ c=D d->d.block≠loc.block:=λc d h bs e heq=>
  j.apart l c loc d (.inl ⟨_,_,o⟩) h (Ne.symm bs) s e heq.symm
 have z:∀c,(H.set l (.row U esz p)).rw c->H.rw c:=by
  intro c h;by_cases f:l=c
  ·subst f;exact .inl ⟨_,_,o⟩
  ·simpa [ae.rw,ae.cx f]using h
 have G:∀c,(H.set l (.row U esz p)).live c->H.live c:=by
  intro c h;by_cases f:l=c
  ·subst f;exact .inl ⟨_,_,_,o⟩
  ·simpa [ae.live,ae.cx f]using h
 have r:∀c d,H.live c->c≠l->ρ c=D d->i.heap[d.block]? =w.heap[d.block]? :=λc d h bs e=>y _ (j.r2 h e) (v _ _ h bs e)
 refine⟨ρ.le_refl,bM _,λ_ _=>rfl,⟨?_,?_,?_,?_⟩,L,P,M,O,?_,?_,ae.sR rfl⟩
 ·intro c T E C h;by_cases f:l=c
  ·subst f;rw[ae.dn u]at h;cases h;exact⟨loc,s,N⟩
  ·rw[ae.cx f]at h;obtain⟨d,g,x⟩:=j.row _ _ _ _ h;exact⟨d,g,x.frame ρ.le_refl (r c d (.inl ⟨_,_,_,h⟩) (Ne.symm f) g)⟩
 ·intro c S h;by_cases f:l=c
  ·subst f;rw[ae.dn u]at h;cases h
  ·rw[ae.cx f]at h;obtain⟨d,g,ents,clock,q,m,n⟩:=j.map _ _ h;exact⟨d,g,ents,clock,by rw[r c d (.inr (.inl ⟨_,h⟩)) (Ne.symm f) g];exact q,m,n⟩
 ·intro c t E C h;by_cases f:l=c
  ·subst f;rw[ae.dn u]at h;cases h
  ·rw[ae.cx f]at h;obtain⟨d,g,x⟩:=j.bS _ _ _ _ h;exact⟨d,g,x.frame ρ.le_refl (r c d (.inr (.inr ⟨_,_,_,h⟩)) (Ne.symm f) g)⟩
 ·intro a b Q R m n v A B;exact j.apart a b Q R (z _ m) (G _ n) v A B
 ·intro b q K;exact y b q λe=>K ⟨l,loc,.inl ⟨_,_,o⟩,s,e.symm⟩
 ·rintro b ⟨c,d,m,n,F⟩;exact .inl ⟨c,d,z _ m,n,F⟩
def sm:∀{es:List (List aa)} {xs:List Int},fu es=D xs->es=xs.map ek
 |[],_,h=>by cases h;rfl
 |e::es,xs,h=>by
  unfold fu at h;split at h
  ·rename_i heq;cases heq
  ·rename_i n es' heq;cases heq;obtain⟨b,a,rfl⟩:=Option.map_eq_some_iff.1 h;rw[sm a];rfl
  ·cases h
end
section
open Go.bN Go.RowKit
set_option maxRecDepth 100000
def wR{ρ:Env}{w:World}{loc:Go.bN.Loc}{ro:Bool}{els:List (List aa)}(h:cl ρ w loc ro 1 els){i:Nat}{n:Int}(d:els[i]? =D (ek n)):w.cell? ⟨loc.block,loc.off+i*loc.esz,Y⟩=D (.int .i64 n):=by
 obtain⟨he,c,t,j,b,-,e⟩:=h;obtain⟨-,a⟩:=e i _ d;obtain⟨-,x,g,f⟩:=a 0 (.int .i64 n) rfl;cases f;rw[he];simp[World.cell?,b];simpa using g
def zs{H:ae}{m i n:Nat}{es:List (List aa)}(h:du H m i n 1=D es):∃els,((∃ro,H.get m=D (.row ro 1 els))\/∃t,H.get m=D (.bS t 1 els))/\es.length=n/\∀j,j<n->els[i+j]? =es[j]? :=by
 unfold du at h;split at h
 ·rename_i ro esz els b;split at h
  ·rename_i a;obtain⟨rfl,d⟩:=a;cases h;exact⟨els,.inl ⟨ro,b⟩,by simp;omega,λj c=>by rw[List.getElem?_take_of_lt c,List.getElem?_drop]⟩
  ·cases h
 ·rename_i t esz els b;split at h
  ·rename_i a;obtain⟨rfl,d⟩:=a;cases h;exact⟨els,.inr ⟨t,b⟩,by simp;omega,λj c=>by rw[List.getElem?_take_of_lt c,List.getElem?_drop]⟩
  ·cases h
 ·cases h
def zu{ρ:Env}{H:ae}{w:World}(d:Rel ρ H w){m:Nat}{els:List (List aa)}(h:(∃ro,H.get m=D (.row ro 1 els))\/∃t,H.get m=D (.bS t 1 els)){loc:Go.bN.Loc}(e:ρ m=D loc):∃ro,cl ρ w loc ro 1 els/\loc.block<w.heap.size:=by
 rcases h with⟨ro,h⟩|⟨t,h⟩
 ·obtain⟨c,b,a⟩:=d.row _ _ _ _ h;obtain rfl:loc=c:=Option.some.inj (e.symm.trans b);exact⟨ro,a,a.lt⟩
 ·obtain⟨c,b,a⟩:=d.bS _ _ _ _ h;obtain rfl:loc=c:=Option.some.inj (e.symm.trans b);exact⟨U,a.1,a.1.lt⟩
def JQ{w:World}{base:Nat}{v:Value}{xs:List Int}(h:w.ownsRow base 3 1 v xs.length (xs.map encZ))(l:xs≠[]):∃g cap cur,v= .slice (D ⟨g,0,Y⟩) xs.length cap/\base<=g/\w.heap[g]? =D (.cells cur 3 (0,0))/\xs.length<=cap/\cur.size=cap/\∀j (a:j<xs.length),cur[j]? =D (.int .i64 xs[j]):=by
 rcases h.2 with⟨_,b⟩|⟨g,cap,cur,c,d,e,f,m,i,k⟩
 ·exact absurd (List.eq_nil_of_length_eq_zero b) l
 ·refine⟨g,cap,cur,c,d,e,f,by simpa using i,λj a=> ?_⟩;have:(cur.toList.take (xs.length*1))[j]? =(xs.map encZ)[j]? :=by rw[k]
  rw[List.getElem?_take_of_lt (by omega),Array.getElem?_toList]at this;rw[this];simp[a,encZ]
def yJ{ρ:Env}{l i n e:Nat}{q:Option Nat}{x:Value}(h:a1 ρ (.ag l i n e q) x):∃(loc:Go.bN.Loc) (a:Addr) (c:Nat),ρ l=D loc/\loc.esz=e/\n<=c/\(0<c->a=⟨loc.block,loc.off+i*loc.esz,Y⟩)/\x= .slice (D a) n c:=by
 cases h with
 |ag _ _ _ _ loc a c h d f b=>exact⟨loc,a,c,h,rfl,d,λh=>(b h).1,rfl⟩
def rT(xs:List Int)(n:Nat)(H:ae):aa×ae:=match xs with
 |[]=>(.ar,H)
 |_=>(.ag H.next 0 n 1 Y,H.push (.row U 1 (xs.map ek)))
def JL{H:ae}{l m i n:Nat}{ro:Bool}{q:Option Nat}{es:List (List aa)}{xs:List Int}(ai:H.get l=D (.row ro 1 [[.ag m i n 1 q]]))(he:du H m i n 1=D es)(ay:fu es=D xs)(aH:n<=1000000):
  b6 aI P 95 [.func (.func 97) [] [.ptr l 0 0]] H (rT xs n H).1 (rT xs n H).2:=by
 intro ρ w aL p ad Q aJ next K
 cases Q with|cons _ _ _ _ u o=>
 cases u with|func _ _ _ _ _ af S=>
 cases af;cases o;cases S with|cons _ _ _ _ M N=>
 cases N;cases M with|ptr _ _ _ loc am=>
 obtain⟨aB,an,L⟩:=p.row _ _ _ _ ai;obtain rfl:loc=aB:=Option.some.inj (am.symm.trans an);have G:=L.lt;obtain⟨aF,c,t,aD,b,-,av⟩:=L;obtain⟨-,o⟩:=av 0 _ rfl;obtain⟨-,x,az,r⟩:=o 0 _ rfl;obtain⟨els,al,hlen,R⟩:=zs he;have F:=sm ay;have s:xs.length=n:=by rw[<-hlen,F];simp
 obtain⟨A,a,f,ao,E,aE,O,rfl⟩:=yJ r;have C:w.cell? ⟨loc.block,loc.off+0*loc.esz+0,Y⟩=D (.slice (D a) n f):=by
  simp[World.cell?,b];simpa using az
 cases xs with
 |nil=>
  obtain rfl:n=0:=s.symm;refine m5 (c:=aG Tryz.f95) Tryz.func95 (by kernel_rfl) ?_;refine Calls.mono (wv w loc.block (loc.off+0*loc.esz+0) G (D a) f C) ?_;rintro e aC ⟨rfl,b⟩;exact⟨_,rfl,K _ _ ρ .ar (yP p b)⟩
 |cons z B=>
  have ah:ρ H.next=none:=ad.new _ (bM _) (by simp[rT])
  have aq:0<f:=by simp at s;omega
  obtain rfl:=O aq;obtain⟨aK,ax,ap⟩:=zu p al ao;refine m5 (c:=aG Tryz.f95) Tryz.func95 (by kernel_rfl) ?_;refine Calls.mono (AI w loc.block (loc.off+0*loc.esz+0) G A.block (A.off+i*A.esz) f (z::B) (by omega) (by rw[C,s]) (λj d=>⟨ap,?_⟩)) ?_
  ·have au:els[i+j]? =D (ek ((z::B)[j]'d)):=by
    rw[R j (by omega),F,List.getElem?_map,List.getElem?_eq_getElem d];rfl
   have:=wR ax au;rw[E,Nat.mul_one]at this;rw[E,Nat.mul_one,Nat.add_assoc,this,List.getElem?_eq_getElem d];rfl
  ·rintro e aC ⟨v,rfl,u,o,b⟩;obtain⟨g,cap,cur,rfl,ak,aj,T,W,ab⟩:=JQ u (by simp);refine⟨_,rfl,K _ _ (ρ.b2 H.next ⟨g,0,1,cap⟩) ?_ (TB p ah b _ ak ?_)⟩
   ·rw[show n=(z::B).length from s.symm];exact .ag H.next 0 _ Y ⟨g,0,1,cap⟩ _ _ (Env.ct _ _ _) T (λk h=>by cases h) (λ_=>⟨by simp,by simp⟩)
   ·refine⟨rfl,cur,3,(0,0),aj,⟨W.symm,λ_ aw _ h=>by simp at h⟩,λj e he=> ?_⟩;rw[List.getElem?_map]at he;obtain⟨y,aA,rfl⟩:=Option.map_eq_some_iff.1 he;refine⟨rfl,λk v r=> ?_⟩;rcases k with _|k
    ·cases r;obtain⟨d,rfl⟩:=List.getElem?_eq_some_iff.1 aA;exact⟨rfl,_,by simpa using ab j d,.int _ _⟩
    ·simp[ek]at r
def JM{H:ae}{l:Nat}{ro:Bool}(o:H.get l=D (.row ro 1 [[.ar]])):b6 aI P 95 [.func (.func 97) [] [.ptr l 0 0]] H .ar H:=by
 intro ρ w G d C j E next s
 cases j with|cons _ _ _ _ g a=>
 cases g with|func _ _ _ _ _ n k=>
 cases n;cases a;cases k with|cons _ _ _ _ h i=>
 cases i;cases h with|ptr _ _ _ loc p=>
 obtain⟨z,q,f⟩:=d.row _ _ _ _ o;obtain rfl:loc=z:=Option.some.inj (p.symm.trans q);have r:=f.lt;obtain⟨B,c,t,A,b,-,u⟩:=f;obtain⟨-,a⟩:=u 0 _ rfl;obtain⟨-,x,y,v⟩:=a 0 _ rfl;cases v;have m:w.cell? ⟨loc.block,loc.off+0*loc.esz+0,Y⟩=D (.slice Y 0 0):=by
  simp[World.cell?,b];simpa using y
 refine m5 (c:=aG Tryz.f95) Tryz.func95 (by kernel_rfl) ?_;refine Calls.mono (wv w loc.block (loc.off+0*loc.esz+0) r Y 0 m) ?_;rintro e F ⟨rfl,b⟩;exact⟨_,rfl,s _ _ ρ .ar (yP d b)⟩
def heap_sorted{w:World}{g off n:Nat}{os:Array Obj}{cur:Array Value}{e:TypeId}{a:Nat×Nat}(d:Array Int)(b:w.heap[g]? =D (.cells cur e a)):
  (Go.Sort.grow (Go.Sort.putRow (Value.int .i64) (Go.Sort.ahead w n) g off d) os).heap[g]? =D (.cells (Go.Sort.putCells (Value.int .i64) off d cur) e a):=by
 have c:g<w.heap.size:=(Array.getElem?_eq_some_iff.1 b).1;rw[Go.Sort.heap_grow_old _ _ (by simpa using c)];simp[Go.Sort.putRow,Go.Sort.mapBlock,Go.Sort.ahead,Array.getElem?_modify,b,Go.Sort.onCells]
def Dv{w:World}{g off n k:Nat}{os:Array Obj}(d:Array Int)(a:k<w.heap.size)(b:k≠g):
  (Go.Sort.grow (Go.Sort.putRow (Value.int .i64) (Go.Sort.ahead w n) g off d) os).heap[k]? =w.heap[k]? :=by
 rw[Go.Sort.heap_grow_old _ _ (by simpa using a)];simp[Go.Sort.putRow,Go.Sort.mapBlock,Go.Sort.ahead,Array.getElem?_modify,Ne.symm b]
def JO{H:ae}:b6 aI P 96 [.ar] H (.tuple []) H:=by
 intro ρ w k d h f i next g
 cases f with|cons _ _ _ _ a b=>
 cases a;cases b;refine m5 (c:=aG Tryz.f96) Tryz.func96 (by kernel_rfl) ?_;refine Calls.mono (Go.Proofs.AnyM.slices_Sort_int_none Tryz.vA Y 0 w) ?_;rintro e j ⟨rfl,rfl⟩;exact⟨_,rfl,g _ _ ρ (.tuple [] [] .nil) (Step.refl d)⟩
def JN{H:ae}{l n:Nat}{q:Option Nat}{es:List (List aa)}{xs:List Int}(u:H.get l=D (.row U 1 es))(aj:fu es=D xs)(S:es.length=n)(au:n<=1000000):
  b6 aI P 96 [.ag l 0 n 1 q] H (.tuple []) (H.set l (.row U 1 ((xs.mergeSort λx y=>decide (x<=y)).map ek))):=by
 intro ρ w ay r aq R av next F
 cases R with|cons _ _ _ _ N g=>
 cases g;obtain⟨loc,a,o,z,B,ao,Q,rfl⟩:=yJ N;obtain⟨am,W,f⟩:=r.row _ _ _ _ u;obtain rfl:loc=am:=Option.some.inj (z.symm.trans W);have ab:=f.lt;have s:=sm aj;have K:xs.length=n:=by rw[<-S,s];simp
 refine m5 (c:=aG Tryz.f96) Tryz.func96 (by kernel_rfl) ?_;by_cases M:n=0
 ·subst M;refine Calls.mono (Go.Proofs.AnyM.slices_Sort_int_none Tryz.vA (D a) o w) ?_;rintro e an ⟨rfl,rfl⟩;have ak:xs=[]:=List.eq_nil_of_length_eq_zero K;subst ak;refine⟨_,rfl,F _ _ ρ (.tuple [] [] .nil) (yQ r u z rfl rfl rfl (bM _) (λ_ _ _=>rfl) ?_)⟩;rw[s]at f;simpa using f
 ·have ah:0<o:=by omega
  obtain rfl:=Q ah;obtain⟨ap,c,t,L,m,⟨ai,C⟩,ax⟩:=id f;have A:∀j (b:j<xs.length),c[loc.off+j]? =D (.int .i64 xs[j]):=λj b=>by
   have:=wR f (i:=j) (n:=xs[j]) (by rw[s];simp[b]);rw[B]at this;simpa [World.cell?,m]using this
  have O:Go.Sort.Holds (Value.int .i64) w loc.block (loc.off+0*loc.esz) xs.toArray:=λj b=>by
   have d:j<xs.length:=by simpa using b
   have g:=A j d;have p:loc.off+j<c.size:=(Array.getElem?_eq_some_iff.1 g).1;refine⟨?_,?_⟩
   ·simp[World.cell?,m,g,d]
   ·have:=C rfl _ p;simp[World.frozen?,m];simpa using this
  have E:=Go.Proofs.AnyM.slices_Sort_int Tryz.vA loc.block (loc.off+0*loc.esz) o xs w O ab (by omega);rw[K]at E;refine Calls.mono E ?_;rintro e an ⟨rfl,k,os,rfl⟩;refine⟨_,rfl,F _ _ ρ (.tuple [] [] .nil) (yQ r u z rfl rfl rfl (by simp[Go.Sort.grow,Go.Sort.ahead]) (λk T ad=>Dv _ T ad) ?_)⟩;refine⟨B,_,t,L,heap_sorted _ m,⟨by simp[Go.Sort.putCells,ai],λh aw af=>C h aw (by simpa [Go.Sort.putCells]using af)⟩,λj e he=> ?_⟩;rw[List.getElem?_map]at he;obtain⟨y,al,rfl⟩:=Option.map_eq_some_iff.1 he;refine⟨rfl,λi v G=> ?_⟩;rcases i with _|i
  ·cases G;obtain⟨b,rfl⟩:=List.getElem?_eq_some_iff.1 al;have d:j<xs.length:=by simpa using b
   have p:loc.off+j<c.size:=(Array.getElem?_eq_some_iff.1 (A j d)).1;refine⟨rfl,_,?_,.int _ _⟩;simp[Go.Sort.putCells,p,d]
  ·simp[ek]at G
def eu:bm aI P bd:=by
 intro g args H v H' h;unfold bd at h;split at h
 ·rename_i l;split at h
  ·rename_i ro a;cases h;exact JM a
  ·rename_i ro m i n q a;split at h
   ·rename_i es he;split at h
    ·rename_i xs b;split at h
     ·rename_i d;have:=JL a he b d;cases xs with
      |nil=>cases h;exact this
      |cons z e=>cases h;exact this
     ·cases h
    ·cases h
   ·cases h
  ·cases h
 ·cases h;exact JO
 ·rename_i l n q;split at h
  ·rename_i es a;split at h
   ·rename_i xs b;split at h
    ·rename_i c;cases h;exact JN a b c.1 c.2
    ·cases h
   ·cases h
  ·cases h
 ·cases h
end
section
open Go.bN
set_option maxRecDepth 100000
def yK(k d eV e cF f a g b h c i n5 j n6 l n7:Nat):bl P k 31 8 [(0,.ag d 0 eV 1 (D eV)),(1,.ag e 0 cF 1 (D cF)),(2,.ag f 0 a 1 (D a)),(3,.ag g 0 b 1 (D b)),(4,.ag h 0 c 1 (D c)),(5,.ag i 0 n5 1 (D n5)),(6,.ag j 0 n6 1 (D n6)),(7,.ag l 0 n7 1 (D n7))]=D (.ag k 0 8 1 (D 8),.row U 1 [[.ag d 0 eV 1 (D eV)],[.ag e 0 cF 1 (D cF)],[.ag f 0 a 1 (D a)],[.ag g 0 b 1 (D b)],[.ag h 0 c 1 (D c)],[.ag i 0 n5 1 (D n5)],[.ag j 0 n6 1 (D n6)],[.ag l 0 n7 1 (D n7)]]):=by kernel_rfl
def Ga{H:ae}{l i n e:Nat}{cap:Option Nat}:aW P H .len [57] [.ag l i n e cap]=D (.int .i64 n):=by kernel_rfl
def JP(z:Int)(c:z<0\/8<=z):∃H',fe (gz P bd) (.int .i64 z) ae.empty=D (.bool V,H'):=by
 have h:W (fe (gz P bd) (.int .i64 z) ae.empty) λr H'=>r= .bool true:=by
  by_cases a:z<0
  ·simp-implicitDefEqProofs(disch:=try exact wB)only[fe,aa.cells,aZ,ck,aA,ah,Nat.reduceAdd,Nat.reduceLeDiff,reduceIte,rM,r0,yK,a,decide_true];exact⟨_,_,rfl,rfl⟩
  ·have b:((8:Nat):Int)<=z:=by omega
   simp-implicitDefEqProofs(disch:=try exact wB)only[fe,aa.cells,aZ,ck,aA,ah,Nat.reduceAdd,Nat.reduceLeDiff,reduceIte,rM,r0,yK,Ga,a,b,decide_true,decide_false];exact⟨_,_,rfl,rfl⟩
 obtain⟨v,H',e,rfl⟩:=h;exact⟨H',e⟩
def Fu(z:Int):∃H',b6 aI P 7 [.int .i64 z] ae.empty (.bool V) H':=by
 by_cases a:z<0\/8<=z
 ·obtain⟨H',h⟩:=JP z a;exact⟨H',fq (c:=aG Tryz.f7) (M:=0) aR (AO aR eu) Tryz.func7 (by kernel_rfl) (by kernel_rfl) (by kernel_rfl) (Eq.trans (yA (gz P bd) 0 (.int .i64 z) ae.empty) h)⟩
 ·have h:z=0\/z=1\/z=2\/z=3\/z=4\/z=5\/z=6\/z=7:=by omega
  rcases h with rfl|rfl|rfl|rfl|rfl|rfl|rfl|rfl
  ·exact⟨_,Ev eu _⟩
  ·exact⟨_,ED eu _⟩
  ·exact⟨_,EM eu _⟩
  ·exact⟨_,EV eu _⟩
  ·exact⟨_,E3 eu _⟩
  ·exact⟨_,Fa eu _⟩
  ·exact⟨_,Fj eu _⟩
  ·exact⟨_,Ft eu _⟩
end
section
open Go.bN
open Go.ChangeShapes Go.WideShapes Go.ChangeAt Go.RowKit
open Go.ChangeMaps (open_string shut_string)
namespace yF
set_option maxRecDepth 100000 in
def lifted(os:Os)(started:os.Started)(H:Type)(enc:TypeId×Value->H):
  ReturnsInHanded {} Tryz.checked os 7 .any (Rows.signKnownSpec.pre6 enc Tryz.prog Tryz.f7 Rows.signKnownRow.domain U) (Rows.signKnownSpec.post enc Tryz.prog Tryz.f7 U V U U):=by
 refine returnsInHanded_of_change (C:=Tryz.checked) own started (by kernel_rfl) Tryz.func7
  (ChangeSpec.witness6 (enc:=enc) (C:=Tryz.checked) U ⟨#[],#[.int .i64 0],[]⟩ 8 (by kernel_rfl) (by kernel_rfl) (by kernel_rfl) (by kernel_rfl)) ?_
 intro W base args k gs before w d E _;have i:∀(j:Nat) t v,Tryz.f7.params[j]? =D t->args[j]? =D v->Value.okWide Tryz.prog W .any base t v:=w;have o:=d;obtain⟨p,q,m,n,rfl,F,G⟩:=d;have a:DataW.TrodAll enc Tryz.prog W 0 (λ_=>V) V Tryz.f7.params.toList args.toList k p:=m;have f:Tryz.f7.params= #[3]:=by kernel_rfl
 rw[f]at a i;obtain⟨v0,M,d0,A,K,L,B,rfl,rfl,l,y⟩:=trodAll_cons a;obtain⟨rfl,rfl,rfl⟩:=trodAll_nil y;obtain rfl:args= #[v0]:=by cases args;simp_all
 obtain⟨rfl,rfl⟩:=trodVars_none n;obtain⟨a0,u,-,-,w0⟩:=open_int (P:=P) U5 (i 0 3 v0 rfl rfl) l;subst u;have r:rD aI P 7 [.int .i64 a0] W:=by obtain⟨H',h⟩:=Fu a0;exact Fz (.cons _ _ _ _ (.int _ _) .nil) h
 refine(FA (c:=aG Tryz.f7) aR Tryz.func7 (by kernel_rfl) r).mono λe z ⟨he,b⟩=> ?_
 subst he;obtain⟨x,s⟩:=yT laidOut b (ts:=[3]) (λt g=>by
  simp only[List.mem_cons,List.not_mem_nil,or_false]at g;rcases g with rfl<;>exact⟨by kernel_rfl,of_decide_eq_true (by kernel_rfl)⟩) a
 exact⟨_,rfl,_,_,_,[],x,[],o,trodAll_mk1 (shut_bool (P:=P) U6 _),by rw[f];exact s,rfl,b.frame _,λh=>by cases h⟩
end yF
theorem signKnown_holds:Rows.SignKnownSaid:=
 (OpenClaim.holds_of_wide 7 Tryz.f7 rfl rfl rfl rfl rfl rfl rfl ⟨rfl,rfl,rfl,rfl,rfl⟩ rfl rfl rfl rfl rfl (by kernel_rfl) Tryz.func7 (by kernel_rfl)
  (of_decide_eq_true (by kernel_rfl)) (by unfold Func.isWrapper;first|(rw[if_pos (by decide+kernel)];kernel_rfl)|(rw[if_neg (by decide+kernel)];exact⟨rfl,rfl⟩))
  (λos started H enc _=>yF.lifted os started H enc):Rows.signKnownRow.holds Tryz.pinned (OpenSpec.ofChange Rows.signKnownSpec))
