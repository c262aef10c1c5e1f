/-
  Texts of one proof, laid together: Lays OrcA OrcB OrcC Rt Rw Wx Ye SignAlike.
-/
import Derived.Shelf.SlGeneric
import Derived.Shelf.SlIterI.Collect
import Derived.Shelf.SortM.Plain
import Derived.Shelf.SortM.SortNone
import Derived.Ground.GgzProg
import Derived.Ground.SlgmProg
import Derived.RangeFuncBox
import Derived.RangeFuncLeaves
import Derived.Shelf.Abstract
import Derived.OwnWalkIn
import Derived.TacticsInMore
import Derived.LoopNIn
import Derived.LoopIn
import Derived.Sort.OwnSortedInts
import Derived.Test.YtmhhnnklfcbgfaaGreatMY
import Derived.Test.YtmhhnnklfcbgfaaGreatRows
set_option linter.unusedVariables false
set_option linter.unusedSimpArgs false
set_option linter.defProp false
open Option renaming some→D,none→I
open Bool renaming true→C,false→Z
namespace Go.Proofs
open Go.Shelf
def Tryz.LJ:Go.Shelf.Ren:=⟨λ |8=>95|11=>143|n=>n,λ |26=>3|28=>84|24=>30|0=>0|33=>70|4=>4|n=>n,λ |n=>n⟩
def Tryz.Dj:Go.Proofs.SlLaysZI.n8 Tryz.prog Tryz.LJ:={
 mixed:=by kernel_rfl
 f8:=⟨Tryz.f95.name,by decide,Tryz.func95.trans (congrArg D (by kernel_rfl))⟩
 f11:=⟨Tryz.f143.name,by decide,Tryz.func143.trans (congrArg D (by kernel_rfl))⟩
 t0:=Tryz.underlying0
 a0:=Tryz.isAgg0
 z0:=Tryz.sizeOf0
 v0:=Tryz.zeroValue0
 t24:=Tryz.underlying30
 a24:=Tryz.isAgg30
 z24:=Tryz.sizeOf30
 v24:=Tryz.zeroValue30
 t26:=Tryz.underlying3
 a26:=Tryz.isAgg3
 z26:=Tryz.sizeOf3
 v26:=Tryz.zeroValue3
 t28:=Tryz.underlying84
 a28:=Tryz.isAgg84
 z28:=Tryz.sizeOf84
 v28:=Tryz.zeroValue84
 i26:=by kernel_rfl}
def Tryz.ZX:Go.Shelf.Ren:=⟨λ |5=>96|8=>145|7=>144|19=>204|20=>205|10=>195|11=>196|12=>197|13=>198|14=>199|15=>200|16=>201|17=>202|18=>203|30=>229|31=>230|32=>231|33=>232|34=>233|35=>234|40=>254|n=>n,λ |23=>30|25=>3|3=>3|32=>217|22=>30|0=>0|44=>271|46=>251|4=>4|36=>265|35=>264|41=>223|5=>5|9=>9|53=>294|57=>298|63=>320|64=>321|n=>n,λ |n=>n⟩
def Tryz.Bt:Go.Proofs.SlLaysM.n5 Tryz.prog Tryz.ZX:={
 mixed:=by kernel_rfl
 f5:=⟨Tryz.f96.name,by decide,Tryz.func96.trans (congrArg D (by kernel_rfl))⟩
 f7:=⟨Tryz.f144.name,by decide,Tryz.func144.trans (congrArg D (by kernel_rfl))⟩
 f8:=Tryz.func145.trans (congrArg D (by kernel_rfl))
 f10:=⟨Tryz.f195.name,by decide,Tryz.func195.trans (congrArg D (by kernel_rfl))⟩
 f11:=⟨Tryz.f196.name,by decide,Tryz.func196.trans (congrArg D (by kernel_rfl))⟩
 f12:=⟨Tryz.f197.name,by decide,Tryz.func197.trans (congrArg D (by kernel_rfl))⟩
 f13:=⟨Tryz.f198.name,by decide,Tryz.func198.trans (congrArg D (by kernel_rfl))⟩
 f14:=⟨Tryz.f199.name,by decide,Tryz.func199.trans (congrArg D (by kernel_rfl))⟩
 f15:=⟨Tryz.f200.name,by decide,Tryz.func200.trans (congrArg D (by kernel_rfl))⟩
 f16:=⟨Tryz.f201.name,by decide,Tryz.func201.trans (congrArg D (by kernel_rfl))⟩
 f17:=⟨Tryz.f202.name,by decide,Tryz.func202.trans (congrArg D (by kernel_rfl))⟩
 f18:=⟨Tryz.f203.name,by decide,Tryz.func203.trans (congrArg D (by kernel_rfl))⟩
 f19:=Tryz.func204.trans (congrArg D (by kernel_rfl))
 f20:=Tryz.func205.trans (congrArg D (by kernel_rfl))
 f30:=⟨Tryz.f229.name,by decide,Tryz.func229.trans (congrArg D (by kernel_rfl))⟩
 f31:=Tryz.func230.trans (congrArg D (by kernel_rfl))
 f32:=Tryz.func231.trans (congrArg D (by kernel_rfl))
 f33:=⟨Tryz.f232.name,by decide,Tryz.func232.trans (congrArg D (by kernel_rfl))⟩
 f34:=⟨Tryz.f233.name,by decide,Tryz.func233.trans (congrArg D (by kernel_rfl))⟩
 f35:=⟨Tryz.f234.name,by decide,Tryz.func234.trans (congrArg D (by kernel_rfl))⟩
 f40:=⟨Tryz.f254.name,by decide,Tryz.func254.trans (congrArg D (by kernel_rfl))⟩
 t0:=Tryz.underlying0
 a0:=Tryz.isAgg0
 z0:=Tryz.sizeOf0
 v0:=Tryz.zeroValue0
 t3:=Tryz.underlying3
 a3:=Tryz.isAgg3
 z3:=Tryz.sizeOf3
 v3:=Tryz.zeroValue3
 t4:=Tryz.underlying4
 a4:=Tryz.isAgg4
 z4:=Tryz.sizeOf4
 v4:=Tryz.zeroValue4
 t5:=Tryz.underlying5
 a5:=Tryz.isAgg5
 z5:=Tryz.sizeOf5
 v5:=Tryz.zeroValue5
 t9:=Tryz.underlying9
 a9:=Tryz.isAgg9
 z9:=Tryz.sizeOf9
 v9:=Tryz.zeroValue9
 t22:=Tryz.underlying30
 a22:=Tryz.isAgg30
 z22:=Tryz.sizeOf30
 v22:=Tryz.zeroValue30
 t23:=Tryz.underlying30
 a23:=Tryz.isAgg30
 z23:=Tryz.sizeOf30
 v23:=Tryz.zeroValue30
 t25:=Tryz.underlying3
 a25:=Tryz.isAgg3
 z25:=Tryz.sizeOf3
 v25:=Tryz.zeroValue3
 t32:=Tryz.underlying217
 a32:=Tryz.isAgg217
 z32:=Tryz.sizeOf217
 v32:=Tryz.zeroValue217
 t35:=Tryz.underlying264
 a35:=Tryz.isAgg264
 z35:=Tryz.sizeOf264
 v35:=Tryz.zeroValue264
 t36:=Tryz.underlying265
 a36:=Tryz.isAgg265
 z36:=Tryz.sizeOf265
 v36:=Tryz.zeroValue265
 t41:=Tryz.underlying223
 a41:=Tryz.isAgg223
 z41:=Tryz.sizeOf223
 v41:=Tryz.zeroValue223
 t44:=Tryz.underlying271
 a44:=Tryz.isAgg271
 z44:=Tryz.sizeOf271
 v44:=Tryz.zeroValue271
 t46:=Tryz.underlying251
 a46:=Tryz.isAgg251
 z46:=Tryz.sizeOf251
 v46:=Tryz.zeroValue251
 t53:=Tryz.underlying294
 a53:=Tryz.isAgg294
 z53:=Tryz.sizeOf294
 v53:=Tryz.zeroValue294
 t57:=Tryz.underlying298
 a57:=Tryz.isAgg298
 z57:=Tryz.sizeOf298
 v57:=Tryz.zeroValue298
 t63:=Tryz.underlying320
 a63:=Tryz.isAgg320
 z63:=Tryz.sizeOf320
 v63:=Tryz.zeroValue320
 t64:=Tryz.underlying321
 a64:=Tryz.isAgg321
 z64:=Tryz.sizeOf321
 v64:=Tryz.zeroValue321}
end Go.Proofs
namespace Go.Proofs.YtmhhnnklfcbgfaaGreat
section
open Go.RowKit Go.Maps Go.Sort Go.Shelf Go.Proofs
section
variable {P:Program}{ρ:Ren}
set_option maxRecDepth 100000 in
set_option maxHeartbeats 2000000 in
def KD(L:SlLaysZI.n11 P ρ)(F:Fence)(n:Nat)(R:F.fn (ρ.f 11))(E:F.round=I)(aS:2<=n)(g:Nat)(b:Array Value)(T:F.fn g)(Q:∀args w,(callFunc g args).run P w= .ok (.enter g args) w)
  (S:List Int->Prop) (N:Nat) (Y:N<=maxLen) (aa:N*8<=140737488355328) (w:World) (ak:∀(l zD:Nat) (fn:FuncId) (W:World),(∀pre x a,AnyZI.ApAt ρ w fn (.func (.func g) #[] b) w.heap.size l zD pre a->pre.length<N->YieldAt F (n-1-1) P l #[encZ x] a λe m=>e= .returned (.bool C)/\AnyZI.ApAt ρ w fn (.func (.func g) #[] b) w.heap.size l zD (pre++[x]) m/\KeepsWalks a m)->AnyZI.ApAt ρ w fn (.func (.func g) #[] b) w.heap.size l zD [] W->CallsIn F (n-1) P g (#[.func (.yield l) #[] #[]]++b) W λe m=>(∃v,e= .returned v)/\∃xs,S xs/\AnyZI.ApAt ρ w fn (.func (.func g) #[] b) w.heap.size l zD xs m):
  CallsIn F n P (ρ.f 11) #[.slice I 0 0,.func (.func g) #[] b] w λe M=>∃(v:Value) (i:List Int),e= .returned v/\S i/\M.ownsRow w.heap.size (ρ.t 26) 1 v i.length (i.map encZ)/\(v= .slice I 0 0↔i=[])/\Below w.heap.size w M:=by
 have ae:1<=n:=by omega
 have mixed:=L.mixed;have t0:=L.t0;have a0:=L.a0;have z0:=L.z0;have v0:=L.v0;have t24:=L.t24;have a24:=L.a24;have z24:=L.z24;have v24:=L.v24;have t26:=L.t26;have a26:=L.a26;have z26:=L.z26;have v26:=L.v26;have t28:=L.t28;have a28:=L.a28;have z28:=L.z28;have v28:=L.v28;have B:ρ.t 24≠ρ.t 26:=λe=>by have h:=L.t24;rw[e,L.t26]at h;cases h
 have au:=run_underlying L.t0;have av:=run_underlying L.t24;have aw:=run_underlying L.t26;have ax:=run_underlying L.t28;obtain⟨_,_,O⟩:=L.f11;refine callsIn_of_wp_marks O rfl R ?_ E;simp only[SlBodyZ.n11_ntmps ρ,List.size_toArray,List.length_cons,List.length_nil,Nat.reduceAdd,Nat.reduceSub,Array.replicate_succ,Array.replicate_zero,List.push_toArray,List.append_toArray,List.nil_append,List.cons_append]
 gi_wp2
 refine wpIn_rangeFunc ?_;intro fn af;rw[E];obtain⟨ep,o⟩:∃ep,w.alloc (.cells #[.slice I 0 0] (ρ.t 24))=ep:=⟨_,rfl⟩;have aj:ep.heap.size=w.heap.size+1:=by rw[<-o];simp
 have am:ep.heap[w.heap.size]? =D (.cells #[.slice I 0 0] (ρ.t 24) (0,0)):=by rw[<-o];exact World.alloc_heap_new w _
 have p:Below w.heap.size w ep:=by rw[<-o];exact(Below.refl _ w).alloc (Nat.le.refl) _
 rw[o];obtain⟨a,d⟩:∃a,(ep.alloc (.deferred (D []))).alloc (.loop (AnyZI.apRec ρ fn (.func (.func g) #[] b) w.heap.size ep.heap.size .ready I))=a:=⟨_,rfl⟩;have hold:∀k,k<ep.heap.size->a.heap[k]? =ep.heap[k]? :=λk ag=>by
  rw[<-d];exact(Below.heap_alloc _ _ k (by simp;omega)).trans (Below.heap_alloc _ _ k ag)
 have ad:Below w.heap.size w a:=by rw[<-d];exact(p.alloc p.size _).alloc (by have:=p.size;simp;omega) _
 have ar:a.heap.size=ep.heap.size+2:=by rw[<-d];simp
 have V:AnyZI.ApAt ρ w fn (.func (.func g) #[] b) w.heap.size (ep.heap.size+1) ep.heap.size [] a:=
  ⟨⟨_,(hold w.heap.size (by omega)).trans am,⟨rfl,.inl ⟨rfl,rfl⟩⟩,by simp⟩,
   by rw[<-d];have:=World.alloc_heap_new (ep.alloc (.deferred (D []))) (.loop (AnyZI.apRec ρ fn (.func (.func g) #[] b) w.heap.size ep.heap.size .ready I));rwa[World.size_alloc]at this,
   by rw[<-d];exact(Below.heap_alloc _ _ _ (by simp)).trans (World.alloc_heap_new ep _),ad⟩
 refine⟨ep.heap.size+1,[{target:= .collected ep.heap.size,args:= #[]}],a,{target:= .fn (.func g) b,args:= #[.func (.yield (ep.heap.size+1)) #[] #[]]},a,g,
  #[.func (.yield (ep.heap.size+1)) #[] #[]]++b,a,?_,?_,?_,?_,λ_=>ae,?_⟩
 ·rw[<-d];exact run_enterLoop_outer _ _ _ _ _
 ·simp[resolve,go_sem]
 ·intro ao z;simp[Target.leads]at z;subst z;exact T
 ·simp[invoke,go_sem,Q]
 ·refine(ak (ep.heap.size+1) ep.heap.size fn a
   (λpre x W U az=>AnyZI.apYield {L with} F (n-1-1) w fn af _ w.heap.size (ep.heap.size+1) ep.heap.size (by omega) (by omega) (by omega) (Nat.le.refl) (by omega) N Y aa pre x W U az) V).mono ?_
  rintro e q ⟨⟨v0,rfl⟩,i,ab,ah⟩;obtain⟨v,al,G,ai⟩:=ah.box;have u:=run_endLoop (P:=P) ah.L (by simp[AnyZI.apRec]);obtain⟨c,j⟩:∃c,q.putObj (ep.heap.size+1) (.loop {AnyZI.apRec ρ fn (.func (.func g) #[] b) w.heap.size ep.heap.size .ready I with state:= .exhausted})=c:=⟨_,rfl⟩;rw[j]at u;have A:q.grownBy c (D (ep.heap.size+1)):=by rw[<-j];exact grownBy_putObj_a _ _ _
  have an:c.heap[w.heap.size]? =D (.cells #[v] (ρ.t 24) (0,0)):=by rw[<-j];exact(World.putObj_heap_other (by omega)).trans al
  have r:c.heap[ep.heap.size]? =D (.deferred (D [])):=by rw[<-j];exact(World.putObj_heap_other (by omega)).trans ah.K
  have H:=G.kept A (ownsRow_ne_a G ah.L (λcur e=>by first|cases e|exact B (Obj.cells.inj e).2.1));have s:Below w.heap.size w c:=ah.below.grown A ah.below.size (λk e=>by cases e;omega);obtain⟨ap,aq⟩:=cell_of_box_a an;clear j;refine⟨I,c,u,?_⟩
  gi_wp2
  rw[<-aj];refine⟨by simp,.inl ⟨_,_,rfl,run_takeDeferred r,?_⟩⟩;exact⟨_,results_tmp rfl _ _ _,v,i,rfl,ab,H.kept (grownBy_putObj_a _ _ _) (ownsRow_ne_a H r (λcur e=>by first|cases e|exact B (Obj.cells.inj e).2.1)),ai,s.grown (grownBy_putObj_a _ _ _) s.size (λk e=>by cases e;omega)⟩
set_option maxHeartbeats 1000000 in
def Dl(L:SlLaysZI.n8 P ρ)(F:Fence)(n:Nat)(o:F.fn (ρ.f 8))(m:F.fn (ρ.f 11))(i:F.round=I)(aS:3<=n)(g:Nat)(a:Array Value)(p:F.fn g)(k:∀args w,(callFunc g args).run P w= .ok (.enter g args) w)
  (S:List Int->Prop) (N:Nat) (q:N<=maxLen) (r:N*8<=140737488355328) (w:World) (B:∀(l zD:Nat) (fn:FuncId) (W:World),(∀pre x d,AnyZI.ApAt ρ w fn (.func (.func g) #[] a) w.heap.size l zD pre d->pre.length<N->YieldAt F (n-1-1-1) P l #[encZ x] d λe c=>e= .returned (.bool C)/\AnyZI.ApAt ρ w fn (.func (.func g) #[] a) w.heap.size l zD (pre++[x]) c/\KeepsWalks d c)->AnyZI.ApAt ρ w fn (.func (.func g) #[] a) w.heap.size l zD [] W->CallsIn F (n-1-1) P g (#[.func (.yield l) #[] #[]]++a) W λe c=>(∃v,e= .returned v)/\∃xs,S xs/\AnyZI.ApAt ρ w fn (.func (.func g) #[] a) w.heap.size l zD xs c):
  CallsIn F n P (ρ.f 8) #[.func (.func g) #[] a] w λe h=>∃(v:Value) (b:List Int),e= .returned v/\S b/\h.ownsRow w.heap.size (ρ.t 26) 1 v b.length (b.map encZ)/\(v= .slice I 0 0↔b=[])/\Below w.heap.size w h:=by
 have ae:1<=n:=by omega
 have E:∀args w,(callFunc (ρ.f 11) args).run P w= .ok (.enter (ρ.f 11) args) w:=L.f11.enters rfl;have mixed:=L.mixed;have t0:=L.t0;have a0:=L.a0;have z0:=L.z0;have v0:=L.v0;have t24:=L.t24;have a24:=L.a24;have z24:=L.z24;have v24:=L.v24;have t26:=L.t26;have a26:=L.a26;have z26:=L.z26;have v26:=L.v26;have t28:=L.t28;have a28:=L.a28;have z28:=L.z28;have v28:=L.v28;have G:=run_underlying L.t0;have H:=run_underlying L.t24;have K:=run_underlying L.t26;have M:=run_underlying L.t28;obtain⟨_,_,j⟩:=L.f8;refine callsIn_of_wp j rfl o ?_ i;simp only[SlBodyZ.n8_ntmps ρ,List.size_toArray,List.length_cons,List.length_nil,Nat.reduceAdd,Nat.reduceSub,Array.replicate_succ,Array.replicate_zero,List.push_toArray,List.append_toArray,List.nil_append,List.cons_append]
 gi_wp2_with (gi_at_fn (ρ.f 11);refine(KD {L with} F (n-1) m i (by omega) g a p k S N q r _ B).mono ?_;rintro e h ⟨v,b,rfl,s,A,z,u⟩)
 go_ret
 exact⟨v,b,rfl,s,A,z,u⟩
end
def upto{α:Type}(f:Nat->α)(k:Nat):List α:=(List.range k).map f
def abj{α:Type}(f:Nat->α)(k:Nat):upto f (k+1)=upto f k++[f k]:=by simp[upto,List.range_succ]
def abi{α:Type}(f:Nat->α)(k:Nat):(upto f k).length=k:=by simp[upto]
def abh(a:List Int):upto (λj=>a[j]?.getD 0) a.length=a:=by
 apply List.ext_getElem
 ·simp[upto]
 ·intro i ae ah;simp[upto,ah]
attribute [local go_sem] Oper.semAt_some
set_option maxRecDepth 100000 in
set_option maxHeartbeats 2000000 in
def abk(F:Fence)(n:Nat)(w:F.fn 97)(K:F.round=I)(aS:1<=n)(l d g o b off len cap:Nat)(c:List Int)(O:len*8<=140737488351232)(G:0<len->b<o)(z:d<o)(w0:World)(a:List Int->World->Prop)(t:∀s W,a s W->Below o w0 W)
  (E:∀pre x W,a pre W->pre.length<len->YieldAt F (n-1) Tryz.prog l #[.int .i64 x] W λe f=>e= .returned (.bool C)/\a (pre++[x]) f)
  (W:World) (r:w0.cell? ⟨d,g,I⟩=D (.slice (D ⟨b,off,I⟩) len cap)) (aA:∀j,j<len->w0.cell? ⟨b,off+j,I⟩=D (.int .i64 (c[j]?.getD 0))) (q:a [] W):
  CallsIn F n Tryz.prog 97 #[.func (.yield l) #[] #[],.pointer (D ⟨d,g,I⟩)] W λe f=>(∃v,e= .returned v)/\a (upto (λj=>c[j]?.getD 0) len) f:=by
 have r:=((t _ _ q).cell (p:=⟨d,g,I⟩) z).trans r;refine callsIn_of_wp Tryz.func97 rfl w ?_ K;simp only[Tryz.ntmps97,List.size_toArray,List.length_cons,List.length_nil,Nat.reduceAdd,Nat.reduceSub,Array.replicate_succ,Array.replicate_zero,List.push_toArray,List.append_toArray,List.nil_append,List.cons_append]
 gi_wp2
 gi_loopw [7] (λi wr=>∃k:Nat,k<=len/\i= .int .i64 k/\a (upto (λj=>c[j]?.getD 0) k) wr)
  (λi _=>len-(intOf i).toNat)
 case atStart=>exact⟨0,Nat.zero_le _,rfl,q⟩
 case round=>
  obtain⟨k,N,rfl,m⟩:=hrel;have H:k<len->wr.cell? ⟨b,off+k,I⟩=D (.int .i64 (c[k]?.getD 0)):=λh=>((t _ _ m).cell (p:=⟨b,off+k,I⟩) (G (by omega))).trans (aA k h)
  by_cases u:k<len
  ·obtain⟨fn,tmps,assign,body,P,B⟩:=E _ (c[k]?.getD 0) wr m (by rw[abi];exact u);have M:=H u
   gi_wp2
   refine B.mono ?_;rintro e L ⟨rfl,A⟩
   gi_wp2
   go_roundw
   case rel=>exact⟨k+1,by omega,by simp,by rw[abj];exact A⟩
   case measure=>simp[intOf];omega
  ·obtain rfl:k=len:=by omega
   gi_wp2
   go_end0
   exact⟨⟨_,rfl⟩,m⟩
set_option maxRecDepth 100000 in
set_option maxHeartbeats 1000000 in
def abl(F:Fence)(n:Nat)(g:F.fn 97)(j:F.round=I)(l b c:Nat)(a:List Int->World->Prop)(W:World)(p:Option Addr)(cap:Nat)(k:W.cell? ⟨b,c,I⟩=D (.slice p 0 cap))(f:a [] W):
  CallsIn F n Tryz.prog 97 #[.func (.yield l) #[] #[],.pointer (D ⟨b,c,I⟩)] W λe d=>(∃v,e= .returned v)/\a [] d:=by
 refine callsIn_of_wp Tryz.func97 rfl g ?_ j;simp only[Tryz.ntmps97,List.size_toArray,List.length_cons,List.length_nil,Nat.reduceAdd,Nat.reduceSub,Array.replicate_succ,Array.replicate_zero,List.push_toArray,List.append_toArray,List.nil_append,List.cons_append]
 gi_wp2
 gi_loopw [7] (λi wr=>i= .int .i64 0/\a [] wr) (λ_ _=>0)
 case atStart=>exact⟨rfl,f⟩
 case round=>
  obtain⟨rfl,h⟩:=hrel
  gi_wp2
  go_end0
  exact⟨⟨_,rfl⟩,h⟩
end
section
open Go.bo Go.RowKit
def abG{F:Fence}{m:Nat}{Q:Program}{l:Nat}{args:Array Value}{W:World}{R S:Ending->World->Prop}(h:YieldAt F m Q l args W R)(b:∀e w,R e w->S e w):YieldAt F m Q l args W S:=by
 obtain⟨fn,tmps,assign,body,c,a⟩:=h;exact⟨fn,tmps,assign,body,c,a.mono b⟩
def LK(w:World)(c d:Nat)(m:c<w.heap.size)(b off cap:Nat)(a:List Int)(t:a.length<=1000000)(k:w.cell? ⟨c,d,I⟩=D (.slice (D ⟨b,off,I⟩) a.length cap))
  (aA:∀j,j<a.length->b<w.heap.size/\w.cell? ⟨b,off+j,I⟩=D (.int .i64 (a[j]?.getD 0))):
  Calls Tryz.prog 95 #[.func (.func 97) #[] #[.pointer (D ⟨c,d,I⟩)]] w λe f=>∃v:Value,e= .returned v/\f.ownsRow w.heap.size 3 1 v a.length (a.map encZ)/\(v= .slice I 0 0↔a=[])/\Below w.heap.size w f:=by
 refine(callsIn_wide (n:=6)).1 ?_;have h:=Dl Tryz.Dj Fence.wide 6 trivial trivial rfl (by omega) 97 #[.pointer (D ⟨c,d,I⟩)] trivial (enters_of Tryz.func97 (by kernel_rfl) rfl) (λg=>g=a) a.length (by simp only[maxLen];omega) (by omega) w
  (λl zD fn W p i=>(abk Fence.wide 4 trivial rfl (by omega) l c d w.heap.size b off a.length cap a (by omega) (λh=>(aA 0 h).1) m w _ (λs W h=>h.below) (λpre x W o az=>abG (p pre x W o az) λe f ⟨ae,ah,_⟩=>⟨ae,ah⟩) W k (λj q=>(aA j q).2) i).mono λe r ⟨ae,ah⟩=>⟨ae,_,rfl,by rw[abh]at ah;exact ah⟩)
 refine CallsIn.mono h ?_;rintro e f ⟨v,g,rfl,rfl,ae,ah,ak⟩;exact⟨v,rfl,ae,ah,ak⟩
def Dk(w:World)(a b:Nat)(i:a<w.heap.size)(p:Option Addr)(cap:Nat)(g:w.cell? ⟨a,b,I⟩=D (.slice p 0 cap)):
  Calls Tryz.prog 95 #[.func (.func 97) #[] #[.pointer (D ⟨a,b,I⟩)]] w λe f=>e= .returned (.slice I 0 0)/\Below w.heap.size w f:=by
 refine(callsIn_wide (n:=6)).1 ?_;have h:=Dl Tryz.Dj Fence.wide 6 trivial trivial rfl (by omega) 97 #[.pointer (D ⟨a,b,I⟩)] trivial (enters_of Tryz.func97 (by kernel_rfl) rfl) (λd=>d=[]) 0 (by simp only[maxLen];omega) (by omega) w
  (λl zD fn W k c=>(abl Fence.wide 4 trivial rfl l a b _ W p cap ((c.below.cell (p:=⟨a,b,I⟩) i).trans g) c).mono λe j ⟨ae,ah⟩=>⟨ae,_,rfl,ah⟩)
 refine CallsIn.mono h ?_;rintro e f ⟨v,d,rfl,rfl,ae,ah,ak⟩;obtain rfl:=ah.2 rfl;exact⟨rfl,ak⟩
def vn{f:Nat}{fn:Func}{c:Code}{xs:List Value}{w:World}{next:Value->World->Prop}(a:P.funcs[f]? =D fn)(aA:fn.body=D c)(h:Calls P f xs.toArray w λe b=>∃x,e= .returned x/\next x b):lO P (callFunc f xs.toArray) w next:=by
 have g:(fn.name== "runtime.NumGoroutine")=false:=bU.names fn (Array.mem_of_getElem? a);have j:(callFunc f xs.toArray).run P w= .ok (.enter f xs.toArray) w:=by
  unfold callFunc;simp[a,aA];intro d;simp[d]at g
 unfold lO;rw[j];simp only
 refine Calls.mono h λe b i=> ?_
 obtain⟨x,rfl,aD⟩:=i;exact aD
def IE{ρ:Env}{H:ad}{w c:World}(d:Rel ρ H w)(a:Below w.heap.size w c):Step ρ H w ρ H c:=
 ⟨ρ.le_refl,b4 _,λ_ _=>rfl,d.zM a.block,a.os,a.tape,a.output,a.size,λb h _=>a.block b h,λ_ h=> .inl h,λ_ _ _ h=>h⟩
def Z_{ρ:Env}{H:ad}{w n:World}(j:Rel ρ H w)(aN:ρ H.next=I)(c:Below w.heap.size w n)(loc:Go.bo.Loc)(az:w.heap.size<=loc.block){esz:Nat}{els:List (List aa)}(r:ft (ρ.dV H.next loc) n loc Z esz els):
  Step ρ H w (ρ.dV H.next loc) (H.push (.row Z esz els)) n:=by
 have hle:=Env.k8 aN loc;have k:=j.zM c.block;have o:∀l a,H.live l->ρ.dV H.next loc l=D a->a.block<w.heap.size:=λl a h ca=>by
  have i:l≠H.next:=by
   rintro rfl;have:=l3 h;omega
  rw[Env.ga i]at ca;exact j.y_ h ca
 refine⟨hle,by simp,λl az=>Env.ga (by simp at az;omega),⟨?_,?_,?_,?_⟩,c.os,c.tape,c.output,c.size,λb h _=>c.block b h,?_,ad.AS rfl⟩
 ·intro l ro q p h;by_cases e:l=H.next
  ·subst e;rw[ad.bq]at h;cases h;exact⟨loc,Env.fV _ _ _,r⟩
  ·rw[ad.eN e]at h;obtain⟨a,g,m⟩:=k.row _ _ _ _ h;exact⟨a,hle _ _ g,m.frame hle rfl⟩
 ·intro l es h;by_cases e:l=H.next
  ·subst e;rw[ad.bq]at h;cases h
  ·rw[ad.eN e]at h;obtain⟨a,g,ents,clock,c,ae,ah⟩:=k.map _ _ h;exact⟨a,hle _ _ g,ents,clock,c,ae.mono hle,ah.mono hle⟩
 ·intro l t q p h;by_cases e:l=H.next
  ·subst e;rw[ad.bq]at h;cases h
  ·rw[ad.eN e]at h;obtain⟨a,g,m⟩:=k.dz _ _ _ _ h;exact⟨a,hle _ _ g,m.frame hle rfl⟩
 ·intro l s v x ae ah i d f;rcases xh ae with rfl|ae
  ·rcases wN ah with rfl|ah
   ·exact absurd rfl i
   ·rw[Env.fV]at d;obtain rfl:=Option.some.inj d;have:=o _ _ ah f;omega
  ·rcases wN ah with rfl|ah
   ·rw[Env.fV]at f;obtain rfl:=Option.some.inj f;have:=o _ _ ae.live d;omega
   ·have cP:l≠H.next:=by rintro rfl;have:=l3 ae.live;omega
    have u:s≠H.next:=by rintro rfl;have:=l3 ah;omega
    rw[Env.ga cP]at d;rw[Env.ga u]at f;exact j.apart _ _ _ _ ae ah i d f
 ·rintro b ⟨l,a,ae,ah,ak⟩;rcases xh ae with rfl|ae
  ·rw[Env.fV]at ah;obtain rfl:=Option.some.inj ah;exact .inr (ak▸az)
  ·have cP:l≠H.next:=by rintro rfl;have:=l3 ae.live;omega
   rw[Env.ga cP]at ah;exact .inl ⟨l,a,ae,ah,ak⟩
def IF{ρ:Env}{H:ad}{w i:World}(j:Rel ρ H w){l:Nat}{esz:Nat}{els n:List (List aa)}(m:H.get l=D (.row Z esz els)){loc:Go.bo.Loc}(az:ρ l=D loc)
  (K:i.os=w.os) (O:i.tape=w.tape) (L:i.output=w.output) (N:w.heap.size<=i.heap.size) (u:∀k,k<w.heap.size->k≠loc.block->i.heap[k]? =w.heap[k]?) (M:ft ρ i loc Z esz n):
  Step ρ H w ρ (H.set l (.row Z esz n)) i:=by
 have q:=ad.b6 m;have r:∀c d,H.live c->c≠l->ρ c=D d->d.block≠loc.block:=λc d h ca e heq=>
  j.apart l c loc d (.inl ⟨_,_,m⟩) h (Ne.symm ca) az e heq.symm
 have v:∀c,(H.set l (.row Z esz n)).rw c->H.rw c:=by
  intro c h;by_cases f:l=c
  ·subst f;exact .inl ⟨_,_,m⟩
  ·simpa [ad.rw,ad.cW f]using h
 have E:∀c,(H.set l (.row Z esz n)).live c->H.live c:=by
  intro c h;by_cases f:l=c
  ·subst f;exact .inl ⟨_,_,_,m⟩
  ·simpa [ad.live,ad.cW f]using h
 have p:∀c d,H.live c->c≠l->ρ c=D d->i.heap[d.block]? =w.heap[d.block]? :=λc d h ca e=>u _ (j.y_ h e) (r _ _ h ca e)
 refine⟨ρ.le_refl,b4 _,λ_ _=>rfl,⟨?_,?_,?_,?_⟩,K,O,L,N,?_,?_,ad.AT rfl⟩
 ·intro c R B A h;by_cases f:l=c
  ·subst f;rw[ad.dA q]at h;cases h;exact⟨loc,az,M⟩
  ·rw[ad.cW f]at h;obtain⟨d,g,s⟩:=j.row _ _ _ _ h;exact⟨d,g,s.frame ρ.le_refl (p c d (.inl ⟨_,_,_,h⟩) (Ne.symm f) g)⟩
 ·intro c Q h;by_cases f:l=c
  ·subst f;rw[ad.dA q]at h;cases h
  ·rw[ad.cW f]at h;obtain⟨d,g,ents,clock,o,ae,ah⟩:=j.map _ _ h;exact⟨d,g,ents,clock,by rw[p c d (.inr (.inl ⟨_,h⟩)) (Ne.symm f) g];exact o,ae,ah⟩
 ·intro c t B A h;by_cases f:l=c
  ·subst f;rw[ad.dA q]at h;cases h
  ·rw[ad.cW f]at h;obtain⟨d,g,s⟩:=j.dz _ _ _ _ h;exact⟨d,g,s.frame ρ.le_refl (p c d (.inr (.inr ⟨_,_,_,h⟩)) (Ne.symm f) g)⟩
 ·intro a b dc P ae ah r x z;exact j.apart a b dc P (v _ ae) (E _ ah) r x z
 ·intro b o G;exact u b o λe=>G ⟨l,loc,.inl ⟨_,_,m⟩,az,e.symm⟩
 ·rintro b ⟨c,d,ae,ah,ak⟩;exact .inl ⟨c,d,v _ ae,ah,ak⟩
def zH:∀{es:List (List aa)} {xs:List Int},oa es=D xs->es=xs.map k1
 |[],_,h=>by cases h;rfl
 |e::es,xs,h=>by
  unfold oa at h;split at h
  ·rename_i heq;cases heq
  ·rename_i n es' heq;cases heq;obtain⟨a,ae,rfl⟩:=Option.map_eq_some_iff.1 h;rw[zH ae];rfl
  ·cases h
end
section
open Go.bo Go.RowKit
set_option maxRecDepth 100000
def Eo{ρ:Env}{w:World}{loc:Go.bo.Loc}{ro:Bool}{els:List (List aa)}(h:ft ρ w loc ro 1 els){i:Nat}{n:Int}(b:els[i]? =D (k1 n)):w.cell? ⟨loc.block,loc.off+i*loc.esz,I⟩=D (.int .i64 n):=by
 obtain⟨he,c,t,f,a,-,d⟩:=h;obtain⟨-,ah⟩:=d i _ b;obtain⟨-,x,aD,e⟩:=ah 0 (.int .i64 n) rfl;cases e;rw[he];simp[World.cell?,a];simpa using aD
def J2{H:ad}{m i n:Nat}{es:List (List aa)}(h:hg H m i n 1=D es):∃els,((∃ro,H.get m=D (.row ro 1 els))\/∃t,H.get m=D (.dz t 1 els))/\es.length=n/\∀j,j<n->els[i+j]? =es[j]? :=by
 unfold hg at h;split at h
 ·rename_i ro esz els a;split at h
  ·rename_i aA;obtain⟨rfl,az⟩:=aA;cases h;exact⟨els,.inl ⟨ro,a⟩,by simp;omega,λj b=>by rw[List.getElem?_take_of_lt b,List.getElem?_drop]⟩
  ·cases h
 ·rename_i t esz els a;split at h
  ·rename_i aA;obtain⟨rfl,az⟩:=aA;cases h;exact⟨els,.inr ⟨t,a⟩,by simp;omega,λj b=>by rw[List.getElem?_take_of_lt b,List.getElem?_drop]⟩
  ·cases h
 ·cases h
def J4{ρ:Env}{H:ad}{w:World}(d:Rel ρ H w){m:Nat}{els:List (List aa)}(h:(∃ro,H.get m=D (.row ro 1 els))\/∃t,H.get m=D (.dz t 1 els)){loc:Go.bo.Loc}(az:ρ m=D loc):∃ro,ft ρ w loc ro 1 els/\loc.block<w.heap.size:=by
 rcases h with⟨ro,h⟩|⟨t,h⟩
 ·obtain⟨c,b,a⟩:=d.row _ _ _ _ h;obtain rfl:loc=c:=Option.some.inj (az.symm.trans b);exact⟨ro,a,a.lt⟩
 ·obtain⟨c,b,a⟩:=d.dz _ _ _ _ h;obtain rfl:loc=c:=Option.some.inj (az.symm.trans b);exact⟨Z,a.1,a.1.lt⟩
def SU{w:World}{base:Nat}{v:Value}{xs:List Int}(h:w.ownsRow base 3 1 v xs.length (xs.map encZ))(e:xs≠[]):∃g cap cur,v= .slice (D ⟨g,0,I⟩) xs.length cap/\base<=g/\w.heap[g]? =D (.cells cur 3 (0,0))/\xs.length<=cap/\cur.size=cap/\∀j (a:j<xs.length),cur[j]? =D (.int .i64 xs[j]):=by
 rcases h.2 with⟨_,b⟩|⟨g,cap,cur,ae,ah,ak,au,f,c,d⟩
 ·exact absurd (List.eq_nil_of_length_eq_zero b) e
 ·refine⟨g,cap,cur,ae,ah,ak,au,by simpa using c,λj a=> ?_⟩;have:(cur.toList.take (xs.length*1))[j]? =(xs.map encZ)[j]? :=by rw[d]
  rw[List.getElem?_take_of_lt (by omega),Array.getElem?_toList]at this;rw[this];simp[a,encZ]
def Ix{ρ:Env}{l i n e:Nat}{q:Option Nat}{x:Value}(h:bB ρ (.aJ l i n e q) x):∃(loc:Go.bo.Loc) (a:Addr) (c:Nat),ρ l=D loc/\loc.esz=e/\n<=c/\(0<c->a=⟨loc.block,loc.off+i*loc.esz,I⟩)/\x= .slice (D a) n c:=by
 cases h with
 |aJ _ _ _ _ loc a c h aS aA b=>exact⟨loc,a,c,h,rfl,aS,λh=>(b h).1,rfl⟩
def y0(xs:List Int)(n:Nat)(H:ad):aa×ad:=match xs with
 |[]=>(.aB,H)
 |_=>(.aJ H.next 0 n 1 I,H.push (.row Z 1 (xs.map k1)))
def SP{H:ad}{l m i n:Nat}{ro:Bool}{q:Option Nat}{es:List (List aa)}{xs:List Int}(W:H.get l=D (.row ro 1 [[.aJ m i n 1 q]]))(he:hg H m i n 1=D es)(aD:oa es=D xs)(aS:n<=1000000):
  fO bD P 95 [.func (.func 97) [] [.ptr l 0 0]] H (y0 xs n H).1 (y0 xs n H).2:=by
 intro ρ w aC f aN N ay next K
 cases N with|cons _ _ _ _ ae ah=>
 cases ae with|func _ _ _ _ _ U Q=>
 cases U;cases ah;cases Q with|cons _ _ _ _ ak au=>
 cases au;cases ak with|ptr _ _ _ loc az=>
 obtain⟨aq,ag,L⟩:=f.row _ _ _ _ W;obtain rfl:loc=aq:=Option.some.inj (az.symm.trans ag);have G:=L.lt;obtain⟨ax,c,t,av,b,-,am⟩:=L;obtain⟨-,ah⟩:=am 0 _ rfl;obtain⟨-,x,ao,p⟩:=ah 0 _ rfl;obtain⟨els,af,hlen,O⟩:=J2 he;have E:=zH aD;have r:xs.length=n:=by rw[<-hlen,E];simp
 obtain⟨s,a,cc,ai,B,aw,M,rfl⟩:=Ix p;have A:w.cell? ⟨loc.block,loc.off+0*loc.esz+0,I⟩=D (.slice (D a) n cc):=by
  simp[World.cell?,b];simpa using ao
 cases xs with
 |nil=>
  obtain rfl:n=0:=r.symm;refine vn (c:=bb Tryz.f95) Tryz.func95 (by kernel_rfl) ?_;refine Calls.mono (Dk w loc.block (loc.off+0*loc.esz+0) G (D a) cc A) ?_;rintro e ar ⟨rfl,b⟩;exact⟨_,rfl,K _ _ ρ .aB (IE f b)⟩
 |cons z u=>
  have V:ρ H.next=none:=aN.new _ (b4 _) (by simp[y0])
  have al:0<cc:=by simp at r;omega
  obtain rfl:=M al;obtain⟨aA,an,aj⟩:=J4 f af ai;refine vn (c:=bb Tryz.f95) Tryz.func95 (by kernel_rfl) ?_;refine Calls.mono (LK w loc.block (loc.off+0*loc.esz+0) G s.block (s.off+i*s.esz) cc (z::u) (by omega) (by rw[A,r]) (λj d=>⟨aj,?_⟩)) ?_
  ·have a8:els[i+j]? =D (k1 ((z::u)[j]'d)):=by
    rw[O j (by omega),E,List.getElem?_map,List.getElem?_eq_getElem d];rfl
   have:=Eo an a8;rw[B,Nat.mul_one]at this;rw[B,Nat.mul_one,Nat.add_assoc,this,List.getElem?_eq_getElem d];rfl
  ·rintro e ar ⟨v,rfl,ae,ah,b⟩;obtain⟨g,cap,cur,rfl,ab,Y,R,S,T⟩:=SU ae (by simp);refine⟨_,rfl,K _ _ (ρ.dV H.next ⟨g,0,1,cap⟩) ?_ (Z_ f V b _ ab ?_)⟩
   ·rw[show n=(z::u).length from r.symm];exact .aJ H.next 0 _ I ⟨g,0,1,cap⟩ _ _ (Env.fV _ _ _) R (λk h=>by cases h) (λ_=>⟨by simp,by simp⟩)
   ·refine⟨rfl,cur,3,(0,0),Y,⟨S.symm,λ_ o _ h=>by simp at h⟩,λj e he=> ?_⟩;rw[List.getElem?_map]at he;obtain⟨y,ap,rfl⟩:=Option.map_eq_some_iff.1 he;refine⟨rfl,λk v p=> ?_⟩;rcases k with _|k
    ·cases p;obtain⟨d,rfl⟩:=List.getElem?_eq_some_iff.1 ap;exact⟨rfl,_,by simpa using T j d,.int _ _⟩
    ·simp[k1]at p
def SQ{H:ad}{l:Nat}{ro:Bool}(j:H.get l=D (.row ro 1 [[.aB]])):fO bD P 95 [.func (.func 97) [] [.ptr l 0 0]] H .aB H:=by
 intro ρ w A b aN f v next n
 cases f with|cons _ _ _ _ ae ah=>
 cases ae with|func _ _ _ _ _ i g=>
 cases i;cases ah;cases g with|cons _ _ _ _ ak au=>
 cases au;cases ak with|ptr _ _ _ loc az=>
 obtain⟨r,k,d⟩:=b.row _ _ _ _ j;obtain rfl:loc=r:=Option.some.inj (az.symm.trans k);have m:=d.lt;obtain⟨u,c,t,s,a,-,o⟩:=d;obtain⟨-,ah⟩:=o 0 _ rfl;obtain⟨-,x,q,p⟩:=ah 0 _ rfl;cases p;have h:w.cell? ⟨loc.block,loc.off+0*loc.esz+0,I⟩=D (.slice I 0 0):=by
  simp[World.cell?,a];simpa using q
 refine vn (c:=bb Tryz.f95) Tryz.func95 (by kernel_rfl) ?_;refine Calls.mono (Dk w loc.block (loc.off+0*loc.esz+0) m I 0 h) ?_;rintro e z ⟨rfl,a⟩;exact⟨_,rfl,n _ _ ρ .aB (IE b a)⟩
def heap_sorted{w:World}{g off n:Nat}{os:Array Obj}{cur:Array Value}{e:TypeId}{vY:Nat×Nat}(d:Array Int)(a:w.heap[g]? =D (.cells cur e vY)):
  (Go.Sort.grow (Go.Sort.putRow (Value.int .i64) (Go.Sort.ahead w n) g off d) os).heap[g]? =D (.cells (Go.Sort.putCells (Value.int .i64) off d cur) e vY):=by
 have b:g<w.heap.size:=(Array.getElem?_eq_some_iff.1 a).1;rw[Go.Sort.heap_grow_old _ _ (by simpa using b)];simp[Go.Sort.putRow,Go.Sort.mapBlock,Go.Sort.ahead,Array.getElem?_modify,a,Go.Sort.onCells]
def NW{w:World}{g off n k:Nat}{os:Array Obj}(d:Array Int)(a:k<w.heap.size)(b:k≠g):
  (Go.Sort.grow (Go.Sort.putRow (Value.int .i64) (Go.Sort.ahead w n) g off d) os).heap[k]? =w.heap[k]? :=by
 rw[Go.Sort.heap_grow_old _ _ (by simpa using a)];simp[Go.Sort.putRow,Go.Sort.mapBlock,Go.Sort.ahead,Array.getElem?_modify,Ne.symm b]
def SS{H:ad}:fO bD P 96 [.aB] H (.tuple []) H:=by
 intro ρ w h a aN b f next d
 cases b with|cons _ _ _ _ ae ah=>
 cases ae;cases ah;refine vn (c:=bb Tryz.f96) Tryz.func96 (by kernel_rfl) ?_;refine Calls.mono (Go.Proofs.AnyM.slices_Sort_int_none Tryz.Bt I 0 w) ?_;rintro e g ⟨rfl,rfl⟩;exact⟨_,rfl,d _ _ ρ (.tuple [] [] .nil) (Step.refl a)⟩
def SR{H:ad}{l n:Nat}{q:Option Nat}{es:List (List aa)}{xs:List Int}(r:H.get l=D (.row Z 1 es))(aD:oa es=D xs)(Q:es.length=n)(aS:n<=1000000):
  fO bD P 96 [.aJ l 0 n 1 q] H (.tuple []) (H.set l (.row Z 1 ((xs.mergeSort λx y=>decide (x<=y)).map k1))):=by
 intro ρ w an m aN O al next B
 cases O with|cons _ _ _ _ ae ah=>
 cases ah;obtain⟨loc,a,cc,az,u,ai,N,rfl⟩:=Ix ae;obtain⟨af,S,f⟩:=m.row _ _ _ _ r;obtain rfl:loc=af:=Option.some.inj (az.symm.trans S);have T:=f.lt;have p:=zH aD;have G:xs.length=n:=by rw[<-Q,p];simp
 refine vn (c:=bb Tryz.f96) Tryz.func96 (by kernel_rfl) ?_;by_cases L:n=0
 ·subst L;refine Calls.mono (Go.Proofs.AnyM.slices_Sort_int_none Tryz.Bt (D a) cc w) ?_;rintro e ag ⟨rfl,rfl⟩;have Y:xs=[]:=List.eq_nil_of_length_eq_zero G;subst Y;refine⟨_,rfl,B _ _ ρ (.tuple [] [] .nil) (IF m r az rfl rfl rfl (b4 _) (λ_ _ _=>rfl) ?_)⟩;rw[p]at f;simpa using f
 ·have V:0<cc:=by omega
  obtain rfl:=N V;obtain⟨aj,c,t,K,g,⟨W,z⟩,am⟩:=id f;have s:∀j (b:j<xs.length),c[loc.off+j]? =D (.int .i64 xs[j]):=λj b=>by
   have:=Eo f (i:=j) (n:=xs[j]) (by rw[p];simp[b]);rw[u]at this;simpa [World.cell?,g]using this
  have M:Go.Sort.Holds (Value.int .i64) w loc.block (loc.off+0*loc.esz) xs.toArray:=λj b=>by
   have d:j<xs.length:=by simpa using b
   have ah:=s j d;have ak:loc.off+j<c.size:=(Array.getElem?_eq_some_iff.1 ah).1;refine⟨?_,?_⟩
   ·simp[World.cell?,g,ah,d]
   ·have:=z rfl _ ak;simp[World.frozen?,g];simpa using this
  have A:=Go.Proofs.AnyM.slices_Sort_int Tryz.Bt loc.block (loc.off+0*loc.esz) cc xs w M T (by omega);rw[G]at A;refine Calls.mono A ?_;rintro e ag ⟨rfl,k,os,rfl⟩;refine⟨_,rfl,B _ _ ρ (.tuple [] [] .nil) (IF m r az rfl rfl rfl (by simp[Go.Sort.grow,Go.Sort.ahead]) (λk R U=>NW _ R U) ?_)⟩;refine⟨u,_,t,K,heap_sorted _ g,⟨by simp[Go.Sort.putCells,W],λh o a7=>z h o (by simpa [Go.Sort.putCells]using a7)⟩,λj e he=> ?_⟩;rw[List.getElem?_map]at he;obtain⟨y,ab,rfl⟩:=Option.map_eq_some_iff.1 he;refine⟨rfl,λi v E=> ?_⟩;rcases i with _|i
  ·cases E;obtain⟨b,rfl⟩:=List.getElem?_eq_some_iff.1 ab;have d:j<xs.length:=by simpa using b
   have ak:loc.off+j<c.size:=(Array.getElem?_eq_some_iff.1 (s j d)).1;refine⟨rfl,_,?_,.int _ _⟩;simp[Go.Sort.putCells,ak,d]
  ·simp[k1]at E
def F6:dT bD P ax:=by
 intro g args H v H' h;unfold ax at h;split at h
 ·rename_i l;split at h
  ·rename_i ro a;cases h;exact SQ a
  ·rename_i ro m i n q a;split at h
   ·rename_i es he;split at h
    ·rename_i xs aD;split at h
     ·rename_i aS;have:=SP a he aD aS;cases xs with
      |nil=>cases h;exact this
      |cons z b=>cases h;exact this
     ·cases h
    ·cases h
   ·cases h
  ·cases h
 ·cases h;exact SS
 ·rename_i l n q;split at h
  ·rename_i es a;split at h
   ·rename_i xs aD;split at h
    ·rename_i aA;cases h;exact SR a aD aA.1 aA.2
    ·cases h
   ·cases h
  ·cases h
 ·cases h
end
section
open Go.bo
open Go.ChangeShapes Go.WideShapes Go.ChangeAt Go.RowKit
def own:ownKnob Tryz.prog.godebug=none:=by kernel_rfl
def laidOut:laidOutB Tryz.prog=true:=by kernel_rfl
def jn:P.underlying 3=D (.int .i64):=by kernel_rfl
def I7:P.underlying 4=D .bool:=by kernel_rfl
def I8:P.underlying 9=D .string:=by kernel_rfl
end
section
open Go.bo
def OW:laidOutB P=true:=laidOut
def O1:mapsRowed P=true:=by kernel_rfl
def OV:P.plainKeys=false:=by kernel_rfl
def OT:P.stopsHeard=true:=by kernel_rfl
def OS:P.mayEnter=true:=by kernel_rfl
def OX:P.liftsFinal=false:=by kernel_rfl
end
section
open Go.bo
open Go.bp
open Go.ChangeShapes Go.WideShapes Go.ChangeAt Go.RowKit
def kV{α:Type}(K:ej α)(W:World)(ρ:Env)(H:ad)(cs:List Value):Prop:=∃b H' a c,Seen b H' W/\ρ.le b/\ay H H'/\bV b c cs/\K.V H' bH a c
def JN{α:Type}(K:ej α)(W:World)(ρ:Env)(H:ad)(c:Value):Prop:=∃a H' l v,Seen a H' W/\ρ.le a/\ay H H'/\bB a v c/\aZ K H' bH l v
section
variable {α:Type}{K:ej α}
def F4{W:World}{ok:List Value->Prop}(n:∀ρ H cs,Seen ρ H W->ok cs->kV K W ρ H cs){a:Addr}{len:Nat}(aD:∀i,i<len->∃cs,W.cells? 0 (a.add (i*K.esz)) K.esz=D cs/\ok cs){ρ:Env}{H:ad}(p:Seen ρ H W):
  ∀k,k<=len->∃(h:Env) (H':ad) (l:List α) (els:List (List aa)),Seen h H' W/\ρ.le h/\ay H H'/\l.length=k/\els.length=k/\(∀(i:Nat) (x:α),l[i]? =D x->∃cs,els[i]? =D cs/\K.V H' bH x cs)/\∀(i:Nat) (e:List aa),els[i]? =D e->e.length=K.esz/\e.all aa.one=C/\∃cs,W.cells? 0 (a.add (i*K.esz)) K.esz=D cs/\bV h e cs
 |0,_=>⟨ρ,H,[],[],p,Env.le_refl _,.refl _,rfl,rfl,λi x aD=>by simp at aD,λi e he=>by simp at he⟩
 |k+1,R=>by
  obtain⟨P,H1,l,els,s1,w,A,cP,z,u,B⟩:=F4 n aD p k (by omega);obtain⟨cs,aA,v⟩:=aD k (by omega);obtain⟨Q,s,e,j,s2,q,r,v2,x2⟩:=n P H1 cs s1 v;have o:=K.len x2;refine⟨Q,s,l++[e],els++[j],s2,Env.le_trans w q,A.trans r,by simp[cP],by simp[z],λi x b=> ?_,λi t he=> ?_⟩
  ·by_cases g:i<l.length
   ·rw[List.getElem?_append_left g]at b;obtain⟨c,N,O⟩:=u i x b;exact⟨c,by rw[List.getElem?_append_left (by omega)];exact N,K.keep (.aI r) O⟩
   ·rw[List.getElem?_append_right (by omega)]at b;have d:i-l.length=0:=by
     cases f:i-l.length with
     |zero=>rfl
     |succ m=>rw[f]at b;simp at b
    rw[d]at b;simp only[List.getElem?_cons_zero,bn]at b;subst b;exact⟨j,by rw[List.getElem?_append_right (by omega),show i-els.length=0 by omega];rfl,x2⟩
  ·by_cases g:i<els.length
   ·rw[List.getElem?_append_left g]at he;obtain⟨E,G,c,L,M⟩:=B i t he;exact⟨E,G,c,L,M.mono q⟩
   ·rw[List.getElem?_append_right (by omega)]at he;have d:i-els.length=0:=by
     cases f:i-els.length with
     |zero=>rfl
     |succ m=>rw[f]at he;simp at he
    rw[d]at he;simp only[List.getElem?_cons_zero,bn]at he;subst he;obtain rfl:i=k:=by omega
    exact⟨o.1,o.2,cs,aA,v2⟩
def l_{H0:Type}{enc:TypeId×Value->H0}{W:World}{t e n:Nat}(ab:P.underlying t=D (.slice e))(S:P.cellsOf e=K.esz)(V:0<K.esz)(U:∀q ρ H cs z,Seen ρ H W->DataW.trod enc P W 0 (λ_=>C) C q e cs=D z->kV K W ρ H cs)
  {ρ:Env} {H:ad} {c:Value} {x:DataW H0×List MemPlace} (d:Seen ρ H W) (h:DataW.trod enc P W 0 (λ_=>C) C n t [c]=D x):JN K W ρ H c:=by
 rcases SN (P:=P) ab h with A|⟨a,len,cap,M,az,A,T,aD⟩
 ·cases A;exact⟨ρ,H,[],.aB,d,Env.le_refl _,.refl _,.aB,.nil⟩
 ·cases A;rw[S]at aD;by_cases R:0<cap
  ·obtain⟨au,H1,l,els,s1,aj,al,cP,aC,O,am⟩:=F4 (K:=K) (ok:=λcs=>∃z,DataW.trod enc P W 0 (λ_=>C) C M e cs=D z) (λρ H cs d ⟨z,af⟩=>U M ρ H cs z d af) (λi aA=>aD i (by omega)) d len (b4 _);have first:∃v0,W.cell? (a.add (0*K.esz)|>.add 0)=D v0:=by
    obtain⟨cs,g,_⟩:=aD 0 R;have ae:=(World.cells?_some g).2.2 0 V;have ah:=(World.cells?_some g).2.1;exact⟨cs[0]'(by omega),by rw[ae];simp[show 0<cs.length by omega]⟩
   obtain⟨v0,f⟩:=first
   have p:a.spot=none:=by
    have ah:=World.cell?_spot f;simpa [Addr.add]using ah
   obtain⟨cc,L,r,w⟩:∃cc L r,W.heap[a.block]? =D (.cells cc L r):=by
    rw[pz p,pz rfl]at f;unfold World.cell? at f;simp only at f;split at f
    ·exact⟨_,_,_,‹_›⟩
    ·cases f
   have Y:a.off+cap*K.esz<=cc.size:=by
    obtain⟨cs,g,_⟩:=aD (cap-1) (by omega);have av:=(World.cells?_some g).2.1;have u:=(World.cells?_some g).2.2 (K.esz-1) (by omega);rw[pz p,pz rfl,List.getElem?_eq_getElem (by omega)]at u;have Q:cc[a.off+(cap-1)*K.esz+(K.esz-1)]? =D cs[K.esz-1]:=by
     unfold World.cell? at u;simpa [w]using u
    have aw:=(Array.getElem?_eq_some_iff.1 Q).1;have ax:(cap-1)*K.esz+K.esz=cap*K.esz:=by
     obtain⟨m,rfl⟩:∃m,cap=m+1:=⟨cap-1,by omega⟩;rw[Nat.add_sub_cancel,Nat.succ_mul]
    omega
   have aa:Go.bo.ft au W ⟨a.block,a.off,K.esz,cc.size⟩ C K.esz els:=by
    refine⟨rfl,cc,L,r,w,⟨rfl,λh=>by cases h⟩,λi e he=> ?_⟩;obtain⟨N,an,cs,ao,ap⟩:=am i e he;refine⟨N,λj v G=> ?_⟩;obtain⟨z,ag,ai⟩:=ap.get j v G;have B:j<K.esz:=by rw[<-N];exact(List.getElem?_eq_some_iff.1 G).1
    refine⟨List.all_eq_true.1 an v (List.mem_of_getElem? G),z,?_,ai⟩;have:=(World.cells?_some ao).2.2 j B;rw[pz p,pz rfl,ag]at this;unfold World.cell? at this;simpa [w]using this
   have s2:=s1.push aa;have ak:=s1.k8 ⟨a.block,a.off,K.esz,cc.size⟩;have pp:=ay.push H1 (.row C K.esz els);refine⟨_,_,l,.aJ H1.next 0 len K.esz I,s2,Env.le_trans aj ak,al.dK _,?_,.inr (.inl ⟨H1.next,0,I,C,els,by rw[cP],trivial,ad.bq _ _,by omega,λj x B=> ?_⟩)⟩
   ·exact .aJ H1.next 0 len I ⟨a.block,a.off,K.esz,cc.size⟩ a cap (by simp[Env.dV]) T (λk E=>by cases E) (λ_=>⟨by obtain⟨b,o,s⟩:=a;cases p;simp,by simpa using Y⟩)
   ·obtain⟨cs,aq,ar⟩:=O j x B;exact⟨cs,by rw[Nat.zero_add];exact aq,K.keep (.aI pp) ar⟩
  ·obtain rfl:cap=0:=by omega
   obtain rfl:len=0:=by omega
   have s2:=d.blank ⟨0,0,K.esz,0⟩;refine⟨_,_,[],.aJ H.next 0 0 K.esz I,s2,d.k8 _,ay.push _ _,?_,.inr (.inr ⟨H.next,0,I,rfl,rfl⟩)⟩;exact .aJ H.next 0 0 I ⟨0,0,K.esz,0⟩ a 0 (by simp[Env.dV]) (b4 _) (λk E=>by cases E) (λh=>absurd h (by omega))
end
section
variable {H0:Type}{enc:TypeId×Value->H0}{W:World}
def SJ(n:Nat)(ρ:Env)(H:ad)(cs:List Value)(x:DataW H0×List MemPlace)(a:Seen ρ H W)(h:DataW.trod enc P W 0 (λ_=>C) C n 3 cs=D x):kV bu W ρ H cs:=by
 obtain⟨z,ae,_⟩:=DataW.trod_int (P:=P) jn h;subst ae;exact⟨ρ,H,z,[.int .i64 z],a,Env.le_refl _,.refl _,.cons _ _ _ _ (.int _ _) .nil,rfl⟩
def DI:eM P 46 0=D (3,0):=by kernel_rfl
def Mg:eM P 46 1=D (3,1):=by kernel_rfl
def Mh:eM P 46 2=D (3,2):=by kernel_rfl
def pM:P.cellsOf 3=1:=by kernel_rfl
def pN:P.cellsOf 46=3:=by kernel_rfl
def C3:P.cellsOf 9=1:=by kernel_rfl
def Lm:P.cellsOf 4=1:=by kernel_rfl
def vL(n:Nat)(cs:List Value)(x:DataW H0×List MemPlace)(h:DataW.trod enc P W 0 (λ_=>C) C n 46 cs=D x):∃b r d,cs=[.int .i64 b,.int .i64 r,.int .i64 d]:=by
 have az:=ph DI h;rw[pN]at az
 match cs,az with
 |[c,e,f],_=>
  obtain⟨_,_,a⟩:=fF DI h;obtain⟨_,_,ae⟩:=fF Mg h;obtain⟨_,_,ah⟩:=fF Mh h;rw[pM]at a ae ah;obtain⟨b,rfl⟩:=j6 (P:=P) jn a;obtain⟨r,rfl⟩:=j6 (P:=P) jn ae;obtain⟨d,rfl⟩:=j6 (P:=P) jn ah;exact⟨b,r,d,rfl⟩
def F5(n:Nat)(ρ:Env)(H:ad)(cs:List Value)(x:DataW H0×List MemPlace)(a:Seen ρ H W)(h:DataW.trod enc P W 0 (λ_=>C) C n 46 cs=D x):kV ei W ρ H cs:=by
 obtain⟨b,r,d,rfl⟩:=vL n cs x h;exact⟨ρ,H,⟨b,r,d⟩,b7 ⟨b,r,d⟩,a,Env.le_refl _,.refl _,.cons _ _ _ _ (.int _ _) (.cons _ _ _ _ (.int _ _) (.cons _ _ _ _ (.int _ _) .nil)),rfl⟩
def DF:eM P 98 0=D (9,0):=by kernel_rfl
def L_:eM P 98 1=D (46,1):=by kernel_rfl
def C0:P.cellsOf 98=4:=by kernel_rfl
def SH(n:Nat)(ρ:Env)(H:ad)(cs:List Value)(x:DataW H0×List MemPlace)(c:Seen ρ H W)(h:DataW.trod enc P W 0 (λ_=>C) C n 98 cs=D x):kV js W ρ H cs:=by
 have az:=ph DF h;rw[C0]at az
 match cs,az with
 |[f,g,i,j],_=>
  obtain⟨_,_,a⟩:=fF DF h;obtain⟨_,_,ae⟩:=fF L_ h;rw[C3]at a;rw[pN]at ae;obtain⟨s,rfl⟩:=IX (P:=P) I8 a;obtain⟨b,r,d,e⟩:=vL _ _ _ ae;simp only[List.drop_succ_cons,List.drop_zero,List.take_succ_cons,List.take_zero,List.cons.injEq,and_true]at e;obtain⟨rfl,rfl,rfl⟩:=e;exact⟨ρ,H,⟨b,r,d⟩,.str s::b7 ⟨b,r,d⟩,c,Env.le_refl _,.refl _,.cons _ _ _ _ (.str _) (.cons _ _ _ _ (.int _ _) (.cons _ _ _ _ (.int _ _) (.cons _ _ _ _ (.int _ _) .nil))),⟨s,rfl⟩⟩
def DH:eM P 95 0=D (9,0):=by kernel_rfl
def Mf:eM P 95 1=D (93,1):=by kernel_rfl
def C4:P.cellsOf 95=2:=by kernel_rfl
def Lo:P.cellsOf 93=1:=by kernel_rfl
def SL(n:Nat)(ρ:Env)(H:ad)(cs:List Value)(x:DataW H0×List MemPlace)(d:Seen ρ H W)(h:DataW.trod enc P W 0 (λ_=>C) C n 95 cs=D x):kV kb W ρ H cs:=by
 have az:=ph DH h;rw[C4]at az
 match cs,az with
 |[f,g],_=>
  obtain⟨_,_,a⟩:=fF DH h;obtain⟨_,_,ae⟩:=fF Mf h;rw[C3]at a;rw[Lo]at ae;obtain⟨s,rfl⟩:=IX (P:=P) I8 a;obtain⟨e,H',l,v,b,c,a3,a4,a5⟩:=l_ (K:=js) hs.un C0 (by decide) (λq ρ H cs z=>SH q ρ H cs z) d ae;exact⟨e,H',l,[.str s,v],b,c,a3,.cons _ _ _ _ (.str _) (.cons _ _ _ _ a4 .nil),⟨s,v,rfl,a5⟩⟩
def DG:eM P 89 0=D (3,0):=by kernel_rfl
def Ma:eM P 89 1=D (3,1):=by kernel_rfl
def Mb:eM P 89 2=D (3,2):=by kernel_rfl
def Mc:eM P 89 3=D (3,3):=by kernel_rfl
def Md:eM P 89 4=D (3,4):=by kernel_rfl
def Me:eM P 89 5=D (30,5):=by kernel_rfl
def C1:P.cellsOf 89=6:=by kernel_rfl
def Lp:P.cellsOf 30=1:=by kernel_rfl
def SI(n:Nat)(ρ:Env)(H:ad)(cs:List Value)(x:DataW H0×List MemPlace)(e:Seen ρ H W)(h:DataW.trod enc P W 0 (λ_=>C) C n 89 cs=D x):kV e7 W ρ H cs:=by
 have az:=ph DG h;rw[C1]at az
 match cs,az with
 |[j,k,m,o,p,r],_=>
  obtain⟨_,_,a⟩:=fF DG h;obtain⟨_,_,ae⟩:=fF Ma h;obtain⟨_,_,ah⟩:=fF Mb h;obtain⟨_,_,ak⟩:=fF Mc h;obtain⟨_,_,au⟩:=fF Md h;obtain⟨_,_,b⟩:=fF Me h;rw[pM]at a ae ah ak au;rw[Lp]at b;obtain⟨z0,rfl⟩:=j6 (P:=P) jn a;obtain⟨f,rfl⟩:=j6 (P:=P) jn ae;obtain⟨g,rfl⟩:=j6 (P:=P) jn ah;obtain⟨z3,rfl⟩:=j6 (P:=P) jn ak;obtain⟨z4,rfl⟩:=j6 (P:=P) jn au;obtain⟨i,H',l,v,c,d,a3,a4,a5⟩:=l_ (K:=bu) cU.un pM (by decide) (λq ρ H cs z=>SJ q ρ H cs z) e b;exact⟨i,H',⟨z0,f,g,z3,z4,l⟩,_,c,d,a3,.cons _ _ _ _ (.int _ _) (.cons _ _ _ _ (.int _ _) (.cons _ _ _ _ (.int _ _) (.cons _ _ _ _ (.int _ _) (.cons _ _ _ _ (.int _ _) (.cons _ _ _ _ a4 .nil))))),⟨v,rfl,a5⟩⟩
def DD:eM P 49 0=D (3,0):=by kernel_rfl
def L6:eM P 49 1=D (23,1):=by kernel_rfl
def L7:eM P 49 2=D (4,2):=by kernel_rfl
def L8:eM P 49 3=D (46,3):=by kernel_rfl
def L9:eM P 49 4=D (47,6):=by kernel_rfl
def CZ:P.cellsOf 49=7:=by kernel_rfl
def C2:P.cellsOf 23=1:=by kernel_rfl
def Lq:P.cellsOf 47=1:=by kernel_rfl
def SG(n:Nat)(ρ:Env)(H:ad)(cs:List Value)(x:DataW H0×List MemPlace)(p:Seen ρ H W)(h:DataW.trod enc P W 0 (λ_=>C) C n 49 cs=D x):kV fr W ρ H cs:=by
 have az:=ph DD h;rw[CZ]at az
 match cs,az with
 |[w,A,B,E,G,L,M],_=>
  obtain⟨_,_,f⟩:=fF DD h;obtain⟨_,_,ae⟩:=fF L6 h;obtain⟨_,_,ah⟩:=fF L7 h;obtain⟨_,_,ak⟩:=fF L8 h;obtain⟨_,_,au⟩:=fF L9 h;rw[pM]at f;rw[C2]at ae;rw[Lm]at ah;rw[pN]at ak;rw[Lq]at au;obtain⟨z0,rfl⟩:=j6 (P:=P) jn f;obtain⟨u,g,_⟩:=DataW.trod_bool (P:=P) I7 ah;simp only[List.drop_succ_cons,List.drop_zero,List.take_succ_cons,List.take_zero,List.cons.injEq,and_true]at g;subst g;obtain⟨b,r,d,e⟩:=vL _ _ _ ak;simp only[List.drop_succ_cons,List.drop_zero,List.take_succ_cons,List.take_zero,List.cons.injEq,and_true]at e;obtain⟨rfl,rfl,rfl⟩:=e;obtain⟨N,H1,s,v1,j,k,a3,a4,a5⟩:=l_ (K:=ei) dh.un pN (by decide) (λq ρ H cs z=>F5 q ρ H cs z) p ae
  obtain⟨v,i,t,v2,l,a,c,m,o⟩:=l_ (K:=e7) eb.un C1 (by decide) (λq ρ H cs z=>SI q ρ H cs z) j au;refine⟨v,i,⟨z0,s,u,⟨b,r,d⟩,t⟩,_,l,Env.le_trans k a,a3.trans c,.cons _ _ _ _ (.int _ _) (.cons _ _ _ _ (a4.mono a) (.cons _ _ _ _ (.bool _) (.cons _ _ _ _ (.int _ _) (.cons _ _ _ _ (.int _ _) (.cons _ _ _ _ (.int _ _) (.cons _ _ _ _ m .nil)))))),⟨v1,v2,rfl,a5.aI c,o⟩⟩
def DJ:eM P 100 0=D (3,0):=by kernel_rfl
def Mm:eM P 100 1=D (46,1):=by kernel_rfl
def C5:P.cellsOf 100=4:=by kernel_rfl
def SM(n:Nat)(ρ:Env)(H:ad)(cs:List Value)(x:DataW H0×List MemPlace)(c:Seen ρ H W)(h:DataW.trod enc P W 0 (λ_=>C) C n 100 cs=D x):kV kc W ρ H cs:=by
 have az:=ph DJ h;rw[C5]at az
 match cs,az with
 |[f,g,i,j],_=>
  obtain⟨_,_,a⟩:=fF DJ h;obtain⟨_,_,ae⟩:=fF Mm h;rw[pM]at a;rw[pN]at ae;obtain⟨z,rfl⟩:=j6 (P:=P) jn a;obtain⟨b,r,d,e⟩:=vL _ _ _ ae;simp only[List.drop_succ_cons,List.drop_zero,List.take_succ_cons,List.take_zero,List.cons.injEq,and_true]at e;obtain⟨rfl,rfl,rfl⟩:=e;exact⟨ρ,H,⟨z,⟨b,r,d⟩⟩,_,c,Env.le_refl _,.refl _,.cons _ _ _ _ (.int _ _) (.cons _ _ _ _ (.int _ _) (.cons _ _ _ _ (.int _ _) (.cons _ _ _ _ (.int _ _) .nil))),rfl⟩
def zp:eM P 27 0=D (22,0):=by kernel_rfl
def Mi:eM P 27 1=D (23,1):=by kernel_rfl
def Mj:eM P 27 2=D (24,2):=by kernel_rfl
def Mk:eM P 27 3=D (25,3):=by kernel_rfl
def Ml:eM P 27 4=D (3,4):=by kernel_rfl
def Lt:P.cellsOf 27=5:=by kernel_rfl
def Lr:P.cellsOf 22=1:=by kernel_rfl
def Ln:P.cellsOf 24=1:=by kernel_rfl
def Ls:P.cellsOf 25=1:=by kernel_rfl
def SK(n:Nat)(ρ:Env)(H:ad)(cs:List Value)(x:DataW H0×List MemPlace)(v:Seen ρ H W)(h:DataW.trod enc P W 0 (λ_=>C) C n 27 cs=D x):
  ∃b H' y c,Seen b H' W/\ρ.le b/\ay H H'/\bV b c cs/\c2 H' bH y (.agg c):=by
 have az:=ph zp h;rw[Lt]at az
 match cs,az with
 |[O,e,a,f,g],_=>
  obtain⟨_,_,i⟩:=fF zp h;obtain⟨_,_,ae⟩:=fF Mi h;obtain⟨_,_,ah⟩:=fF Mj h;obtain⟨_,_,ak⟩:=fF Mk h;obtain⟨_,_,au⟩:=fF Ml h;rw[Lr]at i;rw[C2]at ae;rw[Ln]at ah;rw[Ls]at ak;rw[pM]at au;obtain⟨z,rfl⟩:=j6 (P:=P) jn au;obtain⟨Q,H1,w,v1,m,o,a3,a4,a5⟩:=l_ (K:=kb) en.un C4 (by decide) (λq ρ H cs z=>SL q ρ H cs z) v i;obtain⟨R,M,A,v2,p,d,r,s,t⟩:=l_ (K:=ei) dh.un pN (by decide) (λq ρ H cs z=>F5 q ρ H cs z) m ae;obtain⟨S,N,B,v3,e,a,f,g,u⟩:=l_ (K:=fr) c0.un CZ (by decide) (λq ρ H cs z=>SG q ρ H cs z) p ah;obtain⟨L,l,E,v4,d1,d2,d3,d4,d5⟩:=l_ (K:=kc) e4.un C5 (by decide) (λq ρ H cs z=>SM q ρ H cs z) e ak;have G:=d3
  have k:=f.trans d3;have j:=r.trans k;refine⟨L,l,⟨w,A,B,E,z⟩,[v1,v2,v3,v4,.int .i64 z],d1,Env.le_trans o (Env.le_trans d (Env.le_trans a d2)),a3.trans j,?_,⟨_,rfl,v1,v2,v3,v4,rfl,a5.aI j,t.aI k,u.aI G,d5⟩⟩;exact .cons _ _ _ _ (a4.mono (Env.le_trans d (Env.le_trans a d2))) (.cons _ _ _ _ (s.mono (Env.le_trans a d2)) (.cons _ _ _ _ (g.mono d2) (.cons _ _ _ _ d4 (.cons _ _ _ _ (.int _ _) .nil))))
end
end
section
open Go.bo
open Go.bp
open Go.ChangeShapes Go.WideShapes Go.ChangeAt Go.RowKit
def abd:∃fs,P.underlying 27=D (.struct fs):=by
 have h:=zp;unfold eM at h;split at h
 ·rename_i fs aN;exact⟨fs,aN⟩
 ·cases h
set_option maxRecDepth 100000 in
def Ka{W:World}{r:Reach}{base:Nat}{v:Value}(a:Value.okWide P W r base 27 v):∃cs:List Value,v= .agg cs.toArray:=by
 obtain⟨fs,hu⟩:=abd;unfold Value.okWide at a;rw[hu]at a;obtain⟨cs,rfl,_⟩:=a;exact⟨cs.toList,by simp⟩
set_option maxRecDepth 100000 in
def O7(H:ad):fO bD P 16 [] H (.bool C) H:=Pm F6 H
set_option maxRecDepth 100000 in
def ZM{H:Type}{enc:TypeId×Value->H}{W:World}{r:Reach}{base:Nat}{v:Value}{d:DataW H}{i:List MemPlace}(g:Value.okWide P W r base 27 v)(h:DataW.Trod enc P W 0 (λ_=>C) C 27 v d i):yL bD P 6 [v] W:=by
 obtain⟨cs,rfl⟩:=Ka g;obtain⟨n,aS⟩:=h;have b:(Value.agg cs.toArray).cells.toList=cs:=by simp[Value.cells]
 rw[b]at aS;obtain⟨j,H1,y,a,s1,k,l,v1,x1⟩:=SK n _ _ cs _ (Seen.empty W) aS;obtain⟨M,f⟩:∃M:Nat,100000<=M:=⟨100000,b4 _⟩;obtain⟨r,H',e,rfl,p⟩:=Kh x1 f;exact⟨j,H1,_,H',s1.rel,s1.ro,s1.top,λ_ _ h=>(by cases h),p.1,.cons _ _ _ _ (.agg _ _ v1) .nil,nY (c:=bb Tryz.f6) (M:=M) bU (LX bU F6 O7) Tryz.func6 (by kernel_rfl) (by kernel_rfl) (by kernel_rfl) (Eq.trans (YV (lY P ax 16 C) M (.agg a) H1) e)⟩
end
section
open Go.bo
open Go.ChangeShapes Go.WideShapes Go.ChangeAt Go.RowKit
open Go.ChangeMaps (open_string shut_string)
namespace Bp
set_option maxRecDepth 100000 in
def lifted(os:Os)(started:os.Started)(H:Type)(enc:TypeId×Value->H):
  ReturnsInHanded {} Tryz.checked os 6 .any (Rows.signAlikeSpec.pre6 enc Tryz.prog Tryz.f6 Rows.signAlikeRow.domain Z) (Rows.signAlikeSpec.post enc Tryz.prog Tryz.f6 Z true Z Z):=by
 refine returnsInHanded_of_change (C:=Tryz.checked) own started (by kernel_rfl) Tryz.func6
  (ChangeSpec.witness6 (enc:=enc) (C:=Tryz.checked) Z ⟨#[],#[.agg #[.slice I 0 0,.slice I 0 0,.slice I 0 0,.slice I 0 0,.int .i64 0]],[]⟩ 8 (by kernel_rfl) (by kernel_rfl) (by kernel_rfl) (by kernel_rfl)) ?_
 intro W base args k gs before w d G _;have i:∀(j:Nat) t v,Tryz.f6.params[j]? =D t->args[j]? =D v->Value.okWide Tryz.prog W .any base t v:=w;have r:=d;obtain⟨p,q,n,o,rfl,K,L⟩:=d;have a:DataW.TrodAll enc Tryz.prog W 0 (λ_=>true) true Tryz.f6.params.toList args.toList k p:=n;have f:Tryz.f6.params= #[27]:=by kernel_rfl
 rw[f]at a i;obtain⟨v0,O,d0,B,M,N,E,rfl,rfl,m,z⟩:=trodAll_cons a;obtain⟨rfl,rfl,rfl⟩:=trodAll_nil z;obtain rfl:args= #[v0]:=by cases args;simp_all
 obtain⟨rfl,rfl⟩:=trodVars_none o;have l:=(i 0 27 v0 rfl rfl);have s:yL bD P 6 [v0] W:=ZM l m;refine(Pp (c:=bb Tryz.f6) bU Tryz.func6 (by kernel_rfl) s).mono λe A ⟨he,b⟩=> ?_
 subst he;obtain⟨x,u⟩:=IW laidOut b (ts:=[27]) (λt g=>by
  simp only[List.mem_cons,List.not_mem_nil,or_false]at g;rcases g with rfl<;>exact⟨by kernel_rfl,of_decide_eq_true (by kernel_rfl)⟩) a
 exact⟨_,rfl,_,_,_,[],x,[],r,trodAll_mk1 (shut_bool (P:=P) I7 _),by rw[f];exact u,rfl,b.frame _,λh=>by cases h⟩
def OU:(Rows.signAlikeRow.inPlace==P.inPlace 6)=true:=by kernel_rfl
def O2:(Rows.signAlikeRow.unfollowed==P.unfollowed 6)=true:=by kernel_rfl
def O0:(Rows.signAlikeRow.recurses==P.recurses 6)=true:=by kernel_rfl
def OZ:(Rows.signAlikeRow.named==P.varsNamed 6)=true:=by kernel_rfl
def OY:(Rows.signAlikeRow.loops==(Tryz.f6.params.toList++Rows.signAlikeSpec.plain.varTypes P).any (P.loopsFrom ·))=true:=by kernel_rfl
set_option maxRecDepth 100000 in
def zL:joinedFacts P 6 Tryz.f6 Rows.signAlikeSpec Rows.signAlikeRow=true:=by
 unfold joinedFacts;rw[OW,O1,OU,O2,O0,OZ,OY,OV,OT,OS,OX];kernel_rfl
end Bp
theorem signAlike_holds:Rows.SignAlikeSaid:=
 (OpenClaim.holds_of_wide 6 Tryz.f6 rfl rfl rfl rfl rfl rfl rfl ⟨rfl,rfl,rfl,rfl,rfl⟩ rfl rfl rfl rfl rfl (by kernel_rfl) Tryz.func6 Bp.zL
  (of_decide_eq_true (by kernel_rfl)) (by unfold Func.isWrapper;first|(rw[if_pos (by decide+kernel)];kernel_rfl)|(rw[if_neg (by decide+kernel)];exact⟨rfl,rfl⟩))
  (λos started H enc _=>Bp.lifted os started H enc):Rows.signAlikeRow.holds Tryz.pinned (OpenSpec.ofChange Rows.signAlikeSpec))
