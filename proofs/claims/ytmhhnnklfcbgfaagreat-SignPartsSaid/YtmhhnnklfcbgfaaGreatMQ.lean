/-
  Texts of one proof, laid together: Lays OrcA OrcB OrcC Rt Rw Wx Zn SignParts.
-/
import Derived.Shelf.SlGeneric
import Derived.Shelf.SlIterI.Collect
import Derived.Shelf.SortM.Plain
import Derived.Shelf.SortM.SortNone
import Derived.Ground.GgzProg
import Derived.Ground.SlgmProg
import Derived.RangeFuncBox
import Derived.RangeFuncLeaves
import Derived.Shelf.Abstract
import Derived.OwnWalkIn
import Derived.TacticsInMore
import Derived.LoopNIn
import Derived.LoopIn
import Derived.Sort.OwnSortedInts
import Derived.Test.YtmhhnnklfcbgfaaGreatMU
import Derived.Test.YtmhhnnklfcbgfaaGreatRows
set_option linter.unusedVariables false
set_option linter.unusedSimpArgs false
set_option linter.defProp false
open Option renaming some→D,none→I
open Bool renaming true→C,false→Z
namespace Go.Proofs
open Go.Shelf
def Tryz.PX:Go.Shelf.Ren:=⟨λ |8=>95|11=>143|n=>n,λ |26=>3|28=>84|24=>30|0=>0|33=>70|4=>4|n=>n,λ |n=>n⟩
def Tryz.Gb:Go.Proofs.SlLaysZI.n8 Tryz.prog Tryz.PX:={
 mixed:=by kernel_rfl
 f8:=⟨Tryz.f95.name,by decide,Tryz.func95.trans (congrArg D (by kernel_rfl))⟩
 f11:=⟨Tryz.f143.name,by decide,Tryz.func143.trans (congrArg D (by kernel_rfl))⟩
 t0:=Tryz.underlying0
 a0:=Tryz.isAgg0
 z0:=Tryz.sizeOf0
 v0:=Tryz.zeroValue0
 t24:=Tryz.underlying30
 a24:=Tryz.isAgg30
 z24:=Tryz.sizeOf30
 v24:=Tryz.zeroValue30
 t26:=Tryz.underlying3
 a26:=Tryz.isAgg3
 z26:=Tryz.sizeOf3
 v26:=Tryz.zeroValue3
 t28:=Tryz.underlying84
 a28:=Tryz.isAgg84
 z28:=Tryz.sizeOf84
 v28:=Tryz.zeroValue84
 i26:=by kernel_rfl}
def Tryz.aan:Go.Shelf.Ren:=⟨λ |5=>96|8=>145|7=>144|19=>204|20=>205|10=>195|11=>196|12=>197|13=>198|14=>199|15=>200|16=>201|17=>202|18=>203|30=>229|31=>230|32=>231|33=>232|34=>233|35=>234|40=>254|n=>n,λ |23=>30|25=>3|3=>3|32=>217|22=>30|0=>0|44=>271|46=>251|4=>4|36=>265|35=>264|41=>223|5=>5|9=>9|53=>294|57=>298|63=>320|64=>321|n=>n,λ |n=>n⟩
def Tryz.DV:Go.Proofs.SlLaysM.n5 Tryz.prog Tryz.aan:={
 mixed:=by kernel_rfl
 f5:=⟨Tryz.f96.name,by decide,Tryz.func96.trans (congrArg D (by kernel_rfl))⟩
 f7:=⟨Tryz.f144.name,by decide,Tryz.func144.trans (congrArg D (by kernel_rfl))⟩
 f8:=Tryz.func145.trans (congrArg D (by kernel_rfl))
 f10:=⟨Tryz.f195.name,by decide,Tryz.func195.trans (congrArg D (by kernel_rfl))⟩
 f11:=⟨Tryz.f196.name,by decide,Tryz.func196.trans (congrArg D (by kernel_rfl))⟩
 f12:=⟨Tryz.f197.name,by decide,Tryz.func197.trans (congrArg D (by kernel_rfl))⟩
 f13:=⟨Tryz.f198.name,by decide,Tryz.func198.trans (congrArg D (by kernel_rfl))⟩
 f14:=⟨Tryz.f199.name,by decide,Tryz.func199.trans (congrArg D (by kernel_rfl))⟩
 f15:=⟨Tryz.f200.name,by decide,Tryz.func200.trans (congrArg D (by kernel_rfl))⟩
 f16:=⟨Tryz.f201.name,by decide,Tryz.func201.trans (congrArg D (by kernel_rfl))⟩
 f17:=⟨Tryz.f202.name,by decide,Tryz.func202.trans (congrArg D (by kernel_rfl))⟩
 f18:=⟨Tryz.f203.name,by decide,Tryz.func203.trans (congrArg D (by kernel_rfl))⟩
 f19:=Tryz.func204.trans (congrArg D (by kernel_rfl))
 f20:=Tryz.func205.trans (congrArg D (by kernel_rfl))
 f30:=⟨Tryz.f229.name,by decide,Tryz.func229.trans (congrArg D (by kernel_rfl))⟩
 f31:=Tryz.func230.trans (congrArg D (by kernel_rfl))
 f32:=Tryz.func231.trans (congrArg D (by kernel_rfl))
 f33:=⟨Tryz.f232.name,by decide,Tryz.func232.trans (congrArg D (by kernel_rfl))⟩
 f34:=⟨Tryz.f233.name,by decide,Tryz.func233.trans (congrArg D (by kernel_rfl))⟩
 f35:=⟨Tryz.f234.name,by decide,Tryz.func234.trans (congrArg D (by kernel_rfl))⟩
 f40:=⟨Tryz.f254.name,by decide,Tryz.func254.trans (congrArg D (by kernel_rfl))⟩
 t0:=Tryz.underlying0
 a0:=Tryz.isAgg0
 z0:=Tryz.sizeOf0
 v0:=Tryz.zeroValue0
 t3:=Tryz.underlying3
 a3:=Tryz.isAgg3
 z3:=Tryz.sizeOf3
 v3:=Tryz.zeroValue3
 t4:=Tryz.underlying4
 a4:=Tryz.isAgg4
 z4:=Tryz.sizeOf4
 v4:=Tryz.zeroValue4
 t5:=Tryz.underlying5
 a5:=Tryz.isAgg5
 z5:=Tryz.sizeOf5
 v5:=Tryz.zeroValue5
 t9:=Tryz.underlying9
 a9:=Tryz.isAgg9
 z9:=Tryz.sizeOf9
 v9:=Tryz.zeroValue9
 t22:=Tryz.underlying30
 a22:=Tryz.isAgg30
 z22:=Tryz.sizeOf30
 v22:=Tryz.zeroValue30
 t23:=Tryz.underlying30
 a23:=Tryz.isAgg30
 z23:=Tryz.sizeOf30
 v23:=Tryz.zeroValue30
 t25:=Tryz.underlying3
 a25:=Tryz.isAgg3
 z25:=Tryz.sizeOf3
 v25:=Tryz.zeroValue3
 t32:=Tryz.underlying217
 a32:=Tryz.isAgg217
 z32:=Tryz.sizeOf217
 v32:=Tryz.zeroValue217
 t35:=Tryz.underlying264
 a35:=Tryz.isAgg264
 z35:=Tryz.sizeOf264
 v35:=Tryz.zeroValue264
 t36:=Tryz.underlying265
 a36:=Tryz.isAgg265
 z36:=Tryz.sizeOf265
 v36:=Tryz.zeroValue265
 t41:=Tryz.underlying223
 a41:=Tryz.isAgg223
 z41:=Tryz.sizeOf223
 v41:=Tryz.zeroValue223
 t44:=Tryz.underlying271
 a44:=Tryz.isAgg271
 z44:=Tryz.sizeOf271
 v44:=Tryz.zeroValue271
 t46:=Tryz.underlying251
 a46:=Tryz.isAgg251
 z46:=Tryz.sizeOf251
 v46:=Tryz.zeroValue251
 t53:=Tryz.underlying294
 a53:=Tryz.isAgg294
 z53:=Tryz.sizeOf294
 v53:=Tryz.zeroValue294
 t57:=Tryz.underlying298
 a57:=Tryz.isAgg298
 z57:=Tryz.sizeOf298
 v57:=Tryz.zeroValue298
 t63:=Tryz.underlying320
 a63:=Tryz.isAgg320
 z63:=Tryz.sizeOf320
 v63:=Tryz.zeroValue320
 t64:=Tryz.underlying321
 a64:=Tryz.isAgg321
 z64:=Tryz.sizeOf321
 v64:=Tryz.zeroValue321}
end Go.Proofs
namespace Go.Proofs.YtmhhnnklfcbgfaaGreat
section
open Go.RowKit Go.Maps Go.Sort Go.Shelf Go.Proofs
section
variable {P:Program}{ρ:Ren}
set_option maxRecDepth 100000 in
set_option maxHeartbeats 2000000 in
def N9(L:SlLaysZI.n11 P ρ)(F:Fence)(n:Nat)(M:F.fn (ρ.f 11))(y:F.round=I)(aH:2<=n)(g:Nat)(a:Array Value)(O:F.fn g)(H:∀args w,(callFunc g args).run P w= .ok (.enter g args) w)
  (S:List Int->Prop) (N:Nat) (T:N<=maxLen) (U:N*8<=140737488355328) (w:World) (ag:∀(l zD:Nat) (fn:FuncId) (W:World),(∀pre x hh,AnyZI.ApAt ρ w fn (.func (.func g) #[] a) w.heap.size l zD pre hh->pre.length<N->YieldAt F (n-1-1) P l #[encZ x] hh λe i=>e= .returned (.bool C)/\AnyZI.ApAt ρ w fn (.func (.func g) #[] a) w.heap.size l zD (pre++[x]) i/\KeepsWalks hh i)->AnyZI.ApAt ρ w fn (.func (.func g) #[] a) w.heap.size l zD [] W->CallsIn F (n-1) P g (#[.func (.yield l) #[] #[]]++a) W λe i=>(∃v,e= .returned v)/\∃xs,S xs/\AnyZI.ApAt ρ w fn (.func (.func g) #[] a) w.heap.size l zD xs i):
  CallsIn F n P (ρ.f 11) #[.slice I 0 0,.func (.func g) #[] a] w λe E=>∃(v:Value) (c:List Int),e= .returned v/\S c/\E.ownsRow w.heap.size (ρ.t 26) 1 v c.length (c.map encZ)/\(v= .slice I 0 0↔c=[])/\Below w.heap.size w E:=by
 have af:1<=n:=by omega
 have mixed:=L.mixed;have t0:=L.t0;have a0:=L.a0;have z0:=L.z0;have v0:=L.v0;have t24:=L.t24;have a24:=L.a24;have z24:=L.z24;have v24:=L.v24;have t26:=L.t26;have a26:=L.a26;have z26:=L.z26;have v26:=L.v26;have t28:=L.t28;have a28:=L.a28;have z28:=L.z28;have v28:=L.v28;have u:ρ.t 24≠ρ.t 26:=λe=>by have h:=L.t24;rw[e,L.t26]at h;cases h
 have aq:=run_underlying L.t0;have ar:=run_underlying L.t24;have au:=run_underlying L.t26;have av:=run_underlying L.t28;obtain⟨_,_,G⟩:=L.f11;refine callsIn_of_wp_marks G rfl M ?_ y;simp only[SlBodyZ.n11_ntmps ρ,List.size_toArray,List.length_cons,List.length_nil,Nat.reduceAdd,Nat.reduceSub,Array.replicate_succ,Array.replicate_zero,List.push_toArray,List.append_toArray,List.nil_append,List.cons_append]
 gi_wp2
 refine wpIn_rangeFunc ?_;intro fn aa;rw[y];obtain⟨W0,j⟩:∃W0,w.alloc (.cells #[.slice I 0 0] (ρ.t 24))=W0:=⟨_,rfl⟩;have ae:W0.heap.size=w.heap.size+1:=by rw[<-j];simp
 have aj:W0.heap[w.heap.size]? =D (.cells #[.slice I 0 0] (ρ.t 24) (0,0)):=by rw[<-j];exact World.alloc_heap_new w _
 have m:Below w.heap.size w W0:=by rw[<-j];exact(Below.refl _ w).alloc (Nat.le.refl) _
 rw[j];obtain⟨hh,b⟩:∃hh,(W0.alloc (.deferred (D []))).alloc (.loop (AnyZI.apRec ρ fn (.func (.func g) #[] a) w.heap.size W0.heap.size .ready I))=hh:=⟨_,rfl⟩;have hold:∀k,k<W0.heap.size->hh.heap[k]? =W0.heap[k]? :=λk ab=>by
  rw[<-b];exact(Below.heap_alloc _ _ k (by simp;omega)).trans (Below.heap_alloc _ _ k ab)
 have Y:Below w.heap.size w hh:=by rw[<-b];exact(m.alloc m.size _).alloc (by have:=m.size;simp;omega) _
 have ap:hh.heap.size=W0.heap.size+2:=by rw[<-b];simp
 have R:AnyZI.ApAt ρ w fn (.func (.func g) #[] a) w.heap.size (W0.heap.size+1) W0.heap.size [] hh:=
  ⟨⟨_,(hold w.heap.size (by omega)).trans aj,⟨rfl,.inl ⟨rfl,rfl⟩⟩,by simp⟩,
   by rw[<-b];have:=World.alloc_heap_new (W0.alloc (.deferred (D []))) (.loop (AnyZI.apRec ρ fn (.func (.func g) #[] a) w.heap.size W0.heap.size .ready I));rwa[World.size_alloc]at this,
   by rw[<-b];exact(Below.heap_alloc _ _ _ (by simp)).trans (World.alloc_heap_new W0 _),Y⟩
 refine⟨W0.heap.size+1,[{target:= .collected W0.heap.size,args:= #[]}],hh,{target:= .fn (.func g) a,args:= #[.func (.yield (W0.heap.size+1)) #[] #[]]},hh,g,
  #[.func (.yield (W0.heap.size+1)) #[] #[]]++a,hh,?_,?_,?_,?_,λ_=>af,?_⟩
 ·rw[<-b];exact run_enterLoop_outer _ _ _ _ _
 ·simp[resolve,go_sem]
 ·intro am r;simp[Target.leads]at r;subst r;exact O
 ·simp[invoke,go_sem,H]
 ·refine(ag (W0.heap.size+1) W0.heap.size fn hh
   (λpre x W Q al=>AnyZI.apYield {L with} F (n-1-1) w fn aa _ w.heap.size (W0.heap.size+1) W0.heap.size (by omega) (by omega) (by omega) (Nat.le.refl) (by omega) N T U pre x W Q al) R).mono ?_
  rintro e pK ⟨⟨v0,rfl⟩,c,V,ah⟩;obtain⟨v,ai,z,ad⟩:=ah.box;have q:=run_endLoop (P:=P) ah.L (by simp[AnyZI.apRec]);obtain⟨iA,d⟩:∃iA,pK.putObj (W0.heap.size+1) (.loop {AnyZI.apRec ρ fn (.func (.func g) #[] a) w.heap.size W0.heap.size .ready I with state:= .exhausted})=iA:=⟨_,rfl⟩;rw[d]at q;have s:pK.grownBy iA (D (W0.heap.size+1)):=by rw[<-d];exact grownBy_putObj_a _ _ _
  have ak:iA.heap[w.heap.size]? =D (.cells #[v] (ρ.t 24) (0,0)):=by rw[<-d];exact(World.putObj_heap_other (by omega)).trans ai
  have o:iA.heap[W0.heap.size]? =D (.deferred (D [])):=by rw[<-d];exact(World.putObj_heap_other (by omega)).trans ah.K
  have B:=z.kept s (ownsRow_ne_a z ah.L (λcur e=>by first|cases e|exact u (Obj.cells.inj e).2.1));have p:Below w.heap.size w iA:=ah.below.grown s ah.below.size (λk e=>by cases e;omega);obtain⟨an,ao⟩:=cell_of_box_a ak;clear d;refine⟨I,iA,q,?_⟩
  gi_wp2
  rw[<-ae];refine⟨by simp,.inl ⟨_,_,rfl,run_takeDeferred o,?_⟩⟩;exact⟨_,results_tmp rfl _ _ _,v,c,rfl,V,B.kept (grownBy_putObj_a _ _ _) (ownsRow_ne_a B o (λcur e=>by first|cases e|exact u (Obj.cells.inj e).2.1)),ad,p.grown (grownBy_putObj_a _ _ _) p.size (λk e=>by cases e;omega)⟩
set_option maxHeartbeats 1000000 in
def Gd(L:SlLaysZI.n8 P ρ)(F:Fence)(n:Nat)(m:F.fn (ρ.f 8))(k:F.fn (ρ.f 11))(h:F.round=I)(aH:3<=n)(g:Nat)(a:Array Value)(o:F.fn g)(j:∀args w,(callFunc g args).run P w= .ok (.enter g args) w)
  (S:List Int->Prop) (N:Nat) (p:N<=maxLen) (q:N*8<=140737488355328) (w:World) (z:∀(l zD:Nat) (fn:FuncId) (W:World),(∀pre x hh,AnyZI.ApAt ρ w fn (.func (.func g) #[] a) w.heap.size l zD pre hh->pre.length<N->YieldAt F (n-1-1-1) P l #[encZ x] hh λe c=>e= .returned (.bool C)/\AnyZI.ApAt ρ w fn (.func (.func g) #[] a) w.heap.size l zD (pre++[x]) c/\KeepsWalks hh c)->AnyZI.ApAt ρ w fn (.func (.func g) #[] a) w.heap.size l zD [] W->CallsIn F (n-1-1) P g (#[.func (.yield l) #[] #[]]++a) W λe c=>(∃v,e= .returned v)/\∃xs,S xs/\AnyZI.ApAt ρ w fn (.func (.func g) #[] a) w.heap.size l zD xs c):
  CallsIn F n P (ρ.f 8) #[.func (.func g) #[] a] w λe d=>∃(v:Value) (b:List Int),e= .returned v/\S b/\d.ownsRow w.heap.size (ρ.t 26) 1 v b.length (b.map encZ)/\(v= .slice I 0 0↔b=[])/\Below w.heap.size w d:=by
 have af:1<=n:=by omega
 have B:∀args w,(callFunc (ρ.f 11) args).run P w= .ok (.enter (ρ.f 11) args) w:=L.f11.enters rfl;have mixed:=L.mixed;have t0:=L.t0;have a0:=L.a0;have z0:=L.z0;have v0:=L.v0;have t24:=L.t24;have a24:=L.a24;have z24:=L.z24;have v24:=L.v24;have t26:=L.t26;have a26:=L.a26;have z26:=L.z26;have v26:=L.v26;have t28:=L.t28;have a28:=L.a28;have z28:=L.z28;have v28:=L.v28;have E:=run_underlying L.t0;have G:=run_underlying L.t24;have H:=run_underlying L.t26;have K:=run_underlying L.t28;obtain⟨_,_,i⟩:=L.f8;refine callsIn_of_wp i rfl m ?_ h;simp only[SlBodyZ.n8_ntmps ρ,List.size_toArray,List.length_cons,List.length_nil,Nat.reduceAdd,Nat.reduceSub,Array.replicate_succ,Array.replicate_zero,List.push_toArray,List.append_toArray,List.nil_append,List.cons_append]
 gi_wp2_with (gi_at_fn (ρ.f 11);refine(N9 {L with} F (n-1) k h (by omega) g a o j S N p q _ z).mono ?_;rintro e d ⟨v,b,rfl,r,y,u,s⟩)
 go_ret
 exact⟨v,b,rfl,r,y,u,s⟩
end
def upto{α:Type}(f:Nat->α)(k:Nat):List α:=(List.range k).map f
def acz{α:Type}(f:Nat->α)(k:Nat):upto f (k+1)=upto f k++[f k]:=by simp[upto,List.range_succ]
def acy{α:Type}(f:Nat->α)(k:Nat):(upto f k).length=k:=by simp[upto]
def acx(a:List Int):upto (λj=>a[j]?.getD 0) a.length=a:=by
 apply List.ext_getElem
 ·simp[upto]
 ·intro i af ah;simp[upto,ah]
attribute [local go_sem] Oper.semAt_some
set_option maxRecDepth 100000 in
set_option maxHeartbeats 2000000 in
def acA(F:Fence)(n:Nat)(w:F.fn 97)(K:F.round=I)(aH:1<=n)(l d g o b off len cap:Nat)(c:List Int)(N:len*8<=140737488351232)(G:0<len->b<o)(y:d<o)(w0:World)(a:List Int->World->Prop)(t:∀s W,a s W->Below o w0 W)
  (E:∀pre x W,a pre W->pre.length<len->YieldAt F (n-1) Tryz.prog l #[.int .i64 x] W λe f=>e= .returned (.bool C)/\a (pre++[x]) f)
  (W:World) (r:w0.cell? ⟨d,g,I⟩=D (.slice (D ⟨b,off,I⟩) len cap)) (aq:∀j,j<len->w0.cell? ⟨b,off+j,I⟩=D (.int .i64 (c[j]?.getD 0))) (q:a [] W):
  CallsIn F n Tryz.prog 97 #[.func (.yield l) #[] #[],.pointer (D ⟨d,g,I⟩)] W λe f=>(∃v,e= .returned v)/\a (upto (λj=>c[j]?.getD 0) len) f:=by
 have r:=((t _ _ q).cell (p:=⟨d,g,I⟩) y).trans r;refine callsIn_of_wp Tryz.func97 rfl w ?_ K;simp only[Tryz.ntmps97,List.size_toArray,List.length_cons,List.length_nil,Nat.reduceAdd,Nat.reduceSub,Array.replicate_succ,Array.replicate_zero,List.push_toArray,List.append_toArray,List.nil_append,List.cons_append]
 gi_wp2
 gi_loopw [7] (λi wr=>∃k:Nat,k<=len/\i= .int .i64 k/\a (upto (λj=>c[j]?.getD 0) k) wr)
  (λi _=>len-(intOf i).toNat)
 case atStart=>exact⟨0,Nat.zero_le _,rfl,q⟩
 case round=>
  obtain⟨k,M,rfl,m⟩:=hrel;have H:k<len->wr.cell? ⟨b,off+k,I⟩=D (.int .i64 (c[k]?.getD 0)):=λh=>((t _ _ m).cell (p:=⟨b,off+k,I⟩) (G (by omega))).trans (aq k h)
  by_cases u:k<len
  ·obtain⟨fn,tmps,assign,body,O,B⟩:=E _ (c[k]?.getD 0) wr m (by rw[acy];exact u);have L:=H u
   gi_wp2
   refine B.mono ?_;rintro e iA ⟨rfl,z⟩
   gi_wp2
   go_roundw
   case rel=>exact⟨k+1,by omega,by simp,by rw[acz];exact z⟩
   case measure=>simp[intOf];omega
  ·obtain rfl:k=len:=by omega
   gi_wp2
   go_end0
   exact⟨⟨_,rfl⟩,m⟩
set_option maxRecDepth 100000 in
set_option maxHeartbeats 1000000 in
def acB(F:Fence)(n:Nat)(g:F.fn 97)(j:F.round=I)(l b c:Nat)(a:List Int->World->Prop)(W:World)(p:Option Addr)(cap:Nat)(k:W.cell? ⟨b,c,I⟩=D (.slice p 0 cap))(f:a [] W):
  CallsIn F n Tryz.prog 97 #[.func (.yield l) #[] #[],.pointer (D ⟨b,c,I⟩)] W λe d=>(∃v,e= .returned v)/\a [] d:=by
 refine callsIn_of_wp Tryz.func97 rfl g ?_ j;simp only[Tryz.ntmps97,List.size_toArray,List.length_cons,List.length_nil,Nat.reduceAdd,Nat.reduceSub,Array.replicate_succ,Array.replicate_zero,List.push_toArray,List.append_toArray,List.nil_append,List.cons_append]
 gi_wp2
 gi_loopw [7] (λi wr=>i= .int .i64 0/\a [] wr) (λ_ _=>0)
 case atStart=>exact⟨rfl,f⟩
 case round=>
  obtain⟨rfl,h⟩:=hrel
  gi_wp2
  go_end0
  exact⟨⟨_,rfl⟩,h⟩
end
section
open Go.bz Go.RowKit
set_option maxRecDepth 2000
def adk{F:Fence}{m:Nat}{Q:Program}{l:Nat}{args:Array Value}{W:World}{R S:Ending->World->Prop}(h:YieldAt F m Q l args W R)(b:∀e w,R e w->S e w):YieldAt F m Q l args W S:=by
 obtain⟨fn,tmps,assign,body,c,a⟩:=h;exact⟨fn,tmps,assign,body,c,a.mono b⟩
def PY(w:World)(c d:Nat)(m:c<w.heap.size)(b off cap:Nat)(a:List Int)(t:a.length<=1000000)(k:w.cell? ⟨c,d,I⟩=D (.slice (D ⟨b,off,I⟩) a.length cap))
  (aq:∀j,j<a.length->b<w.heap.size/\w.cell? ⟨b,off+j,I⟩=D (.int .i64 (a[j]?.getD 0))):
  Calls Tryz.prog 95 #[.func (.func 97) #[] #[.pointer (D ⟨c,d,I⟩)]] w λe f=>∃v:Value,e= .returned v/\f.ownsRow w.heap.size 3 1 v a.length (a.map encZ)/\(v= .slice I 0 0↔a=[])/\Below w.heap.size w f:=by
 refine(callsIn_wide (n:=6)).1 ?_;have h:=Gd Tryz.Gb Fence.wide 6 trivial trivial rfl (by omega) 97 #[.pointer (D ⟨c,d,I⟩)] trivial (enters_of Tryz.func97 (by kernel_rfl) rfl) (λg=>g=a) a.length (by simp only[maxLen];omega) (by omega) w
  (λl zD fn W p i=>(acA Fence.wide 4 trivial rfl (by omega) l c d w.heap.size b off a.length cap a (by omega) (λh=>(aq 0 h).1) m w _ (λs W h=>h.below) (λpre x W o al=>adk (p pre x W o al) λe f ⟨af,ah,_⟩=>⟨af,ah⟩) W k (λj q=>(aq j q).2) i).mono λe r ⟨af,ah⟩=>⟨af,_,rfl,by rw[acx]at ah;exact ah⟩)
 refine CallsIn.mono h ?_;rintro e f ⟨v,g,rfl,rfl,af,ah,an⟩;exact⟨v,rfl,af,ah,an⟩
def Gc(w:World)(a b:Nat)(i:a<w.heap.size)(p:Option Addr)(cap:Nat)(g:w.cell? ⟨a,b,I⟩=D (.slice p 0 cap)):
  Calls Tryz.prog 95 #[.func (.func 97) #[] #[.pointer (D ⟨a,b,I⟩)]] w λe f=>e= .returned (.slice I 0 0)/\Below w.heap.size w f:=by
 refine(callsIn_wide (n:=6)).1 ?_;have h:=Gd Tryz.Gb Fence.wide 6 trivial trivial rfl (by omega) 97 #[.pointer (D ⟨a,b,I⟩)] trivial (enters_of Tryz.func97 (by kernel_rfl) rfl) (λd=>d=[]) 0 (by simp only[maxLen];omega) (by omega) w
  (λl zD fn W k c=>(acB Fence.wide 4 trivial rfl l a b _ W p cap ((c.below.cell (p:=⟨a,b,I⟩) i).trans g) c).mono λe j ⟨af,ah⟩=>⟨af,_,rfl,ah⟩)
 refine CallsIn.mono h ?_;rintro e f ⟨v,d,rfl,rfl,af,ah,an⟩;obtain rfl:=ah.2 rfl;exact⟨rfl,an⟩
def uC{f:Nat}{fn:Func}{c:Code}{xs:List Value}{w:World}{next:Value->World->Prop}(a:P.funcs[f]? =D fn)(aq:fn.body=D c)(h:Calls P f xs.toArray w λe b=>∃x,e= .returned x/\next x b):nj P (callFunc f xs.toArray) w next:=by
 have g:(fn.name== "runtime.NumGoroutine")=false:=ka.names fn (Array.mem_of_getElem? a);have i:(callFunc f xs.toArray).run P w= .ok (.enter f xs.toArray) w:=by
  unfold callFunc;simp[a,aq];intro d;simp[d]at g
 unfold nj;rw[i];simp only
 refine Calls.mono h λe b au=> ?_
 obtain⟨x,rfl,aA⟩:=au;exact aA
def L8{ρ:Env}{H:ad}{w c:World}(d:Rel ρ H w)(a:Below w.heap.size w c):Step ρ H w ρ H c:=
 ⟨ρ.le_refl,bC _,λ_ _=>rfl,d.As a.size a.block,a.os,a.tape,a.output,a.size,λb h _=>a.block b h,λ_ h=> .inl h,λ_ _ _ h=>h,.same λ_ _ _ _ h=>h⟩
def abg{ρ:Env}{H:ad}{w o:World}(i:Rel ρ H w)(az:ρ H.next=I)(a:Below w.heap.size w o)(loc:Go.bz.Loc)(al:w.heap.size<=loc.block){esz:Nat}{els:List (List ae)}(r:fF (ρ.dn H.next loc) o loc Z esz els):
  Step ρ H w (ρ.dn H.next loc) (H.push (.row Z esz els)) o:=by
 have hle:=Env.mQ az loc;have n:=i.As a.size a.block;have p:∀l c,H.live l->ρ.dn H.next loc l=D c->c.block<w.heap.size:=λl c h bY=>by
  have j:l≠H.next:=by
   rintro rfl;have:=nI h;omega
  rw[Env.gW j]at bY;exact i.zK h bY
 have q:∀b,d_ (ρ.dn H.next loc) (H.push (.row Z esz els)) b->d_ ρ H b\/w.heap.size<=b:=by
  rintro b ⟨l,c,af,ah,an⟩;rcases wE af with rfl|af
  ·rw[Env.gK]at ah;obtain rfl:=Option.some.inj ah;exact .inr (an▸al)
  ·have cJ:l≠H.next:=by rintro rfl;have:=nI af.live;omega
   rw[Env.gW cJ]at ah;exact .inl ⟨l,c,af,ah,an⟩
 refine⟨hle,by simp,λl al=>Env.gW (by simp at al;omega),⟨?_,?_,?_,?_,?_⟩,a.os,a.tape,a.output,a.size,λb h _=>a.block b h,q,ad.BA rfl,.same (ad.o1 rfl)⟩
 ·intro l ro m k h;by_cases e:l=H.next
  ·subst e;rw[ad.a_]at h;cases h;exact⟨loc,Env.gK _ _ _,r⟩
  ·rw[ad.dO e]at h;obtain⟨c,g,au⟩:=n.row _ _ _ _ h;exact⟨c,hle _ _ g,au.frame hle rfl⟩
 ·intro l es h;by_cases e:l=H.next
  ·subst e;rw[ad.a_]at h;cases h
  ·rw[ad.dO e]at h;obtain⟨c,g,ents,clock,a,af,ah⟩:=n.map _ _ h;exact⟨c,hle _ _ g,ents,clock,a,af.mono hle,ah.mono hle⟩
 ·intro l t m k h;by_cases e:l=H.next
  ·subst e;rw[ad.a_]at h;cases h
  ·rw[ad.dO e]at h;obtain⟨c,g,au⟩:=n.dz _ _ _ _ h;exact⟨c,hle _ _ g,au.frame hle rfl⟩
 ·intro l u x y af ah j d f;rcases wE af with rfl|af
  ·rcases vQ ah with rfl|ah
   ·exact absurd rfl j
   ·rw[Env.gK]at d;obtain rfl:=Option.some.inj d;have:=p _ _ ah f;omega
  ·rcases vQ ah with rfl|ah
   ·rw[Env.gK]at f;obtain rfl:=Option.some.inj f;have:=p _ _ af.live d;omega
   ·have cJ:l≠H.next:=by rintro rfl;have:=nI af.live;omega
    have v:u≠H.next:=by rintro rfl;have:=nI ah;omega
    rw[Env.gW cJ]at d;rw[Env.gW v]at f;exact i.apart _ _ _ _ af ah j d f
 ·intro l s m k h;exact(i.old _ _ _ _ (ad.o1 rfl l s m k h)).step hle a.size (λb h _=>a.block b h) q
def L9{ρ:Env}{H:ad}{w g:World}(j:Rel ρ H w){l:Nat}{esz:Nat}{els m:List (List ae)}(aP:H.get l=D (.row Z esz els)){loc:Go.bz.Loc}(al:ρ l=D loc)
  (M:g.os=w.os) (P:g.tape=w.tape) (N:g.output=w.output) (B:w.heap.size<=g.heap.size) (x:∀k,k<w.heap.size->k≠loc.block->g.heap[k]? =w.heap[k]?) (O:fF ρ g loc Z esz m):
  Step ρ H w ρ (H.set l (.row Z esz m)) g:=by
 have r:=ad.bE aP;have u:∀c d,H.live c->c≠l->ρ c=D d->d.block≠loc.block:=λc d h bY e heq=>
  j.apart l c loc d (.inl ⟨_,_,aP⟩) h (Ne.symm bY) al e heq.symm
 have z:∀c,(H.set l (.row Z esz m)).rw c->H.rw c:=by
  intro c h;by_cases f:l=c
  ·subst f;exact .inl ⟨_,_,aP⟩
  ·simpa [ad.rw,ad.cb f]using h
 have K:∀c,(H.set l (.row Z esz m)).live c->H.live c:=by
  intro c h;by_cases f:l=c
  ·subst f;exact .inl ⟨_,_,_,aP⟩
  ·simpa [ad.live,ad.cb f]using h
 have q:∀c d,H.live c->c≠l->ρ c=D d->g.heap[d.block]? =w.heap[d.block]? :=λc d h bY e=>x _ (j.zK h e) (u _ _ h bY e)
 have v:∀b,b<w.heap.size->¬d_ ρ H b->g.heap[b]? =w.heap[b]? :=by
  intro b p L;exact x b p λe=>L ⟨l,loc,.inl ⟨_,_,aP⟩,al,e.symm⟩
 have y:∀b,d_ ρ (H.set l (.row Z esz m)) b->d_ ρ H b\/w.heap.size<=b:=by
  rintro b ⟨c,d,af,ah,an⟩;exact .inl ⟨c,d,z _ af,ah,an⟩
 refine⟨ρ.le_refl,bC _,λ_ _=>rfl,⟨?_,?_,?_,?_,?_⟩,M,P,N,B,v,y,ad.BB rfl,.same (ad.v_ rfl)⟩
 ·intro c S o n h;by_cases f:l=c
  ·subst f;rw[ad.c8 r]at h;cases h;exact⟨loc,al,O⟩
  ·rw[ad.cb f]at h;obtain⟨d,i,au⟩:=j.row _ _ _ _ h;exact⟨d,i,au.frame ρ.le_refl (q c d (.inl ⟨_,_,_,h⟩) (Ne.symm f) i)⟩
 ·intro c R h;by_cases f:l=c
  ·subst f;rw[ad.c8 r]at h;cases h
  ·rw[ad.cb f]at h;obtain⟨d,i,ents,clock,p,af,ah⟩:=j.map _ _ h;exact⟨d,i,ents,clock,by rw[q c d (.inr (.inl ⟨_,h⟩)) (Ne.symm f) i];exact p,af,ah⟩
 ·intro c t o n h;by_cases f:l=c
  ·subst f;rw[ad.c8 r]at h;cases h
  ·rw[ad.cb f]at h;obtain⟨d,i,au⟩:=j.dz _ _ _ _ h;exact⟨d,i,au.frame ρ.le_refl (q c d (.inr (.inr ⟨_,_,_,h⟩)) (Ne.symm f) i)⟩
 ·intro a b c9 Q af ah u E G;exact j.apart a b c9 Q (z _ af) (K _ ah) u E G
 ·intro c s o n h;exact(j.old _ _ _ _ (ad.v_ rfl c s o n h)).step ρ.le_refl B v y
def Ao:∀{es:List (List ae)} {xs:List Int},mL es=D xs->es=xs.map ey
 |[],_,h=>by cases h;rfl
 |e::es,xs,h=>by
  unfold mL at h;split at h
  ·rename_i heq;cases heq
  ·rename_i n es' heq;cases heq;obtain⟨a,af,rfl⟩:=Option.map_eq_some_iff.1 h;rw[Ao af];rfl
  ·cases h
end
section
open Go.bz Go.RowKit
set_option maxRecDepth 100000
def HC{ρ:Env}{w:World}{loc:Go.bz.Loc}{ro:Bool}{els:List (List ae)}(h:fF ρ w loc ro 1 els){i:Nat}{n:Int}(b:els[i]? =D (ey n)):w.cell? ⟨loc.block,loc.off+i*loc.esz,I⟩=D (.int .i64 n):=by
 obtain⟨he,c,t,e,a,-,au⟩:=h;obtain⟨-,ah⟩:=au i _ b;obtain⟨-,x,aA,d⟩:=ah 0 (.int .i64 n) rfl;cases d;rw[he];simp[World.cell?,a];simpa using aA
def Ns{H:ad}{m i n:Nat}{es:List (List ae)}(h:gN H m i n 1=D es):∃els,((∃ro,H.get m=D (.row ro 1 els))\/∃t,H.get m=D (.dz t 1 els))/\es.length=n/\∀j,j<n->els[i+j]? =es[j]? :=by
 unfold gN at h;split at h
 ·rename_i ro esz els aP;split at h
  ·rename_i aq;obtain⟨rfl,al⟩:=aq;cases h;exact⟨els,.inl ⟨ro,aP⟩,by simp;omega,λj a=>by rw[List.getElem?_take_of_lt a,List.getElem?_drop]⟩
  ·cases h
 ·rename_i t esz els aP;split at h
  ·rename_i aq;obtain⟨rfl,al⟩:=aq;cases h;exact⟨els,.inr ⟨t,aP⟩,by simp;omega,λj a=>by rw[List.getElem?_take_of_lt a,List.getElem?_drop]⟩
  ·cases h
 ·cases h
def Nu{ρ:Env}{H:ad}{w:World}(c:Rel ρ H w){m:Nat}{els:List (List ae)}(h:(∃ro,H.get m=D (.row ro 1 els))\/∃t,H.get m=D (.dz t 1 els)){loc:Go.bz.Loc}(al:ρ m=D loc):∃ro,fF ρ w loc ro 1 els/\loc.block<w.heap.size:=by
 rcases h with⟨ro,h⟩|⟨t,h⟩
 ·obtain⟨b,a,au⟩:=c.row _ _ _ _ h;obtain rfl:loc=b:=Option.some.inj (al.symm.trans a);exact⟨ro,au,au.lt⟩
 ·obtain⟨b,a,au⟩:=c.dz _ _ _ _ h;obtain rfl:loc=b:=Option.some.inj (al.symm.trans a);exact⟨Z,au.1,au.1.lt⟩
def Wh{w:World}{base:Nat}{v:Value}{xs:List Int}(h:w.ownsRow base 3 1 v xs.length (xs.map encZ))(e:xs≠[]):∃g cap cur,v= .slice (D ⟨g,0,I⟩) xs.length cap/\base<=g/\w.heap[g]? =D (.cells cur 3 (0,0))/\xs.length<=cap/\cur.size=cap/\∀j (a:j<xs.length),cur[j]? =D (.int .i64 xs[j]):=by
 rcases h.2 with⟨_,b⟩|⟨g,cap,cur,af,ah,an,aM,f,c,d⟩
 ·exact absurd (List.eq_nil_of_length_eq_zero b) e
 ·refine⟨g,cap,cur,af,ah,an,aM,by simpa using c,λj a=> ?_⟩;have:(cur.toList.take (xs.length*1))[j]? =(xs.map encZ)[j]? :=by rw[d]
  rw[List.getElem?_take_of_lt (by omega),Array.getElem?_toList]at this;rw[this];simp[a,encZ]
def LN{ρ:Env}{l i n e:Nat}{q:Option Nat}{x:Value}(h:bp ρ (.aD l i n e q) x):∃(loc:Go.bz.Loc) (a:Addr) (c:Nat),ρ l=D loc/\loc.esz=e/\n<=c/\(0<c->a=⟨loc.block,loc.off+i*loc.esz,I⟩)/\x= .slice (D a) n c:=by
 cases h with
 |aD _ _ _ _ loc a c h aH aq b=>exact⟨loc,a,c,h,rfl,aH,λh=>(b h).1,rfl⟩
def zv(xs:List Int)(n:Nat)(H:ad):ae×ad:=match xs with
 |[]=>(.aB,H)
 |_=>(.aD H.next 0 n 1 I,H.push (.row Z 1 (xs.map ey)))
def V_{H:ad}{l m i n:Nat}{ro:Bool}{q:Option Nat}{es:List (List ae)}{xs:List Int}(aP:H.get l=D (.row ro 1 [[.aD m i n 1 q]]))(he:gN H m i n 1=D es)(aA:mL es=D xs)(aH:n<=1000000):
  gL eL P 95 [.func (.func 97) [] [.ptr l 0 0]] H (zv xs n H).1 (zv xs n H).2:=by
 intro ρ w aE f az O ay next L
 cases O with|cons _ _ _ _ af ah=>
 cases af with|func _ _ _ _ _ V R=>
 cases V;cases ah;cases R with|cons _ _ _ _ an aM=>
 cases aM;cases an with|ptr _ _ _ loc al=>
 obtain⟨aq,ag,M⟩:=f.row _ _ _ _ aP;obtain rfl:loc=aq:=Option.some.inj (al.symm.trans ag);have K:=M.lt;obtain⟨ax,c,t,av,b,-,au⟩:=M;obtain⟨-,ah⟩:=au 0 _ rfl;obtain⟨-,x,ao,p⟩:=ah 0 _ rfl;obtain⟨els,ab,hlen,Q⟩:=Ns he;have G:=Ao aA;have r:xs.length=n:=by rw[<-hlen,G];simp
 obtain⟨s,a,cc,ai,E,aw,N,rfl⟩:=LN p;have B:w.cell? ⟨loc.block,loc.off+0*loc.esz+0,I⟩=D (.slice (D a) n cc):=by
  simp[World.cell?,b];simpa using ao
 cases xs with
 |nil=>
  obtain rfl:n=0:=r.symm;refine uC (c:=bw Tryz.f95) Tryz.func95 (by kernel_rfl) ?_;refine Calls.mono (Gc w loc.block (loc.off+0*loc.esz+0) K (D a) cc B) ?_;rintro e ar ⟨rfl,b⟩;exact⟨_,rfl,L _ _ ρ .aB (L8 f b)⟩
 |cons z u=>
  have W:ρ H.next=none:=az.new _ (bC _) (by simp[zv])
  have ak:0<cc:=by simp at r;omega
  obtain rfl:=N ak;obtain⟨aC,am,aj⟩:=Nu f ab ai;refine uC (c:=bw Tryz.f95) Tryz.func95 (by kernel_rfl) ?_;refine Calls.mono (PY w loc.block (loc.off+0*loc.esz+0) K s.block (s.off+i*s.esz) cc (z::u) (by omega) (by rw[B,r]) (λj d=>⟨aj,?_⟩)) ?_
  ·have aN:els[i+j]? =D (ey ((z::u)[j]'d)):=by
    rw[Q j (by omega),G,List.getElem?_map,List.getElem?_eq_getElem d];rfl
   have:=HC am aN;rw[E,Nat.mul_one]at this;rw[E,Nat.mul_one,Nat.add_assoc,this,List.getElem?_eq_getElem d];rfl
  ·rintro e ar ⟨v,rfl,af,ah,b⟩;obtain⟨g,cap,cur,rfl,aa,Y,S,T,U⟩:=Wh af (by simp);refine⟨_,rfl,L _ _ (ρ.dn H.next ⟨g,0,1,cap⟩) ?_ (abg f W b _ aa ?_)⟩
   ·rw[show n=(z::u).length from r.symm];exact .aD H.next 0 _ I ⟨g,0,1,cap⟩ _ _ (Env.gK _ _ _) S (λk h=>by cases h) (λ_=>⟨by simp,by simp⟩)
   ·refine⟨rfl,cur,3,(0,0),Y,⟨T.symm,λ_ o _ h=>by simp at h⟩,λj e he=> ?_⟩;rw[List.getElem?_map]at he;obtain⟨y,ap,rfl⟩:=Option.map_eq_some_iff.1 he;refine⟨rfl,λk v p=> ?_⟩;rcases k with _|k
    ·cases p;obtain⟨d,rfl⟩:=List.getElem?_eq_some_iff.1 ap;exact⟨rfl,_,by simpa using U j d,.int _ _⟩
    ·simp[ey]at p
def Wa{H:ad}{l:Nat}{ro:Bool}(aP:H.get l=D (.row ro 1 [[.aB]])):gL eL P 95 [.func (.func 97) [] [.ptr l 0 0]] H .aB H:=by
 intro ρ w v b az f s next m
 cases f with|cons _ _ _ _ af ah=>
 cases af with|func _ _ _ _ _ i g=>
 cases i;cases ah;cases g with|cons _ _ _ _ an aM=>
 cases aM;cases an with|ptr _ _ _ loc al=>
 obtain⟨p,j,d⟩:=b.row _ _ _ _ aP;obtain rfl:loc=p:=Option.some.inj (al.symm.trans j);have k:=d.lt;obtain⟨r,c,t,q,a,-,au⟩:=d;obtain⟨-,ah⟩:=au 0 _ rfl;obtain⟨-,x,o,n⟩:=ah 0 _ rfl;cases n;have h:w.cell? ⟨loc.block,loc.off+0*loc.esz+0,I⟩=D (.slice I 0 0):=by
  simp[World.cell?,a];simpa using o
 refine uC (c:=bw Tryz.f95) Tryz.func95 (by kernel_rfl) ?_;refine Calls.mono (Gc w loc.block (loc.off+0*loc.esz+0) k I 0 h) ?_;rintro e u ⟨rfl,a⟩;exact⟨_,rfl,m _ _ ρ .aB (L8 b a)⟩
def heap_sorted{w:World}{g off n:Nat}{os:Array Obj}{cur:Array Value}{e:TypeId}{ho:Nat×Nat}(d:Array Int)(a:w.heap[g]? =D (.cells cur e ho)):
  (Go.Sort.grow (Go.Sort.putRow (Value.int .i64) (Go.Sort.ahead w n) g off d) os).heap[g]? =D (.cells (Go.Sort.putCells (Value.int .i64) off d cur) e ho):=by
 have aP:g<w.heap.size:=(Array.getElem?_eq_some_iff.1 a).1;rw[Go.Sort.heap_grow_old _ _ (by simpa using aP)];simp[Go.Sort.putRow,Go.Sort.mapBlock,Go.Sort.ahead,Array.getElem?_modify,a,Go.Sort.onCells]
def SQ{w:World}{g off n k:Nat}{os:Array Obj}(d:Array Int)(a:k<w.heap.size)(b:k≠g):
  (Go.Sort.grow (Go.Sort.putRow (Value.int .i64) (Go.Sort.ahead w n) g off d) os).heap[k]? =w.heap[k]? :=by
 rw[Go.Sort.heap_grow_old _ _ (by simpa using a)];simp[Go.Sort.putRow,Go.Sort.mapBlock,Go.Sort.ahead,Array.getElem?_modify,Ne.symm b]
def Wd{H:ad}:gL eL P 96 [.aB] H (.tuple []) H:=by
 intro ρ w h a az b f next d
 cases b with|cons _ _ _ _ af ah=>
 cases af;cases ah;refine uC (c:=bw Tryz.f96) Tryz.func96 (by kernel_rfl) ?_;refine Calls.mono (Go.Proofs.AnyM.slices_Sort_int_none Tryz.DV I 0 w) ?_;rintro e g ⟨rfl,rfl⟩;exact⟨_,rfl,d _ _ ρ (.tuple [] [] .nil) (Step.refl a)⟩
def Wc{H:ad}{l n:Nat}{q:Option Nat}{es:List (List ae)}{xs:List Int}(aP:H.get l=D (.row Z 1 es))(aA:mL es=D xs)(Q:es.length=n)(aH:n<=1000000):
  gL eL P 96 [.aD l 0 n 1 q] H (.tuple []) (H.set l (.row Z 1 ((xs.mergeSort λx y=>decide (x<=y)).map ey))):=by
 intro ρ w am m az O ak next B
 cases O with|cons _ _ _ _ af ah=>
 cases ah;obtain⟨loc,a,cc,al,s,ai,N,rfl⟩:=LN af;obtain⟨ab,S,f⟩:=m.row _ _ _ _ aP;obtain rfl:loc=ab:=Option.some.inj (al.symm.trans S);have T:=f.lt;have p:=Ao aA;have G:xs.length=n:=by rw[<-Q,p];simp
 refine uC (c:=bw Tryz.f96) Tryz.func96 (by kernel_rfl) ?_;by_cases L:n=0
 ·subst L;refine Calls.mono (Go.Proofs.AnyM.slices_Sort_int_none Tryz.DV (D a) cc w) ?_;rintro e ag ⟨rfl,rfl⟩;have Y:xs=[]:=List.eq_nil_of_length_eq_zero G;subst Y;refine⟨_,rfl,B _ _ ρ (.tuple [] [] .nil) (L9 m aP al rfl rfl rfl (bC _) (λ_ _ _=>rfl) ?_)⟩;rw[p]at f;simpa using f
 ·have V:0<cc:=by omega
  obtain rfl:=N V;obtain⟨aj,c,t,K,g,⟨W,u⟩,au⟩:=id f;have r:∀j (b:j<xs.length),c[loc.off+j]? =D (.int .i64 xs[j]):=λj b=>by
   have:=HC f (i:=j) (n:=xs[j]) (by rw[p];simp[b]);rw[s]at this;simpa [World.cell?,g]using this
  have M:Go.Sort.Holds (Value.int .i64) w loc.block (loc.off+0*loc.esz) xs.toArray:=λj b=>by
   have d:j<xs.length:=by simpa using b
   have ah:=r j d;have an:loc.off+j<c.size:=(Array.getElem?_eq_some_iff.1 ah).1;refine⟨?_,?_⟩
   ·simp[World.cell?,g,ah,d]
   ·have:=u rfl _ an;simp[World.frozen?,g];simpa using this
  have z:=Go.Proofs.AnyM.slices_Sort_int Tryz.DV loc.block (loc.off+0*loc.esz) cc xs w M T (by omega);rw[G]at z;refine Calls.mono z ?_;rintro e ag ⟨rfl,k,os,rfl⟩;refine⟨_,rfl,B _ _ ρ (.tuple [] [] .nil) (L9 m aP al rfl rfl rfl (by simp[Go.Sort.grow,Go.Sort.ahead]) (λk R U=>SQ _ R U) ?_)⟩;refine⟨s,_,t,K,heap_sorted _ g,⟨by simp[Go.Sort.putCells,W],λh o aR=>u h o (by simpa [Go.Sort.putCells]using aR)⟩,λj e he=> ?_⟩;rw[List.getElem?_map]at he;obtain⟨y,aa,rfl⟩:=Option.map_eq_some_iff.1 he;refine⟨rfl,λi v E=> ?_⟩;rcases i with _|i
  ·cases E;obtain⟨b,rfl⟩:=List.getElem?_eq_some_iff.1 aa;have d:j<xs.length:=by simpa using b
   have an:loc.off+j<c.size:=(Array.getElem?_eq_some_iff.1 (r j d)).1;refine⟨rfl,_,?_,.int _ _⟩;simp[Go.Sort.putCells,an,d]
  ·simp[ey]at E
def JG:ed eL P aK:=by
 intro g args H v H' h;unfold aK at h;split at h
 ·rename_i l;split at h
  ·rename_i aP;obtain⟨ro,aP⟩:=FN aP;cases h;exact Wa aP
  ·rename_i m i n q aP;obtain⟨ro,aP⟩:=FN aP;split at h
   ·rename_i es he;split at h
    ·rename_i xs aA;split at h
     ·rename_i aH;have:=V_ aP he aA aH;cases xs with
      |nil=>cases h;exact this
      |cons z a=>cases h;exact this
     ·cases h
    ·cases h
   ·cases h
  ·cases h
 ·cases h;exact Wd
 ·rename_i l n q;split at h
  ·rename_i es aP;replace aP:=Xe aP;split at h
   ·rename_i xs aA;split at h
    ·rename_i aq;cases h;exact Wc aP aA aq.1 aq.2
    ·cases h
   ·cases h
  ·cases h
 ·cases h
end
section
open Go.bz
set_option maxRecDepth 2000
open Go.ChangeShapes Go.WideShapes Go.ChangeAt Go.RowKit
def own:ownKnob Tryz.prog.godebug=none:=by kernel_rfl
def laidOut:laidOutB Tryz.prog=true:=by kernel_rfl
def kP:P.underlying 3=D (.int .i64):=by kernel_rfl
def Mz:P.underlying 4=D .bool:=by kernel_rfl
def MA:P.underlying 9=D .string:=by kernel_rfl
end
section
open Go.bz
set_option maxRecDepth 2000
def TL:laidOutB P=true:=laidOut
def TQ:mapsRowed P=true:=by kernel_rfl
def TK:P.plainKeys=false:=by kernel_rfl
def TI:P.stopsHeard=true:=by kernel_rfl
def TH:P.mayEnter=true:=by kernel_rfl
def TM:P.liftsFinal=false:=by kernel_rfl
end
section
open Go.bz
open Go.a2
set_option maxRecDepth 2000
open Go.ChangeShapes Go.WideShapes Go.ChangeAt Go.RowKit
def mA{α:Type}(K:ek α)(W:World)(ρ:Env)(H:ad)(cs:List Value):Prop:=∃b H' a c,Seen b H' W/\ρ.le b/\av H H'/\bO b c cs/\K.V H' bk a c
def Nb{α:Type}(K:ek α)(W:World)(ρ:Env)(H:ad)(c:Value):Prop:=∃a H' l v,Seen a H' W/\ρ.le a/\av H H'/\bp a v c/\aO K H' bk l v
section
variable {α:Type}{K:ek α}
def JE{W:World}{ok:List Value->Prop}(n:∀ρ H cs,Seen ρ H W->ok cs->mA K W ρ H cs){a:Addr}{len:Nat}(aA:∀i,i<len->∃cs,W.cells? 0 (a.add (i*K.esz)) K.esz=D cs/\ok cs){ρ:Env}{H:ad}(p:Seen ρ H W):
  ∀k,k<=len->∃(h:Env) (H':ad) (l:List α) (els:List (List ae)),Seen h H' W/\ρ.le h/\av H H'/\l.length=k/\els.length=k/\(∀(i:Nat) (x:α),l[i]? =D x->∃cs,els[i]? =D cs/\K.V H' bk x cs)/\∀(i:Nat) (e:List ae),els[i]? =D e->e.length=K.esz/\e.all ae.one=C/\∃cs,W.cells? 0 (a.add (i*K.esz)) K.esz=D cs/\bO h e cs
 |0,_=>⟨ρ,H,[],[],p,Env.le_refl _,.refl _,rfl,rfl,λi x aA=>by simp at aA,λi e he=>by simp at he⟩
 |k+1,R=>by
  obtain⟨P,H1,l,els,s1,w,z,cJ,y,u,B⟩:=JE n aA p k (by omega);obtain⟨cs,aq,v⟩:=aA k (by omega);obtain⟨Q,s,e,j,s2,q,r,v2,x2⟩:=n P H1 cs s1 v;have o:=K.len x2;refine⟨Q,s,l++[e],els++[j],s2,Env.le_trans w q,z.trans r,by simp[cJ],by simp[y],λi x b=> ?_,λi t he=> ?_⟩
  ·by_cases g:i<l.length
   ·rw[List.getElem?_append_left g]at b;obtain⟨c,N,O⟩:=u i x b;exact⟨c,by rw[List.getElem?_append_left (by omega)];exact N,K.keep (.aE r) O⟩
   ·rw[List.getElem?_append_right (by omega)]at b;have d:i-l.length=0:=by
     cases f:i-l.length with
     |zero=>rfl
     |succ m=>rw[f]at b;simp at b
    rw[d]at b;simp only[List.getElem?_cons_zero,bb]at b;subst b;exact⟨j,by rw[List.getElem?_append_right (by omega),show i-els.length=0 by omega];rfl,x2⟩
  ·by_cases g:i<els.length
   ·rw[List.getElem?_append_left g]at he;obtain⟨E,G,c,L,M⟩:=B i t he;exact⟨E,G,c,L,M.mono q⟩
   ·rw[List.getElem?_append_right (by omega)]at he;have d:i-els.length=0:=by
     cases f:i-els.length with
     |zero=>rfl
     |succ m=>rw[f]at he;simp at he
    rw[d]at he;simp only[List.getElem?_cons_zero,bb]at he;subst he;obtain rfl:i=k:=by omega
    exact⟨o.1,o.2,cs,aq,v2⟩
def nP{H0:Type}{enc:TypeId×Value->H0}{W:World}{t e n:Nat}(ab:P.underlying t=D (.slice e))(S:P.cellsOf e=K.esz)(V:0<K.esz)(U:∀q ρ H cs z,Seen ρ H W->DataW.trod enc P W 0 (λ_=>C) C q e cs=D z->mA K W ρ H cs)
  {ρ:Env} {H:ad} {c:Value} {x:DataW H0×List MemPlace} (d:Seen ρ H W) (h:DataW.trod enc P W 0 (λ_=>C) C n t [c]=D x):Nb K W ρ H c:=by
 rcases V8 (P:=P) ab h with y|⟨a,len,cap,M,az,y,T,aA⟩
 ·cases y;exact⟨ρ,H,[],.aB,d,Env.le_refl _,.refl _,.aB,.nil⟩
 ·cases y;rw[S]at aA;by_cases R:0<cap
  ·obtain⟨au,H1,l,els,s1,aj,al,cJ,aF,O,am⟩:=JE (K:=K) (ok:=λcs=>∃z,DataW.trod enc P W 0 (λ_=>C) C M e cs=D z) (λρ H cs d ⟨z,ae⟩=>U M ρ H cs z d ae) (λi aC=>aA i (by omega)) d len (bC _);have first:∃v0,W.cell? (a.add (0*K.esz)|>.add 0)=D v0:=by
    obtain⟨cs,g,_⟩:=aA 0 R;have af:=(World.cells?_some g).2.2 0 V;have ah:=(World.cells?_some g).2.1;exact⟨cs[0]'(by omega),by rw[af];simp[show 0<cs.length by omega]⟩
   obtain⟨v0,f⟩:=first
   have p:a.spot=none:=by
    have ah:=World.cell?_spot f;simpa [Addr.add]using ah
   obtain⟨cc,L,r,w⟩:∃cc L r,W.heap[a.block]? =D (.cells cc L r):=by
    rw[pQ p,pQ rfl]at f;unfold World.cell? at f;simp only at f;split at f
    ·exact⟨_,_,_,‹_›⟩
    ·cases f
   have Y:a.off+cap*K.esz<=cc.size:=by
    obtain⟨cs,g,_⟩:=aA (cap-1) (by omega);have aw:=(World.cells?_some g).2.1;have u:=(World.cells?_some g).2.2 (K.esz-1) (by omega);rw[pQ p,pQ rfl,List.getElem?_eq_getElem (by omega)]at u;have Q:cc[a.off+(cap-1)*K.esz+(K.esz-1)]? =D cs[K.esz-1]:=by
     unfold World.cell? at u;simpa [w]using u
    have ax:=(Array.getElem?_eq_some_iff.1 Q).1;have ay:(cap-1)*K.esz+K.esz=cap*K.esz:=by
     obtain⟨m,rfl⟩:∃m,cap=m+1:=⟨cap-1,by omega⟩;rw[Nat.add_sub_cancel,Nat.succ_mul]
    omega
   have aa:Go.bz.fF au W ⟨a.block,a.off,K.esz,cc.size⟩ C K.esz els:=by
    refine⟨rfl,cc,L,r,w,⟨rfl,λh=>by cases h⟩,λi e he=> ?_⟩;obtain⟨N,an,cs,ao,ap⟩:=am i e he;refine⟨N,λj v G=> ?_⟩;obtain⟨z,ag,ai⟩:=ap.get j v G;have B:j<K.esz:=by rw[<-N];exact(List.getElem?_eq_some_iff.1 G).1
    refine⟨List.all_eq_true.1 an v (List.mem_of_getElem? G),z,?_,ai⟩;have:=(World.cells?_some ao).2.2 j B;rw[pQ p,pQ rfl,ag]at this;unfold World.cell? at this;simpa [w]using this
   have s2:=s1.push aa;have ak:=s1.mQ ⟨a.block,a.off,K.esz,cc.size⟩;have pp:=av.push H1 (.row C K.esz els);refine⟨_,_,l,.aD H1.next 0 len K.esz I,s2,Env.le_trans aj ak,al.dQ _,?_,.inr (.inl ⟨H1.next,0,I,C,els,by rw[cJ],trivial,ad.a_ _ _,by omega,λj x B=> ?_⟩)⟩
   ·exact .aD H1.next 0 len I ⟨a.block,a.off,K.esz,cc.size⟩ a cap (by simp[Env.dn]) T (λk E=>by cases E) (λ_=>⟨by obtain⟨b,o,s⟩:=a;cases p;simp,by simpa using Y⟩)
   ·obtain⟨cs,aq,ar⟩:=O j x B;exact⟨cs,by rw[Nat.zero_add];exact aq,K.keep (.aE pp) ar⟩
  ·obtain rfl:cap=0:=by omega
   obtain rfl:len=0:=by omega
   have s2:=d.blank ⟨0,0,K.esz,0⟩;refine⟨_,_,[],.aD H.next 0 0 K.esz I,s2,d.mQ _,av.push _ _,?_,.inr (.inr ⟨H.next,0,I,rfl,rfl⟩)⟩;exact .aD H.next 0 0 I ⟨0,0,K.esz,0⟩ a 0 (by simp[Env.dn]) (bC _) (λk E=>by cases E) (λh=>absurd h (by omega))
end
section
variable {H0:Type}{enc:TypeId×Value->H0}{W:World}
def V4(n:Nat)(ρ:Env)(H:ad)(cs:List Value)(x:DataW H0×List MemPlace)(a:Seen ρ H W)(h:DataW.trod enc P W 0 (λ_=>C) C n 3 cs=D x):mA aT W ρ H cs:=by
 obtain⟨z,af,_⟩:=DataW.trod_int (P:=P) kP h;subst af;exact⟨ρ,H,z,[.int .i64 z],a,Env.le_refl _,.refl _,.cons _ _ _ _ (.int _ _) .nil,rfl⟩
def GO:fh P 46 0=D (3,0):=by kernel_rfl
def QF:fh P 46 1=D (3,1):=by kernel_rfl
def QG:fh P 46 2=D (3,2):=by kernel_rfl
def p1:P.cellsOf 3=1:=by kernel_rfl
def p2:P.cellsOf 46=3:=by kernel_rfl
def FW:P.cellsOf 9=1:=by kernel_rfl
def Py:P.cellsOf 4=1:=by kernel_rfl
def u7(n:Nat)(cs:List Value)(x:DataW H0×List MemPlace)(h:DataW.trod enc P W 0 (λ_=>C) C n 46 cs=D x):∃b r d,cs=[.int .i64 b,.int .i64 r,.int .i64 d]:=by
 have al:=px GO h;rw[p2]at al
 match cs,al with
 |[bh,a8,bo],_=>
  obtain⟨_,_,a⟩:=gC GO h;obtain⟨_,_,af⟩:=gC QF h;obtain⟨_,_,ah⟩:=gC QG h;rw[p1]at a af ah;obtain⟨b,rfl⟩:=lN (P:=P) kP a;obtain⟨r,rfl⟩:=lN (P:=P) kP af;obtain⟨d,rfl⟩:=lN (P:=P) kP ah;exact⟨b,r,d,rfl⟩
def JF(n:Nat)(ρ:Env)(H:ad)(cs:List Value)(x:DataW H0×List MemPlace)(a:Seen ρ H W)(h:DataW.trod enc P W 0 (λ_=>C) C n 46 cs=D x):mA eV W ρ H cs:=by
 obtain⟨b,r,d,rfl⟩:=u7 n cs x h;exact⟨ρ,H,⟨b,r,d⟩,bZ ⟨b,r,d⟩,a,Env.le_refl _,.refl _,.cons _ _ _ _ (.int _ _) (.cons _ _ _ _ (.int _ _) (.cons _ _ _ _ (.int _ _) .nil)),rfl⟩
def GL:fh P 98 0=D (9,0):=by kernel_rfl
def Qy:fh P 98 1=D (46,1):=by kernel_rfl
def FT:P.cellsOf 98=4:=by kernel_rfl
def V2(n:Nat)(ρ:Env)(H:ad)(cs:List Value)(x:DataW H0×List MemPlace)(c:Seen ρ H W)(h:DataW.trod enc P W 0 (λ_=>C) C n 98 cs=D x):mA kU W ρ H cs:=by
 have al:=px GL h;rw[FT]at al
 match cs,al with
 |[bh,a8,bo,bJ],_=>
  obtain⟨_,_,a⟩:=gC GL h;obtain⟨_,_,af⟩:=gC Qy h;rw[FW]at a;rw[p2]at af;obtain⟨s,rfl⟩:=Mp (P:=P) MA a;obtain⟨b,r,d,e⟩:=u7 _ _ _ af;simp only[List.drop_succ_cons,List.drop_zero,List.take_succ_cons,List.take_zero,List.cons.injEq,and_true]at e;obtain⟨rfl,rfl,rfl⟩:=e;exact⟨ρ,H,⟨b,r,d⟩,.str s::bZ ⟨b,r,d⟩,c,Env.le_refl _,.refl _,.cons _ _ _ _ (.str _) (.cons _ _ _ _ (.int _ _) (.cons _ _ _ _ (.int _ _) (.cons _ _ _ _ (.int _ _) .nil))),⟨s,rfl⟩⟩
def GN:fh P 95 0=D (9,0):=by kernel_rfl
def QE:fh P 95 1=D (93,1):=by kernel_rfl
def FX:P.cellsOf 95=2:=by kernel_rfl
def PA:P.cellsOf 93=1:=by kernel_rfl
def V6(n:Nat)(ρ:Env)(H:ad)(cs:List Value)(x:DataW H0×List MemPlace)(d:Seen ρ H W)(h:DataW.trod enc P W 0 (λ_=>C) C n 95 cs=D x):mA lT W ρ H cs:=by
 have al:=px GN h;rw[FX]at al
 match cs,al with
 |[bh,a8],_=>
  obtain⟨_,_,a⟩:=gC GN h;obtain⟨_,_,af⟩:=gC QE h;rw[FW]at a;rw[PA]at af;obtain⟨s,rfl⟩:=Mp (P:=P) MA a;obtain⟨e,H',l,v,b,c,a3,a4,a5⟩:=nP (K:=kU) iS.un FT (by decide) (λq ρ H cs z=>V2 q ρ H cs z) d af;exact⟨e,H',l,[.str s,v],b,c,a3,.cons _ _ _ _ (.str _) (.cons _ _ _ _ a4 .nil),⟨s,v,rfl,a5⟩⟩
def GM:fh P 89 0=D (3,0):=by kernel_rfl
def Qz:fh P 89 1=D (3,1):=by kernel_rfl
def QA:fh P 89 2=D (3,2):=by kernel_rfl
def QB:fh P 89 3=D (3,3):=by kernel_rfl
def QC:fh P 89 4=D (3,4):=by kernel_rfl
def QD:fh P 89 5=D (30,5):=by kernel_rfl
def FU:P.cellsOf 89=6:=by kernel_rfl
def PB:P.cellsOf 30=1:=by kernel_rfl
def V3(n:Nat)(ρ:Env)(H:ad)(cs:List Value)(x:DataW H0×List MemPlace)(e:Seen ρ H W)(h:DataW.trod enc P W 0 (λ_=>C) C n 89 cs=D x):mA fD W ρ H cs:=by
 have al:=px GM h;rw[FU]at al
 match cs,al with
 |[bh,a8,bo,bJ,bT,cn],_=>
  obtain⟨_,_,a⟩:=gC GM h;obtain⟨_,_,af⟩:=gC Qz h;obtain⟨_,_,ah⟩:=gC QA h;obtain⟨_,_,an⟩:=gC QB h;obtain⟨_,_,aM⟩:=gC QC h;obtain⟨_,_,b⟩:=gC QD h;rw[p1]at a af ah an aM;rw[PB]at b;obtain⟨z0,rfl⟩:=lN (P:=P) kP a;obtain⟨f,rfl⟩:=lN (P:=P) kP af;obtain⟨g,rfl⟩:=lN (P:=P) kP ah;obtain⟨z3,rfl⟩:=lN (P:=P) kP an;obtain⟨z4,rfl⟩:=lN (P:=P) kP aM;obtain⟨i,H',l,v,c,d,a3,a4,a5⟩:=nP (K:=aT) b6.un p1 (by decide) (λq ρ H cs z=>V4 q ρ H cs z) e b;exact⟨i,H',⟨z0,f,g,z3,z4,l⟩,_,c,d,a3,.cons _ _ _ _ (.int _ _) (.cons _ _ _ _ (.int _ _) (.cons _ _ _ _ (.int _ _) (.cons _ _ _ _ (.int _ _) (.cons _ _ _ _ (.int _ _) (.cons _ _ _ _ a4 .nil))))),⟨v,rfl,a5⟩⟩
def GK:fh P 49 0=D (3,0):=by kernel_rfl
def Qu:fh P 49 1=D (23,1):=by kernel_rfl
def Qv:fh P 49 2=D (4,2):=by kernel_rfl
def Qw:fh P 49 3=D (46,3):=by kernel_rfl
def Qx:fh P 49 4=D (47,6):=by kernel_rfl
def FR:P.cellsOf 49=7:=by kernel_rfl
def FV:P.cellsOf 23=1:=by kernel_rfl
def PC:P.cellsOf 47=1:=by kernel_rfl
def V1(n:Nat)(ρ:Env)(H:ad)(cs:List Value)(x:DataW H0×List MemPlace)(p:Seen ρ H W)(h:DataW.trod enc P W 0 (λ_=>C) C n 49 cs=D x):mA fC W ρ H cs:=by
 have al:=px GK h;rw[FR]at al
 match cs,al with
 |[bh,a8,bo,bJ,bT,cn,cy],_=>
  obtain⟨_,_,f⟩:=gC GK h;obtain⟨_,_,af⟩:=gC Qu h;obtain⟨_,_,ah⟩:=gC Qv h;obtain⟨_,_,an⟩:=gC Qw h;obtain⟨_,_,aM⟩:=gC Qx h;rw[p1]at f;rw[FV]at af;rw[Py]at ah;rw[p2]at an;rw[PC]at aM;obtain⟨z0,rfl⟩:=lN (P:=P) kP f;obtain⟨u,g,_⟩:=DataW.trod_bool (P:=P) Mz ah;simp only[List.drop_succ_cons,List.drop_zero,List.take_succ_cons,List.take_zero,List.cons.injEq,and_true]at g;subst g;obtain⟨b,r,d,e⟩:=u7 _ _ _ an;simp only[List.drop_succ_cons,List.drop_zero,List.take_succ_cons,List.take_zero,List.cons.injEq,and_true]at e;obtain⟨rfl,rfl,rfl⟩:=e;obtain⟨w,H1,s,v1,j,k,a3,a4,a5⟩:=nP (K:=eV) cX.un p2 (by decide) (λq ρ H cs z=>JF q ρ H cs z) p af
  obtain⟨v,i,t,v2,l,a,c,m,o⟩:=nP (K:=fD) eA.un FU (by decide) (λq ρ H cs z=>V3 q ρ H cs z) j aM;refine⟨v,i,⟨z0,s,u,⟨b,r,d⟩,t⟩,_,l,Env.le_trans k a,a3.trans c,.cons _ _ _ _ (.int _ _) (.cons _ _ _ _ (a4.mono a) (.cons _ _ _ _ (.bool _) (.cons _ _ _ _ (.int _ _) (.cons _ _ _ _ (.int _ _) (.cons _ _ _ _ (.int _ _) (.cons _ _ _ _ m .nil)))))),⟨v1,v2,rfl,a5.aE c,o⟩⟩
def GP:fh P 100 0=D (3,0):=by kernel_rfl
def QL:fh P 100 1=D (46,1):=by kernel_rfl
def FY:P.cellsOf 100=4:=by kernel_rfl
def V7(n:Nat)(ρ:Env)(H:ad)(cs:List Value)(x:DataW H0×List MemPlace)(c:Seen ρ H W)(h:DataW.trod enc P W 0 (λ_=>C) C n 100 cs=D x):mA lU W ρ H cs:=by
 have al:=px GP h;rw[FY]at al
 match cs,al with
 |[bh,a8,bo,bJ],_=>
  obtain⟨_,_,a⟩:=gC GP h;obtain⟨_,_,af⟩:=gC QL h;rw[p1]at a;rw[p2]at af;obtain⟨z,rfl⟩:=lN (P:=P) kP a;obtain⟨b,r,d,e⟩:=u7 _ _ _ af;simp only[List.drop_succ_cons,List.drop_zero,List.take_succ_cons,List.take_zero,List.cons.injEq,and_true]at e;obtain⟨rfl,rfl,rfl⟩:=e;exact⟨ρ,H,⟨z,⟨b,r,d⟩⟩,_,c,Env.le_refl _,.refl _,.cons _ _ _ _ (.int _ _) (.cons _ _ _ _ (.int _ _) (.cons _ _ _ _ (.int _ _) (.cons _ _ _ _ (.int _ _) .nil))),rfl⟩
def Aa:fh P 27 0=D (22,0):=by kernel_rfl
def QH:fh P 27 1=D (23,1):=by kernel_rfl
def QI:fh P 27 2=D (24,2):=by kernel_rfl
def QJ:fh P 27 3=D (25,3):=by kernel_rfl
def QK:fh P 27 4=D (3,4):=by kernel_rfl
def PF:P.cellsOf 27=5:=by kernel_rfl
def PD:P.cellsOf 22=1:=by kernel_rfl
def Pz:P.cellsOf 24=1:=by kernel_rfl
def PE:P.cellsOf 25=1:=by kernel_rfl
def V5(n:Nat)(ρ:Env)(H:ad)(cs:List Value)(x:DataW H0×List MemPlace)(p:Seen ρ H W)(h:DataW.trod enc P W 0 (λ_=>C) C n 27 cs=D x):
  ∃a H' y b,Seen a H' W/\ρ.le a/\av H H'/\bO a b cs/\cM H' bk y (.agg b):=by
 have al:=px Aa h;rw[PF]at al
 match cs,al with
 |[bh,a8,bo,bJ,bT],_=>
  obtain⟨_,_,d⟩:=gC Aa h;obtain⟨_,_,af⟩:=gC QH h;obtain⟨_,_,ah⟩:=gC QI h;obtain⟨_,_,an⟩:=gC QJ h;obtain⟨_,_,aM⟩:=gC QK h;rw[PD]at d;rw[FV]at af;rw[Pz]at ah;rw[PE]at an;rw[p1]at aM;obtain⟨z,rfl⟩:=lN (P:=P) kP aM;obtain⟨G,H1,r,v1,i,j,a3,a4,a5⟩:=nP (K:=lT) eG.un FX (by decide) (λq ρ H cs z=>V6 q ρ H cs z) p d;obtain⟨L,B,s,v2,k,c,l,m,o⟩:=nP (K:=eV) cX.un p2 (by decide) (λq ρ H cs z=>JF q ρ H cs z) i af;obtain⟨M,E,t,v3,a8,bo,bJ,bT,cn⟩:=nP (K:=fC) cI.un FR (by decide) (λq ρ H cs z=>V1 q ρ H cs z) k ah;obtain⟨w,g,u,v4,d1,d2,d3,d4,d5⟩:=nP (K:=lU) fO.un FY (by decide) (λq ρ H cs z=>V7 q ρ H cs z) a8 an
  have v:=d3;have f:=bJ.trans d3;have e:=l.trans f;refine⟨w,g,⟨r,s,t,u,z⟩,[v1,v2,v3,v4,.int .i64 z],d1,Env.le_trans j (Env.le_trans c (Env.le_trans bo d2)),a3.trans e,?_,⟨_,rfl,v1,v2,v3,v4,rfl,a5.aE e,o.aE f,cn.aE v,d5⟩⟩;exact .cons _ _ _ _ (a4.mono (Env.le_trans c (Env.le_trans bo d2))) (.cons _ _ _ _ (m.mono (Env.le_trans bo d2)) (.cons _ _ _ _ (bT.mono d2) (.cons _ _ _ _ d4 (.cons _ _ _ _ (.int _ _) .nil))))
end
end
section
open Go.bz
open Go.a2
open Go.ChangeShapes Go.WideShapes Go.ChangeAt Go.RowKit
def acq:∃fs,P.underlying 27=D (.struct fs):=by
 have h:=Aa;unfold fh at h;split at h
 ·rename_i fs az;exact⟨fs,az⟩
 ·cases h
set_option maxRecDepth 100000 in
def NB{W:World}{r:Reach}{base:Nat}{v:Value}(a:Value.okWide P W r base 27 v):∃cs:List Value,v= .agg cs.toArray:=by
 obtain⟨fs,hu⟩:=acq;unfold Value.okWide at a;rw[hu]at a;obtain⟨cs,rfl,_⟩:=a;exact⟨cs.toList,by simp⟩
set_option maxRecDepth 100000 in
def TY(H:ad):gL eL P 16 [] H (.bool C) H:=Ug JG H
set_option maxRecDepth 100000 in
def ZT{H:Type}{enc:TypeId×Value->H}{W:World}{r:Reach}{base:Nat}{v:Value}{d:DataW H}{db:List MemPlace}(g:Value.okWide P W r base 27 v)(h:DataW.Trod enc P W 0 (λ_=>C) C 27 v d db):ze eL P 5 [v] W:=by
 obtain⟨cs,rfl⟩:=NB g;obtain⟨n,aH⟩:=h;have b:(Value.agg cs.toArray).cells.toList=cs:=by simp[Value.cells]
 rw[b]at aH;obtain⟨i,H1,y,a,s1,j,k,v1,x1⟩:=V5 n _ _ cs _ (Seen.empty W) aH;obtain⟨M,f⟩:∃M:Nat,100000<=M:=⟨100000,bC _⟩;obtain⟨r,H',e,rfl,p⟩:=Wm x1 f;exact⟨i,H1,_,H',s1.rel,s1.ro,s1.top,λ_ _ h=>(by cases h),p.1,.cons _ _ _ _ (.agg _ _ v1) .nil,oD (c:=bw Tryz.f5) (M:=M) ka (Qm ka JG TY) Tryz.func5 (by kernel_rfl) (by kernel_rfl) (by kernel_rfl) (Eq.trans ((tY (nB P aK 16 C) M).2 (.agg a) H1) e)⟩
end
section
open Go.bz
open Go.ChangeShapes Go.WideShapes Go.ChangeAt Go.RowKit
open Go.ChangeMaps (open_string shut_string)
namespace DR
set_option maxRecDepth 100000 in
def lifted(os:Os)(started:os.Started)(H:Type)(enc:TypeId×Value->H):
  ReturnsInHanded {} Tryz.checked os 5 .any (Rows.signPartsSpec.pre6 enc Tryz.prog Tryz.f5 Rows.signPartsRow.domain Z) (Rows.signPartsSpec.post enc Tryz.prog Tryz.f5 Z true Z Z):=by
 refine returnsInHanded_of_change (C:=Tryz.checked) own started (by kernel_rfl) Tryz.func5
  (ChangeSpec.witness6 (enc:=enc) (C:=Tryz.checked) Z ⟨#[],#[.agg #[.slice I 0 0,.slice I 0 0,.slice I 0 0,.slice I 0 0,.int .i64 0]],[]⟩ 8 (by kernel_rfl) (by kernel_rfl) (by kernel_rfl) (by kernel_rfl)) ?_
 intro W base args i gs before u d E _;have g:∀(j:Nat) t v,Tryz.f5.params[j]? =D t->args[j]? =D v->Value.okWide Tryz.prog W .any base t v:=u;have o:=d;obtain⟨p,q,m,n,rfl,G,K⟩:=d;have a:DataW.TrodAll enc Tryz.prog W 0 (λ_=>true) true Tryz.f5.params.toList args.toList i p:=m;have f:Tryz.f5.params= #[27]:=by kernel_rfl
 rw[f]at a g;obtain⟨v0,N,d0,z,L,M,B,rfl,rfl,l,x⟩:=trodAll_cons a;obtain⟨rfl,rfl,rfl⟩:=trodAll_nil x;obtain rfl:args= #[v0]:=by cases args;simp_all
 obtain⟨rfl,rfl⟩:=trodVars_none n;have k:=(g 0 27 v0 rfl rfl);have r:ze eL P 5 [v0] W:=ZT k l;refine(Uj (c:=bw Tryz.f5) ka Tryz.func5 (by kernel_rfl) r).mono λe y ⟨he,b⟩=> ?_
 subst he;obtain⟨w,s⟩:=Mo laidOut b (ts:=[27]) (λt a1=>by
  simp only[List.mem_cons,List.not_mem_nil,or_false]at a1;rcases a1 with rfl<;>exact⟨by kernel_rfl,of_decide_eq_true (by kernel_rfl)⟩) a
 exact⟨_,rfl,_,_,_,[],w,[],o,trodAll_mk1 (shut_bool (P:=P) Mz _),by rw[f];exact s,rfl,b.frame _,λh=>by cases h⟩
def TJ:(Rows.signPartsRow.inPlace==P.inPlace 5)=true:=by kernel_rfl
def TR:(Rows.signPartsRow.unfollowed==P.unfollowed 5)=true:=by kernel_rfl
def TP:(Rows.signPartsRow.recurses==P.recurses 5)=true:=by kernel_rfl
def TO:(Rows.signPartsRow.named==P.varsNamed 5)=true:=by kernel_rfl
def TN:(Rows.signPartsRow.loops==(Tryz.f5.params.toList++Rows.signPartsSpec.plain.varTypes P).any (P.loopsFrom ·))=true:=by kernel_rfl
set_option maxRecDepth 100000 in
def Ar:joinedFacts P 5 Tryz.f5 Rows.signPartsSpec Rows.signPartsRow=true:=by
 unfold joinedFacts;rw[TL,TQ,TJ,TR,TP,TO,TN,TK,TI,TH,TM];kernel_rfl
end DR
theorem signParts_holds:Rows.SignPartsSaid:=
 (OpenClaim.holds_of_wide 5 Tryz.f5 rfl rfl rfl rfl rfl rfl rfl ⟨rfl,rfl,rfl,rfl,rfl⟩ rfl rfl rfl rfl rfl (by kernel_rfl) Tryz.func5 DR.Ar
  (of_decide_eq_true (by kernel_rfl)) (by unfold Func.isWrapper;first|(rw[if_pos (by decide+kernel)];kernel_rfl)|(rw[if_neg (by decide+kernel)];exact⟨rfl,rfl⟩))
  (λos started H enc _=>DR.lifted os started H enc):Rows.signPartsRow.holds Tryz.pinned (OpenSpec.ofChange Rows.signPartsSpec))
