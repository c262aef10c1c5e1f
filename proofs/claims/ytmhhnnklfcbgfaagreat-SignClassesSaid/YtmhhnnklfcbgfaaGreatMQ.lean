/-
  Texts of one proof, laid together: Lays OrcA OrcB OrcC Rt Rw Wx Yb SignClasses.
-/
import Derived.Shelf.SlGeneric
import Derived.Shelf.SlIterI.Collect
import Derived.Shelf.SortM.Plain
import Derived.Shelf.SortM.SortNone
import Derived.Ground.GgzProg
import Derived.Ground.SlgmProg
import Derived.RangeFuncBox
import Derived.RangeFuncLeaves
import Derived.Shelf.Abstract
import Derived.OwnWalkIn
import Derived.TacticsInMore
import Derived.LoopNIn
import Derived.LoopIn
import Derived.Sort.OwnSortedInts
import Derived.Test.YtmhhnnklfcbgfaaGreatMU
import Derived.Test.YtmhhnnklfcbgfaaGreatRows
set_option linter.unusedVariables false
set_option linter.unusedSimpArgs false
set_option linter.defProp false
open Option renaming some→A,none→Z
open Bool renaming true→J,false→I
namespace Go.Proofs
open Go.Shelf
def Tryz.VZ:Go.Shelf.Ren:=⟨λ |8=>95|11=>143|n=>n,λ |26=>3|28=>84|24=>30|0=>0|33=>70|4=>4|n=>n,λ |n=>n⟩
def Tryz.KN:Go.Proofs.SlLaysZI.n8 Tryz.prog Tryz.VZ:={
 mixed:=by kernel_rfl
 f8:=⟨Tryz.f95.name,by decide,Tryz.func95.trans (congrArg A (by kernel_rfl))⟩
 f11:=⟨Tryz.f143.name,by decide,Tryz.func143.trans (congrArg A (by kernel_rfl))⟩
 t0:=Tryz.underlying0
 a0:=Tryz.isAgg0
 z0:=Tryz.sizeOf0
 v0:=Tryz.zeroValue0
 t24:=Tryz.underlying30
 a24:=Tryz.isAgg30
 z24:=Tryz.sizeOf30
 v24:=Tryz.zeroValue30
 t26:=Tryz.underlying3
 a26:=Tryz.isAgg3
 z26:=Tryz.sizeOf3
 v26:=Tryz.zeroValue3
 t28:=Tryz.underlying84
 a28:=Tryz.isAgg84
 z28:=Tryz.sizeOf84
 v28:=Tryz.zeroValue84
 i26:=by kernel_rfl}
def Tryz.ahb:Go.Shelf.Ren:=⟨λ |5=>96|8=>145|7=>144|19=>204|20=>205|10=>195|11=>196|12=>197|13=>198|14=>199|15=>200|16=>201|17=>202|18=>203|30=>229|31=>230|32=>231|33=>232|34=>233|35=>234|40=>254|n=>n,λ |23=>30|25=>3|3=>3|32=>217|22=>30|0=>0|44=>271|46=>251|4=>4|36=>265|35=>264|41=>223|5=>5|9=>9|53=>294|57=>298|63=>320|64=>321|n=>n,λ |n=>n⟩
def Tryz.Iu:Go.Proofs.SlLaysM.n5 Tryz.prog Tryz.ahb:={
 mixed:=by kernel_rfl
 f5:=⟨Tryz.f96.name,by decide,Tryz.func96.trans (congrArg A (by kernel_rfl))⟩
 f7:=⟨Tryz.f144.name,by decide,Tryz.func144.trans (congrArg A (by kernel_rfl))⟩
 f8:=Tryz.func145.trans (congrArg A (by kernel_rfl))
 f10:=⟨Tryz.f195.name,by decide,Tryz.func195.trans (congrArg A (by kernel_rfl))⟩
 f11:=⟨Tryz.f196.name,by decide,Tryz.func196.trans (congrArg A (by kernel_rfl))⟩
 f12:=⟨Tryz.f197.name,by decide,Tryz.func197.trans (congrArg A (by kernel_rfl))⟩
 f13:=⟨Tryz.f198.name,by decide,Tryz.func198.trans (congrArg A (by kernel_rfl))⟩
 f14:=⟨Tryz.f199.name,by decide,Tryz.func199.trans (congrArg A (by kernel_rfl))⟩
 f15:=⟨Tryz.f200.name,by decide,Tryz.func200.trans (congrArg A (by kernel_rfl))⟩
 f16:=⟨Tryz.f201.name,by decide,Tryz.func201.trans (congrArg A (by kernel_rfl))⟩
 f17:=⟨Tryz.f202.name,by decide,Tryz.func202.trans (congrArg A (by kernel_rfl))⟩
 f18:=⟨Tryz.f203.name,by decide,Tryz.func203.trans (congrArg A (by kernel_rfl))⟩
 f19:=Tryz.func204.trans (congrArg A (by kernel_rfl))
 f20:=Tryz.func205.trans (congrArg A (by kernel_rfl))
 f30:=⟨Tryz.f229.name,by decide,Tryz.func229.trans (congrArg A (by kernel_rfl))⟩
 f31:=Tryz.func230.trans (congrArg A (by kernel_rfl))
 f32:=Tryz.func231.trans (congrArg A (by kernel_rfl))
 f33:=⟨Tryz.f232.name,by decide,Tryz.func232.trans (congrArg A (by kernel_rfl))⟩
 f34:=⟨Tryz.f233.name,by decide,Tryz.func233.trans (congrArg A (by kernel_rfl))⟩
 f35:=⟨Tryz.f234.name,by decide,Tryz.func234.trans (congrArg A (by kernel_rfl))⟩
 f40:=⟨Tryz.f254.name,by decide,Tryz.func254.trans (congrArg A (by kernel_rfl))⟩
 t0:=Tryz.underlying0
 a0:=Tryz.isAgg0
 z0:=Tryz.sizeOf0
 v0:=Tryz.zeroValue0
 t3:=Tryz.underlying3
 a3:=Tryz.isAgg3
 z3:=Tryz.sizeOf3
 v3:=Tryz.zeroValue3
 t4:=Tryz.underlying4
 a4:=Tryz.isAgg4
 z4:=Tryz.sizeOf4
 v4:=Tryz.zeroValue4
 t5:=Tryz.underlying5
 a5:=Tryz.isAgg5
 z5:=Tryz.sizeOf5
 v5:=Tryz.zeroValue5
 t9:=Tryz.underlying9
 a9:=Tryz.isAgg9
 z9:=Tryz.sizeOf9
 v9:=Tryz.zeroValue9
 t22:=Tryz.underlying30
 a22:=Tryz.isAgg30
 z22:=Tryz.sizeOf30
 v22:=Tryz.zeroValue30
 t23:=Tryz.underlying30
 a23:=Tryz.isAgg30
 z23:=Tryz.sizeOf30
 v23:=Tryz.zeroValue30
 t25:=Tryz.underlying3
 a25:=Tryz.isAgg3
 z25:=Tryz.sizeOf3
 v25:=Tryz.zeroValue3
 t32:=Tryz.underlying217
 a32:=Tryz.isAgg217
 z32:=Tryz.sizeOf217
 v32:=Tryz.zeroValue217
 t35:=Tryz.underlying264
 a35:=Tryz.isAgg264
 z35:=Tryz.sizeOf264
 v35:=Tryz.zeroValue264
 t36:=Tryz.underlying265
 a36:=Tryz.isAgg265
 z36:=Tryz.sizeOf265
 v36:=Tryz.zeroValue265
 t41:=Tryz.underlying223
 a41:=Tryz.isAgg223
 z41:=Tryz.sizeOf223
 v41:=Tryz.zeroValue223
 t44:=Tryz.underlying271
 a44:=Tryz.isAgg271
 z44:=Tryz.sizeOf271
 v44:=Tryz.zeroValue271
 t46:=Tryz.underlying251
 a46:=Tryz.isAgg251
 z46:=Tryz.sizeOf251
 v46:=Tryz.zeroValue251
 t53:=Tryz.underlying294
 a53:=Tryz.isAgg294
 z53:=Tryz.sizeOf294
 v53:=Tryz.zeroValue294
 t57:=Tryz.underlying298
 a57:=Tryz.isAgg298
 z57:=Tryz.sizeOf298
 v57:=Tryz.zeroValue298
 t63:=Tryz.underlying320
 a63:=Tryz.isAgg320
 z63:=Tryz.sizeOf320
 v63:=Tryz.zeroValue320
 t64:=Tryz.underlying321
 a64:=Tryz.isAgg321
 z64:=Tryz.sizeOf321
 v64:=Tryz.zeroValue321}
end Go.Proofs
namespace Go.Proofs.YtmhhnnklfcbgfaaGreat
section
open Go.RowKit Go.Maps Go.Sort Go.Shelf Go.Proofs
section
variable {P:Program}{ρ:Ren}
set_option maxRecDepth 100000 in
set_option maxHeartbeats 2000000 in
theorem Ue(L:SlLaysZI.n11 P ρ)(zF:Fence)(n:Nat)(M:zF.fn (ρ.f 11))(y:zF.round=Z)(aL:2<=n)(g:Nat)(a:Array Value)(O:zF.fn g)(H:∀args w,(callFunc g args).run P w= .ok (.enter g args) w)
  (S:List Int->Prop) (N:Nat) (T:N<=maxLen) (U:N*8<=140737488355328) (w:World) (af:∀(l zD:Nat) (fn:FuncId) (W:World),(∀pre x h_,AnyZI.ApAt ρ w fn (.func (.func g) #[] a) w.heap.size l zD pre h_->pre.length<N->YieldAt zF (n-1-1) P l #[encZ x] h_ λe i=>e= .returned (.bool J)/\AnyZI.ApAt ρ w fn (.func (.func g) #[] a) w.heap.size l zD (pre++[x]) i/\KeepsWalks h_ i)->AnyZI.ApAt ρ w fn (.func (.func g) #[] a) w.heap.size l zD [] W->CallsIn zF (n-1) P g (#[.func (.yield l) #[] #[]]++a) W λe i=>(∃v,e= .returned v)/\∃xs,S xs/\AnyZI.ApAt ρ w fn (.func (.func g) #[] a) w.heap.size l zD xs i):
  CallsIn zF n P (ρ.f 11) #[.slice Z 0 0,.func (.func g) #[] a] w λe E=>∃(v:Value) (c:List Int),e= .returned v/\S c/\E.ownsRow w.heap.size (ρ.t 26) 1 v c.length (c.map encZ)/\(v= .slice Z 0 0↔c=[])/\Below w.heap.size w E:=by
 have ah:1<=n:=by omega
 have mixed:=L.mixed;have t0:=L.t0;have a0:=L.a0;have z0:=L.z0;have v0:=L.v0;have t24:=L.t24;have a24:=L.a24;have z24:=L.z24;have v24:=L.v24;have t26:=L.t26;have a26:=L.a26;have z26:=L.z26;have v26:=L.v26;have t28:=L.t28;have a28:=L.a28;have z28:=L.z28;have v28:=L.v28;have u:ρ.t 24≠ρ.t 26:=λe=>by have h:=L.t24;rw[e,L.t26]at h;cases h
 have ar:=run_underlying L.t0;have av:=run_underlying L.t24;have ax:=run_underlying L.t26;have ay:=run_underlying L.t28;obtain⟨_,_,G⟩:=L.f11;refine callsIn_of_wp_marks G rfl M ?_ y;simp only[SlBodyZ.n11_ntmps ρ,List.size_toArray,List.length_cons,List.length_nil,Nat.reduceAdd,Nat.reduceSub,Array.replicate_succ,Array.replicate_zero,List.push_toArray,List.append_toArray,List.nil_append,List.cons_append]
 gi_wp2
 refine wpIn_rangeFunc ?_;intro fn aa;rw[y];obtain⟨W0,j⟩:∃W0,w.alloc (.cells #[.slice Z 0 0] (ρ.t 24))=W0:=⟨_,rfl⟩;have ae:W0.heap.size=w.heap.size+1:=by rw[<-j];simp
 have ak:W0.heap[w.heap.size]? =A (.cells #[.slice Z 0 0] (ρ.t 24) (0,0)):=by rw[<-j];exact World.alloc_heap_new w _
 have m:Below w.heap.size w W0:=by rw[<-j];exact(Below.refl _ w).alloc (Nat.le.refl) _
 rw[j];obtain⟨h_,b⟩:∃h_,(W0.alloc (.deferred (A []))).alloc (.loop (AnyZI.apRec ρ fn (.func (.func g) #[] a) w.heap.size W0.heap.size .ready Z))=h_:=⟨_,rfl⟩;have hold:∀k,k<W0.heap.size->h_.heap[k]? =W0.heap[k]? :=λk ab=>by
  rw[<-b];exact(Below.heap_alloc _ _ k (by simp;omega)).trans (Below.heap_alloc _ _ k ab)
 have Y:Below w.heap.size w h_:=by rw[<-b];exact(m.alloc m.size _).alloc (by have:=m.size;simp;omega) _
 have aq:h_.heap.size=W0.heap.size+2:=by rw[<-b];simp
 have R:AnyZI.ApAt ρ w fn (.func (.func g) #[] a) w.heap.size (W0.heap.size+1) W0.heap.size [] h_:=
  ⟨⟨_,(hold w.heap.size (by omega)).trans ak,⟨rfl,.inl ⟨rfl,rfl⟩⟩,by simp⟩,
   by rw[<-b];have:=World.alloc_heap_new (W0.alloc (.deferred (A []))) (.loop (AnyZI.apRec ρ fn (.func (.func g) #[] a) w.heap.size W0.heap.size .ready Z));rwa[World.size_alloc]at this,
   by rw[<-b];exact(Below.heap_alloc _ _ _ (by simp)).trans (World.alloc_heap_new W0 _),Y⟩
 refine⟨W0.heap.size+1,[{target:= .collected W0.heap.size,args:= #[]}],h_,{target:= .fn (.func g) a,args:= #[.func (.yield (W0.heap.size+1)) #[] #[]]},h_,g,
  #[.func (.yield (W0.heap.size+1)) #[] #[]]++a,h_,?_,?_,?_,?_,λ_=>ah,?_⟩
 ·rw[<-b];exact run_enterLoop_outer _ _ _ _ _
 ·simp[resolve,go_sem]
 ·intro am r;simp[Target.leads]at r;subst r;exact O
 ·simp[invoke,go_sem,H]
 ·refine(af (W0.heap.size+1) W0.heap.size fn h_
   (λpre x W Q aw=>AnyZI.apYield {L with} zF (n-1-1) w fn aa _ w.heap.size (W0.heap.size+1) W0.heap.size (by omega) (by omega) (by omega) (Nat.le.refl) (by omega) N T U pre x W Q aw) R).mono ?_
  rintro e r3 ⟨⟨v0,rfl⟩,c,V,ai⟩;obtain⟨v,aj,z,ad⟩:=ai.box;have q:=run_endLoop (P:=P) ai.L (by simp[AnyZI.apRec]);obtain⟨jG,d⟩:∃jG,r3.putObj (W0.heap.size+1) (.loop {AnyZI.apRec ρ fn (.func (.func g) #[] a) w.heap.size W0.heap.size .ready Z with state:= .exhausted})=jG:=⟨_,rfl⟩;rw[d]at q;have s:r3.grownBy jG (A (W0.heap.size+1)):=by rw[<-d];exact grownBy_putObj_a _ _ _
  have al:jG.heap[w.heap.size]? =A (.cells #[v] (ρ.t 24) (0,0)):=by rw[<-d];exact(World.putObj_heap_other (by omega)).trans aj
  have o:jG.heap[W0.heap.size]? =A (.deferred (A [])):=by rw[<-d];exact(World.putObj_heap_other (by omega)).trans ai.K
  have B:=z.kept s (ownsRow_ne_a z ai.L (λcur e=>by first|cases e|exact u (Obj.cells.inj e).2.1));have p:Below w.heap.size w jG:=ai.below.grown s ai.below.size (λk e=>by cases e;omega);obtain⟨an,ap⟩:=cell_of_box_a al;clear d;refine⟨Z,jG,q,?_⟩
  gi_wp2
  rw[<-ae];refine⟨by simp,.inl ⟨_,_,rfl,run_takeDeferred o,?_⟩⟩;exact⟨_,results_tmp rfl _ _ _,v,c,rfl,V,B.kept (grownBy_putObj_a _ _ _) (ownsRow_ne_a B o (λcur e=>by first|cases e|exact u (Obj.cells.inj e).2.1)),ad,p.grown (grownBy_putObj_a _ _ _) p.size (λk e=>by cases e;omega)⟩
set_option maxHeartbeats 1000000 in
def KP(L:SlLaysZI.n8 P ρ)(zF:Fence)(n:Nat)(m:zF.fn (ρ.f 8))(k:zF.fn (ρ.f 11))(h:zF.round=Z)(aL:3<=n)(g:Nat)(a:Array Value)(o:zF.fn g)(j:∀args w,(callFunc g args).run P w= .ok (.enter g args) w)
  (S:List Int->Prop) (N:Nat) (p:N<=maxLen) (q:N*8<=140737488355328) (w:World) (z:∀(l zD:Nat) (fn:FuncId) (W:World),(∀pre x h_,AnyZI.ApAt ρ w fn (.func (.func g) #[] a) w.heap.size l zD pre h_->pre.length<N->YieldAt zF (n-1-1-1) P l #[encZ x] h_ λe c=>e= .returned (.bool J)/\AnyZI.ApAt ρ w fn (.func (.func g) #[] a) w.heap.size l zD (pre++[x]) c/\KeepsWalks h_ c)->AnyZI.ApAt ρ w fn (.func (.func g) #[] a) w.heap.size l zD [] W->CallsIn zF (n-1-1) P g (#[.func (.yield l) #[] #[]]++a) W λe c=>(∃v,e= .returned v)/\∃xs,S xs/\AnyZI.ApAt ρ w fn (.func (.func g) #[] a) w.heap.size l zD xs c):
  CallsIn zF n P (ρ.f 8) #[.func (.func g) #[] a] w λe d=>∃(v:Value) (b:List Int),e= .returned v/\S b/\d.ownsRow w.heap.size (ρ.t 26) 1 v b.length (b.map encZ)/\(v= .slice Z 0 0↔b=[])/\Below w.heap.size w d:=by
 have ah:1<=n:=by omega
 have B:∀args w,(callFunc (ρ.f 11) args).run P w= .ok (.enter (ρ.f 11) args) w:=L.f11.enters rfl;have mixed:=L.mixed;have t0:=L.t0;have a0:=L.a0;have z0:=L.z0;have v0:=L.v0;have t24:=L.t24;have a24:=L.a24;have z24:=L.z24;have v24:=L.v24;have t26:=L.t26;have a26:=L.a26;have z26:=L.z26;have v26:=L.v26;have t28:=L.t28;have a28:=L.a28;have z28:=L.z28;have v28:=L.v28;have E:=run_underlying L.t0;have G:=run_underlying L.t24;have H:=run_underlying L.t26;have K:=run_underlying L.t28;obtain⟨_,_,i⟩:=L.f8;refine callsIn_of_wp i rfl m ?_ h;simp only[SlBodyZ.n8_ntmps ρ,List.size_toArray,List.length_cons,List.length_nil,Nat.reduceAdd,Nat.reduceSub,Array.replicate_succ,Array.replicate_zero,List.push_toArray,List.append_toArray,List.nil_append,List.cons_append]
 gi_wp2_with (gi_at_fn (ρ.f 11);refine(Ue {L with} zF (n-1) k h (by omega) g a o j S N p q _ z).mono ?_;rintro e d ⟨v,b,rfl,r,y,u,s⟩)
 go_ret
 exact⟨v,b,rfl,r,y,u,s⟩
end
def upto{α:Type}(f:Nat->α)(k:Nat):List α:=(List.range k).map f
def ajv{α:Type}(f:Nat->α)(k:Nat):upto f (k+1)=upto f k++[f k]:=by simp[upto,List.range_succ]
def aju{α:Type}(f:Nat->α)(k:Nat):(upto f k).length=k:=by simp[upto]
def ajt(a:List Int):upto (λj=>a[j]?.getD 0) a.length=a:=by
 apply List.ext_getElem
 ·simp[upto]
 ·intro i ah ai;simp[upto,ai]
attribute [local go_sem] Oper.semAt_some
set_option maxRecDepth 100000 in
set_option maxHeartbeats 2000000 in
def ajw(zF:Fence)(n:Nat)(w:zF.fn 97)(K:zF.round=Z)(aL:1<=n)(l d g o b off len cap:Nat)(c:List Int)(N:len*8<=140737488351232)(G:0<len->b<o)(y:d<o)(w0:World)(a:List Int->World->Prop)(t:∀s W,a s W->Below o w0 W)
  (E:∀pre x W,a pre W->pre.length<len->YieldAt zF (n-1) Tryz.prog l #[.int .i64 x] W λe f=>e= .returned (.bool J)/\a (pre++[x]) f)
  (W:World) (r:w0.cell? ⟨d,g,Z⟩=A (.slice (A ⟨b,off,Z⟩) len cap)) (aA:∀j,j<len->w0.cell? ⟨b,off+j,Z⟩=A (.int .i64 (c[j]?.getD 0))) (q:a [] W):
  CallsIn zF n Tryz.prog 97 #[.func (.yield l) #[] #[],.pointer (A ⟨d,g,Z⟩)] W λe f=>(∃v,e= .returned v)/\a (upto (λj=>c[j]?.getD 0) len) f:=by
 have r:=((t _ _ q).cell (p:=⟨d,g,Z⟩) y).trans r;refine callsIn_of_wp Tryz.func97 rfl w ?_ K;simp only[Tryz.ntmps97,List.size_toArray,List.length_cons,List.length_nil,Nat.reduceAdd,Nat.reduceSub,Array.replicate_succ,Array.replicate_zero,List.push_toArray,List.append_toArray,List.nil_append,List.cons_append]
 gi_wp2
 gi_loopw [7] (λi wr=>∃k:Nat,k<=len/\i= .int .i64 k/\a (upto (λj=>c[j]?.getD 0) k) wr)
  (λi _=>len-(intOf i).toNat)
 case atStart=>exact⟨0,Nat.zero_le _,rfl,q⟩
 case round=>
  obtain⟨k,M,rfl,m⟩:=hrel;have H:k<len->wr.cell? ⟨b,off+k,Z⟩=A (.int .i64 (c[k]?.getD 0)):=λh=>((t _ _ m).cell (p:=⟨b,off+k,Z⟩) (G (by omega))).trans (aA k h)
  by_cases u:k<len
  ·obtain⟨fn,tmps,assign,body,O,B⟩:=E _ (c[k]?.getD 0) wr m (by rw[aju];exact u);have L:=H u
   gi_wp2
   refine B.mono ?_;rintro e jG ⟨rfl,z⟩
   gi_wp2
   go_roundw
   case rel=>exact⟨k+1,by omega,by simp,by rw[ajv];exact z⟩
   case measure=>simp[intOf];omega
  ·obtain rfl:k=len:=by omega
   gi_wp2
   go_end0
   exact⟨⟨_,rfl⟩,m⟩
set_option maxRecDepth 100000 in
set_option maxHeartbeats 1000000 in
def ajx(zF:Fence)(n:Nat)(g:zF.fn 97)(j:zF.round=Z)(l b c:Nat)(a:List Int->World->Prop)(W:World)(p:Option Addr)(cap:Nat)(k:W.cell? ⟨b,c,Z⟩=A (.slice p 0 cap))(f:a [] W):
  CallsIn zF n Tryz.prog 97 #[.func (.yield l) #[] #[],.pointer (A ⟨b,c,Z⟩)] W λe d=>(∃v,e= .returned v)/\a [] d:=by
 refine callsIn_of_wp Tryz.func97 rfl g ?_ j;simp only[Tryz.ntmps97,List.size_toArray,List.length_cons,List.length_nil,Nat.reduceAdd,Nat.reduceSub,Array.replicate_succ,Array.replicate_zero,List.push_toArray,List.append_toArray,List.nil_append,List.cons_append]
 gi_wp2
 gi_loopw [7] (λi wr=>i= .int .i64 0/\a [] wr) (λ_ _=>0)
 case atStart=>exact⟨rfl,f⟩
 case round=>
  obtain⟨rfl,h⟩:=hrel
  gi_wp2
  go_end0
  exact⟨⟨_,rfl⟩,h⟩
end
section
open Go.cw Go.RowKit
set_option maxRecDepth 2000
def akg{zF:Fence}{m:Nat}{Q:Program}{l:Nat}{args:Array Value}{W:World}{R S:Ending->World->Prop}(h:YieldAt zF m Q l args W R)(b:∀e w,R e w->S e w):YieldAt zF m Q l args W S:=by
 obtain⟨fn,tmps,assign,body,c,a⟩:=h;exact⟨fn,tmps,assign,body,c,a.mono b⟩
def V0(w:World)(c d:Nat)(m:c<w.heap.size)(b off cap:Nat)(a:List Int)(t:a.length<=1000000)(k:w.cell? ⟨c,d,Z⟩=A (.slice (A ⟨b,off,Z⟩) a.length cap))
  (aA:∀j,j<a.length->b<w.heap.size/\w.cell? ⟨b,off+j,Z⟩=A (.int .i64 (a[j]?.getD 0))):
  Calls Tryz.prog 95 #[.func (.func 97) #[] #[.pointer (A ⟨c,d,Z⟩)]] w λe f=>∃v:Value,e= .returned v/\f.ownsRow w.heap.size 3 1 v a.length (a.map encZ)/\(v= .slice Z 0 0↔a=[])/\Below w.heap.size w f:=by
 refine(callsIn_wide (n:=6)).1 ?_;have h:=KP Tryz.KN Fence.wide 6 trivial trivial rfl (by omega) 97 #[.pointer (A ⟨c,d,Z⟩)] trivial (enters_of Tryz.func97 (by kernel_rfl) rfl) (λg=>g=a) a.length (by simp only[maxLen];omega) (by omega) w
  (λl zD fn W p i=>(ajw Fence.wide 4 trivial rfl (by omega) l c d w.heap.size b off a.length cap a (by omega) (λh=>(aA 0 h).1) m w _ (λs W h=>h.below) (λpre x W o aw=>akg (p pre x W o aw) λe f ⟨ah,ai,_⟩=>⟨ah,ai⟩) W k (λj q=>(aA j q).2) i).mono λe r ⟨ah,ai⟩=>⟨ah,_,rfl,by rw[ajt]at ai;exact ai⟩)
 refine CallsIn.mono h ?_;rintro e f ⟨v,g,rfl,rfl,ah,ai,ax⟩;exact⟨v,rfl,ah,ai,ax⟩
def KO(w:World)(a b:Nat)(i:a<w.heap.size)(p:Option Addr)(cap:Nat)(g:w.cell? ⟨a,b,Z⟩=A (.slice p 0 cap)):
  Calls Tryz.prog 95 #[.func (.func 97) #[] #[.pointer (A ⟨a,b,Z⟩)]] w λe f=>e= .returned (.slice Z 0 0)/\Below w.heap.size w f:=by
 refine(callsIn_wide (n:=6)).1 ?_;have h:=KP Tryz.KN Fence.wide 6 trivial trivial rfl (by omega) 97 #[.pointer (A ⟨a,b,Z⟩)] trivial (enters_of Tryz.func97 (by kernel_rfl) rfl) (λd=>d=[]) 0 (by simp only[maxLen];omega) (by omega) w
  (λl zD fn W k c=>(ajx Fence.wide 4 trivial rfl l a b _ W p cap ((c.below.cell (p:=⟨a,b,Z⟩) i).trans g) c).mono λe j ⟨ah,ai⟩=>⟨ah,_,rfl,ai⟩)
 refine CallsIn.mono h ?_;rintro e f ⟨v,d,rfl,rfl,ah,ai,ax⟩;obtain rfl:=ai.2 rfl;exact⟨rfl,ax⟩
def yp{f:Nat}{fn:Func}{c:Code}{xs:List Value}{w:World}{next:Value->World->Prop}(a:P.funcs[f]? =A fn)(aA:fn.body=A c)(h:Calls P f xs.toArray w λe b=>∃x,e= .returned x/\next x b):oS P (callFunc f xs.toArray) w next:=by
 have g:(fn.name== "runtime.NumGoroutine")=false:=la.names fn (Array.mem_of_getElem? a);have i:(callFunc f xs.toArray).run P w= .ok (.enter f xs.toArray) w:=by
  unfold callFunc;simp[a,aA];intro d;simp[d]at g
 unfold oS;rw[i];simp only
 refine Calls.mono h λe b ar=> ?_
 obtain⟨x,rfl,aE⟩:=ar;exact aE
def R9{ρ:Env}{H:ae}{w c:World}(d:Rel ρ H w)(a:Below w.heap.size w c):Step ρ H w ρ H c:=
 ⟨ρ.le_refl,du _,λ_ _=>rfl,d.EN a.size a.block,a.os,a.tape,a.output,a.size,λb h _=>a.block b h,λ_ h=> .inl h,λ_ _ _ h=>h,.same λ_ _ _ _ h=>h⟩
def ah9{ρ:Env}{H:ae}{w o:World}(i:Rel ρ H w)(aC:ρ H.next=Z)(a:Below w.heap.size w o)(loc:Go.cw.Loc)(aw:w.heap.size<=loc.block){esz:Nat}{els:List (List af)}(r:gJ (ρ.dG H.next loc) o loc I esz els):
  Step ρ H w (ρ.dG H.next loc) (H.push (.row I esz els)) o:=by
 have hle:=Env.od aC loc;have n:=i.EN a.size a.block;have p:∀l c,H.live l->ρ.dG H.next loc l=A c->c.block<w.heap.size:=λl c h cu=>by
  have j:l≠H.next:=by
   rintro rfl;have:=ph h;omega
  rw[Env.hG j]at cu;exact i.D7 h cu
 have q:∀b,eX (ρ.dG H.next loc) (H.push (.row I esz els)) b->eX ρ H b\/w.heap.size<=b:=by
  rintro b ⟨l,c,ah,ai,ax⟩;rcases An ah with rfl|ah
  ·rw[Env.hq]at ai;obtain rfl:=Option.some.inj ai;exact .inr (ax▸aw)
  ·have cL:l≠H.next:=by rintro rfl;have:=ph ah.live;omega
   rw[Env.hG cL]at ai;exact .inl ⟨l,c,ah,ai,ax⟩
 refine⟨hle,by simp,λl aw=>Env.hG (by simp at aw;omega),⟨?_,?_,?_,?_,?_⟩,a.os,a.tape,a.output,a.size,λb h _=>a.block b h,q,ae.F8 rfl,.same (ae.qZ rfl)⟩
 ·intro l ro m k h;by_cases e:l=H.next
  ·subst e;rw[ae.a2]at h;cases h;exact⟨loc,Env.hq _ _ _,r⟩
  ·rw[ae.eW e]at h;obtain⟨c,g,ar⟩:=n.row _ _ _ _ h;exact⟨c,hle _ _ g,ar.frame hle rfl⟩
 ·intro l es h;by_cases e:l=H.next
  ·subst e;rw[ae.a2]at h;cases h
  ·rw[ae.eW e]at h;obtain⟨c,g,ents,clock,a,ah,ai⟩:=n.map _ _ h;exact⟨c,hle _ _ g,ents,clock,a,ah.mono hle,ai.mono hle⟩
 ·intro l t m k h;by_cases e:l=H.next
  ·subst e;rw[ae.a2]at h;cases h
  ·rw[ae.eW e]at h;obtain⟨c,g,ar⟩:=n.dZ _ _ _ _ h;exact⟨c,hle _ _ g,ar.frame hle rfl⟩
 ·intro l u x y ah ai j d f;rcases An ah with rfl|ah
  ·rcases zK ai with rfl|ai
   ·exact absurd rfl j
   ·rw[Env.hq]at d;obtain rfl:=Option.some.inj d;have:=p _ _ ai f;omega
  ·rcases zK ai with rfl|ai
   ·rw[Env.hq]at f;obtain rfl:=Option.some.inj f;have:=p _ _ ah.live d;omega
   ·have cL:l≠H.next:=by rintro rfl;have:=ph ah.live;omega
    have v:u≠H.next:=by rintro rfl;have:=ph ai;omega
    rw[Env.hG cL]at d;rw[Env.hG v]at f;exact i.apart _ _ _ _ ah ai j d f
 ·intro l s m k h;exact(i.old _ _ _ _ (ae.qZ rfl l s m k h)).step hle a.size (λb h _=>a.block b h) q
def R_{ρ:Env}{H:ae}{w g:World}(j:Rel ρ H w){l:Nat}{esz:Nat}{els m:List (List af)}(aS:H.get l=A (.row I esz els)){loc:Go.cw.Loc}(aw:ρ l=A loc)
  (M:g.os=w.os) (P:g.tape=w.tape) (N:g.output=w.output) (B:w.heap.size<=g.heap.size) (x:∀k,k<w.heap.size->k≠loc.block->g.heap[k]? =w.heap[k]?) (O:gJ ρ g loc I esz m):
  Step ρ H w ρ (H.set l (.row I esz m)) g:=by
 have r:=ae.bq aS;have u:∀c d,H.live c->c≠l->ρ c=A d->d.block≠loc.block:=λc d h cu e heq=>
  j.apart l c loc d (.inl ⟨_,_,aS⟩) h (Ne.symm cu) aw e heq.symm
 have z:∀c,(H.set l (.row I esz m)).rw c->H.rw c:=by
  intro c h;by_cases f:l=c
  ·subst f;exact .inl ⟨_,_,aS⟩
  ·simpa [ae.rw,ae.b8 f]using h
 have K:∀c,(H.set l (.row I esz m)).live c->H.live c:=by
  intro c h;by_cases f:l=c
  ·subst f;exact .inl ⟨_,_,_,aS⟩
  ·simpa [ae.live,ae.b8 f]using h
 have q:∀c d,H.live c->c≠l->ρ c=A d->g.heap[d.block]? =w.heap[d.block]? :=λc d h cu e=>x _ (j.D7 h e) (u _ _ h cu e)
 have v:∀b,b<w.heap.size->¬eX ρ H b->g.heap[b]? =w.heap[b]? :=by
  intro b p L;exact x b p λe=>L ⟨l,loc,.inl ⟨_,_,aS⟩,aw,e.symm⟩
 have y:∀b,eX ρ (H.set l (.row I esz m)) b->eX ρ H b\/w.heap.size<=b:=by
  rintro b ⟨c,d,ah,ai,ax⟩;exact .inl ⟨c,d,z _ ah,ai,ax⟩
 refine⟨ρ.le_refl,du _,λ_ _=>rfl,⟨?_,?_,?_,?_,?_⟩,M,P,N,B,v,y,ae.F9 rfl,.same (ae.zV rfl)⟩
 ·intro c S o n h;by_cases f:l=c
  ·subst f;rw[ae.cH r]at h;cases h;exact⟨loc,aw,O⟩
  ·rw[ae.b8 f]at h;obtain⟨d,i,ar⟩:=j.row _ _ _ _ h;exact⟨d,i,ar.frame ρ.le_refl (q c d (.inl ⟨_,_,_,h⟩) (Ne.symm f) i)⟩
 ·intro c R h;by_cases f:l=c
  ·subst f;rw[ae.cH r]at h;cases h
  ·rw[ae.b8 f]at h;obtain⟨d,i,ents,clock,p,ah,ai⟩:=j.map _ _ h;exact⟨d,i,ents,clock,by rw[q c d (.inr (.inl ⟨_,h⟩)) (Ne.symm f) i];exact p,ah,ai⟩
 ·intro c t o n h;by_cases f:l=c
  ·subst f;rw[ae.cH r]at h;cases h
  ·rw[ae.b8 f]at h;obtain⟨d,i,ar⟩:=j.dZ _ _ _ _ h;exact⟨d,i,ar.frame ρ.le_refl (q c d (.inr (.inr ⟨_,_,_,h⟩)) (Ne.symm f) i)⟩
 ·intro a b cq Q ah ai u E G;exact j.apart a b cq Q (z _ ah) (K _ ai) u E G
 ·intro c s o n h;exact(j.old _ _ _ _ (ae.zV rfl c s o n h)).step ρ.le_refl B v y
def EK:∀{es:List (List af)} {xs:List Int},qL es=A xs->es=xs.map n0
 |[],_,h=>by cases h;rfl
 |e::es,xs,h=>by
  unfold qL at h;split at h
  ·rename_i heq;cases heq
  ·rename_i n es' heq;cases heq;obtain⟨a,ah,rfl⟩:=Option.map_eq_some_iff.1 h;rw[EK ah];rfl
  ·cases h
end
section
open Go.cw Go.RowKit
set_option maxRecDepth 100000
def Ms{ρ:Env}{w:World}{loc:Go.cw.Loc}{ro:Bool}{els:List (List af)}(h:gJ ρ w loc ro 1 els){i:Nat}{n:Int}(aP:els[i]? =A (n0 n)):w.cell? ⟨loc.block,loc.off+i*loc.esz,Z⟩=A (.int .i64 n):=by
 obtain⟨he,c,t,d,a,-,ar⟩:=h;obtain⟨-,ai⟩:=ar i _ aP;obtain⟨-,x,aE,b⟩:=ai 0 (.int .i64 n) rfl;cases b;rw[he];simp[World.cell?,a];simpa using aE
def Tz{H:ae}{m i n:Nat}{es:List (List af)}(h:iR H m i n 1=A es):∃els,((∃ro,H.get m=A (.row ro 1 els))\/∃t,H.get m=A (.dZ t 1 els))/\es.length=n/\∀j,j<n->els[i+j]? =es[j]? :=by
 unfold iR at h;split at h
 ·rename_i ro esz els aS;split at h
  ·rename_i aA;obtain⟨rfl,aw⟩:=aA;cases h;exact⟨els,.inl ⟨ro,aS⟩,by simp;omega,λj a=>by rw[List.getElem?_take_of_lt a,List.getElem?_drop]⟩
  ·cases h
 ·rename_i t esz els aS;split at h
  ·rename_i aA;obtain⟨rfl,aw⟩:=aA;cases h;exact⟨els,.inr ⟨t,aS⟩,by simp;omega,λj a=>by rw[List.getElem?_take_of_lt a,List.getElem?_drop]⟩
  ·cases h
 ·cases h
def TB{ρ:Env}{H:ae}{w:World}(c:Rel ρ H w){m:Nat}{els:List (List af)}(h:(∃ro,H.get m=A (.row ro 1 els))\/∃t,H.get m=A (.dZ t 1 els)){loc:Go.cw.Loc}(aw:ρ m=A loc):∃ro,gJ ρ w loc ro 1 els/\loc.block<w.heap.size:=by
 rcases h with⟨ro,h⟩|⟨t,h⟩
 ·obtain⟨b,a,ar⟩:=c.row _ _ _ _ h;obtain rfl:loc=b:=Option.some.inj (aw.symm.trans a);exact⟨ro,ar,ar.lt⟩
 ·obtain⟨b,a,ar⟩:=c.dZ _ _ _ _ h;obtain rfl:loc=b:=Option.some.inj (aw.symm.trans a);exact⟨I,ar.1,ar.1.lt⟩
def acv{w:World}{base:Nat}{v:Value}{xs:List Int}(h:w.ownsRow base 3 1 v xs.length (xs.map encZ))(e:xs≠[]):∃g cap cur,v= .slice (A ⟨g,0,Z⟩) xs.length cap/\base<=g/\w.heap[g]? =A (.cells cur 3 (0,0))/\xs.length<=cap/\cur.size=cap/\∀j (a:j<xs.length),cur[j]? =A (.int .i64 xs[j]):=by
 rcases h.2 with⟨_,b⟩|⟨g,cap,cur,ah,ai,ax,aM,f,c,d⟩
 ·exact absurd (List.eq_nil_of_length_eq_zero b) e
 ·refine⟨g,cap,cur,ah,ai,ax,aM,by simpa using c,λj a=> ?_⟩;have:(cur.toList.take (xs.length*1))[j]? =(xs.map encZ)[j]? :=by rw[d]
  rw[List.getElem?_take_of_lt (by omega),Array.getElem?_toList]at this;rw[this];simp[a,encZ]
def RW{ρ:Env}{l i n e:Nat}{q:Option Nat}{x:Value}(h:bA ρ (.az l i n e q) x):∃(loc:Go.cw.Loc) (a:Addr) (c:Nat),ρ l=A loc/\loc.esz=e/\n<=c/\(0<c->a=⟨loc.block,loc.off+i*loc.esz,Z⟩)/\x= .slice (A a) n c:=by
 cases h with
 |az _ _ _ _ loc a c h aL aA b=>exact⟨loc,a,c,h,rfl,aL,λh=>(b h).1,rfl⟩
def DS(xs:List Int)(n:Nat)(H:ae):af×ae:=match xs with
 |[]=>(.ao,H)
 |_=>(.az H.next 0 n 1 Z,H.push (.row I 1 (xs.map n0)))
def acp{H:ae}{l m i n:Nat}{ro:Bool}{q:Option Nat}{es:List (List af)}{xs:List Int}(aS:H.get l=A (.row ro 1 [[.az m i n 1 q]]))(he:iR H m i n 1=A es)(aE:qL es=A xs)(aL:n<=1000000):
  hr E0 P 95 [.func (.func 97) [] [.ptr l 0 0]] H (DS xs n H).1 (DS xs n H).2:=by
 intro ρ w aG f aC O aD next L
 cases O with|cons _ _ _ _ ah ai=>
 cases ah with|func _ _ _ _ _ V R=>
 cases V;cases ai;cases R with|cons _ _ _ _ ax aM=>
 cases aM;cases ax with|ptr _ _ _ loc aw=>
 obtain⟨aq,ad,M⟩:=f.row _ _ _ _ aS;obtain rfl:loc=aq:=Option.some.inj (aw.symm.trans ad);have K:=M.lt;obtain⟨aB,c,t,ay,b,-,ar⟩:=M;obtain⟨-,ai⟩:=ar 0 _ rfl;obtain⟨-,x,an,p⟩:=ai 0 _ rfl;obtain⟨els,ab,hlen,Q⟩:=Tz he;have G:=EK aE;have r:xs.length=n:=by rw[<-hlen,G];simp
 obtain⟨s,a,cc,aj,E,aA,N,rfl⟩:=RW p;have B:w.cell? ⟨loc.block,loc.off+0*loc.esz+0,Z⟩=A (.slice (A a) n cc):=by
  simp[World.cell?,b];simpa using an
 cases xs with
 |nil=>
  obtain rfl:n=0:=r.symm;refine yp (c:=bL Tryz.f95) Tryz.func95 (by kernel_rfl) ?_;refine Calls.mono (KO w loc.block (loc.off+0*loc.esz+0) K (A a) cc B) ?_;rintro e av ⟨rfl,b⟩;exact⟨_,rfl,L _ _ ρ .ao (R9 f b)⟩
 |cons z u=>
  have W:ρ H.next=none:=aC.new _ (du _) (by simp[DS])
  have al:0<cc:=by simp at r;omega
  obtain rfl:=N al;obtain⟨aF,am,ak⟩:=TB f ab aj;refine yp (c:=bL Tryz.f95) Tryz.func95 (by kernel_rfl) ?_;refine Calls.mono (V0 w loc.block (loc.off+0*loc.esz+0) K s.block (s.off+i*s.esz) cc (z::u) (by omega) (by rw[B,r]) (λj d=>⟨ak,?_⟩)) ?_
  ·have aJ:els[i+j]? =A (n0 ((z::u)[j]'d)):=by
    rw[Q j (by omega),G,List.getElem?_map,List.getElem?_eq_getElem d];rfl
   have:=Ms am aJ;rw[E,Nat.mul_one]at this;rw[E,Nat.mul_one,Nat.add_assoc,this,List.getElem?_eq_getElem d];rfl
  ·rintro e av ⟨v,rfl,ah,ai,b⟩;obtain⟨g,cap,cur,rfl,aa,Y,S,T,U⟩:=acv ah (by simp);refine⟨_,rfl,L _ _ (ρ.dG H.next ⟨g,0,1,cap⟩) ?_ (ah9 f W b _ aa ?_)⟩
   ·rw[show n=(z::u).length from r.symm];exact .az H.next 0 _ Z ⟨g,0,1,cap⟩ _ _ (Env.hq _ _ _) S (λk h=>by cases h) (λ_=>⟨by simp,by simp⟩)
   ·refine⟨rfl,cur,3,(0,0),Y,⟨T.symm,λ_ o _ h=>by simp at h⟩,λj e he=> ?_⟩;rw[List.getElem?_map]at he;obtain⟨y,ap,rfl⟩:=Option.map_eq_some_iff.1 he;refine⟨rfl,λk v p=> ?_⟩;rcases k with _|k
    ·cases p;obtain⟨d,rfl⟩:=List.getElem?_eq_some_iff.1 ap;exact⟨rfl,_,by simpa using U j d,.int _ _⟩
    ·simp[n0]at p
def acq{H:ae}{l:Nat}{ro:Bool}(aS:H.get l=A (.row ro 1 [[.ao]])):hr E0 P 95 [.func (.func 97) [] [.ptr l 0 0]] H .ao H:=by
 intro ρ w v b aC f s next m
 cases f with|cons _ _ _ _ ah ai=>
 cases ah with|func _ _ _ _ _ i g=>
 cases i;cases ai;cases g with|cons _ _ _ _ ax aM=>
 cases aM;cases ax with|ptr _ _ _ loc aw=>
 obtain⟨p,j,d⟩:=b.row _ _ _ _ aS;obtain rfl:loc=p:=Option.some.inj (aw.symm.trans j);have k:=d.lt;obtain⟨r,c,t,q,a,-,ar⟩:=d;obtain⟨-,ai⟩:=ar 0 _ rfl;obtain⟨-,x,o,n⟩:=ai 0 _ rfl;cases n;have h:w.cell? ⟨loc.block,loc.off+0*loc.esz+0,Z⟩=A (.slice Z 0 0):=by
  simp[World.cell?,a];simpa using o
 refine yp (c:=bL Tryz.f95) Tryz.func95 (by kernel_rfl) ?_;refine Calls.mono (KO w loc.block (loc.off+0*loc.esz+0) k Z 0 h) ?_;rintro e u ⟨rfl,a⟩;exact⟨_,rfl,m _ _ ρ .ao (R9 b a)⟩
def heap_sorted{w:World}{g off n:Nat}{os:Array Obj}{cur:Array Value}{e:TypeId}{fy:Nat×Nat}(d:Array Int)(a:w.heap[g]? =A (.cells cur e fy)):
  (Go.Sort.grow (Go.Sort.putRow (Value.int .i64) (Go.Sort.ahead w n) g off d) os).heap[g]? =A (.cells (Go.Sort.putCells (Value.int .i64) off d cur) e fy):=by
 have aS:g<w.heap.size:=(Array.getElem?_eq_some_iff.1 a).1;rw[Go.Sort.heap_grow_old _ _ (by simpa using aS)];simp[Go.Sort.putRow,Go.Sort.mapBlock,Go.Sort.ahead,Array.getElem?_modify,a,Go.Sort.onCells]
def Y9{w:World}{g off n k:Nat}{os:Array Obj}(d:Array Int)(a:k<w.heap.size)(b:k≠g):
  (Go.Sort.grow (Go.Sort.putRow (Value.int .i64) (Go.Sort.ahead w n) g off d) os).heap[k]? =w.heap[k]? :=by
 rw[Go.Sort.heap_grow_old _ _ (by simpa using a)];simp[Go.Sort.putRow,Go.Sort.mapBlock,Go.Sort.ahead,Array.getElem?_modify,Ne.symm b]
def acs{H:ae}:hr E0 P 96 [.ao] H (.tuple []) H:=by
 intro ρ w h a aC b f next d
 cases b with|cons _ _ _ _ ah ai=>
 cases ah;cases ai;refine yp (c:=bL Tryz.f96) Tryz.func96 (by kernel_rfl) ?_;refine Calls.mono (Go.Proofs.AnyM.slices_Sort_int_none Tryz.Iu Z 0 w) ?_;rintro e g ⟨rfl,rfl⟩;exact⟨_,rfl,d _ _ ρ (.tuple [] [] .nil) (Step.refl a)⟩
def acr{H:ae}{l n:Nat}{q:Option Nat}{es:List (List af)}{xs:List Int}(aS:H.get l=A (.row I 1 es))(aE:qL es=A xs)(Q:es.length=n)(aL:n<=1000000):
  hr E0 P 96 [.az l 0 n 1 q] H (.tuple []) (H.set l (.row I 1 ((xs.mergeSort λx y=>decide (x<=y)).map n0))):=by
 intro ρ w am m aC O al next B
 cases O with|cons _ _ _ _ ah ai=>
 cases ai;obtain⟨loc,a,cc,aw,s,aj,N,rfl⟩:=RW ah;obtain⟨ab,S,f⟩:=m.row _ _ _ _ aS;obtain rfl:loc=ab:=Option.some.inj (aw.symm.trans S);have T:=f.lt;have p:=EK aE;have G:xs.length=n:=by rw[<-Q,p];simp
 refine yp (c:=bL Tryz.f96) Tryz.func96 (by kernel_rfl) ?_;by_cases L:n=0
 ·subst L;refine Calls.mono (Go.Proofs.AnyM.slices_Sort_int_none Tryz.Iu (A a) cc w) ?_;rintro e ad ⟨rfl,rfl⟩;have Y:xs=[]:=List.eq_nil_of_length_eq_zero G;subst Y;refine⟨_,rfl,B _ _ ρ (.tuple [] [] .nil) (R_ m aS aw rfl rfl rfl (du _) (λ_ _ _=>rfl) ?_)⟩;rw[p]at f;simpa using f
 ·have V:0<cc:=by omega
  obtain rfl:=N V;obtain⟨ak,c,t,K,g,⟨W,u⟩,ar⟩:=id f;have r:∀j (b:j<xs.length),c[loc.off+j]? =A (.int .i64 xs[j]):=λj b=>by
   have:=Ms f (i:=j) (n:=xs[j]) (by rw[p];simp[b]);rw[s]at this;simpa [World.cell?,g]using this
  have M:Go.Sort.Holds (Value.int .i64) w loc.block (loc.off+0*loc.esz) xs.toArray:=λj b=>by
   have d:j<xs.length:=by simpa using b
   have ai:=r j d;have ax:loc.off+j<c.size:=(Array.getElem?_eq_some_iff.1 ai).1;refine⟨?_,?_⟩
   ·simp[World.cell?,g,ai,d]
   ·have:=u rfl _ ax;simp[World.frozen?,g];simpa using this
  have z:=Go.Proofs.AnyM.slices_Sort_int Tryz.Iu loc.block (loc.off+0*loc.esz) cc xs w M T (by omega);rw[G]at z;refine Calls.mono z ?_;rintro e ad ⟨rfl,k,os,rfl⟩;refine⟨_,rfl,B _ _ ρ (.tuple [] [] .nil) (R_ m aS aw rfl rfl rfl (by simp[Go.Sort.grow,Go.Sort.ahead]) (λk R U=>Y9 _ R U) ?_)⟩;refine⟨s,_,t,K,heap_sorted _ g,⟨by simp[Go.Sort.putCells,W],λh o aZ=>u h o (by simpa [Go.Sort.putCells]using aZ)⟩,λj e he=> ?_⟩;rw[List.getElem?_map]at he;obtain⟨y,aa,rfl⟩:=Option.map_eq_some_iff.1 he;refine⟨rfl,λi v E=> ?_⟩;rcases i with _|i
  ·cases E;obtain⟨b,rfl⟩:=List.getElem?_eq_some_iff.1 aa;have d:j<xs.length:=by simpa using b
   have ax:loc.off+j<c.size:=(Array.getElem?_eq_some_iff.1 (r j d)).1;refine⟨rfl,_,?_,.int _ _⟩;simp[Go.Sort.putCells,ax,d]
  ·simp[n0]at E
def OU:e1 E0 P aG:=by
 intro g args H v H' h;unfold aG at h;split at h
 ·rename_i l;split at h
  ·rename_i aS;obtain⟨ro,aS⟩:=Km aS;cases h;exact acq aS
  ·rename_i m i n q aS;obtain⟨ro,aS⟩:=Km aS;split at h
   ·rename_i es he;split at h
    ·rename_i xs aE;split at h
     ·rename_i aL;have:=acp aS he aE aL;cases xs with
      |nil=>cases h;exact this
      |cons z a=>cases h;exact this
     ·cases h
    ·cases h
   ·cases h
  ·cases h
 ·cases h;exact acs
 ·rename_i l n q;split at h
  ·rename_i es aS;replace aS:=ado aS;split at h
   ·rename_i xs aE;split at h
    ·rename_i aA;cases h;exact acr aS aE aA.1 aA.2
    ·cases h
   ·cases h
  ·cases h
 ·cases h
end
section
open Go.cw
set_option maxRecDepth 2000
open Go.ChangeShapes Go.WideShapes Go.ChangeAt Go.RowKit
def own:ownKnob Tryz.prog.godebug=none:=by kernel_rfl
def laidOut:laidOutB Tryz.prog=true:=by kernel_rfl
theorem nI:P.underlying 3=A (.int .i64):=by kernel_rfl
def SI:P.underlying 4=A .bool:=by kernel_rfl
def SJ:P.underlying 9=A .string:=by kernel_rfl
end
section
open Go.cw
set_option maxRecDepth 2000
def Z2:laidOutB P=true:=laidOut
def Z7:mapsRowed P=true:=by kernel_rfl
def Z1:P.plainKeys=false:=by kernel_rfl
def ZZ:P.stopsHeard=true:=by kernel_rfl
def ZY:P.mayEnter=true:=by kernel_rfl
def Z3:P.liftsFinal=false:=by kernel_rfl
end
section
open Go.cw
open Go.a_
set_option maxRecDepth 2000
open Go.ChangeShapes Go.WideShapes Go.ChangeAt Go.RowKit
def nR{α:Type}(K:eS α)(W:World)(ρ:Env)(H:ae)(cs:List Value):Prop:=∃b H' a c,Seen b H' W/\ρ.le b/\au H H'/\bU b c cs/\K.V H' bb a c
def Tk{α:Type}(K:eS α)(W:World)(ρ:Env)(H:ae)(c:Value):Prop:=∃a H' l v,Seen a H' W/\ρ.le a/\au H H'/\bA a v c/\aH K H' bb l v
section
variable {α:Type}{K:eS α}
theorem OS{W:World}{ok:List Value->Prop}(f:∀ρ H cs,Seen ρ H W->ok cs->nR K W ρ H cs){a:Addr}{len:Nat}(aE:∀i,i<len->∃cs,W.cells? 0 (a.add (i*K.esz)) K.esz=A cs/\ok cs){ρ:Env}{H:ae}(g:Seen ρ H W):
  ∀k,k<=len->∃(d:Env) (H':ae) (l:List α) (els:List (List af)),Seen d H' W/\ρ.le d/\au H H'/\l.length=k/\els.length=k/\(∀(i:Nat) (x:α),l[i]? =A x->∃cs,els[i]? =A cs/\K.V H' bb x cs)/\∀(i:Nat) (e:List af),els[i]? =A e->e.length=K.esz/\e.all af.one=J/\∃cs,W.cells? 0 (a.add (i*K.esz)) K.esz=A cs/\bU d e cs
 |0,_=>⟨ρ,H,[],[],g,Env.le_refl _,.refl _,rfl,rfl,λi x aE=>by grind,λi e he=>by grind⟩
 |k+1,E=>by
  obtain⟨z,H1,l,els,s1,q,r,cL,L,o,s⟩:=OS f aE g k (by omega);obtain⟨cs,aA,p⟩:=aE k (by omega);obtain⟨B,j,e,m,s2,l2,h,v2,x2⟩:=f z H1 cs s1 p;have G:=K.len x2;refine⟨B,j,l++[e],els++[m],s2,Env.le_trans q l2,r.trans h,by grind,by grind,λi x aP=> ?_,λi n he=> ?_⟩
  ·by_cases c:i<l.length
   ·rw[List.getElem?_append_left c]at aP;obtain⟨b,M,y⟩:=o i x aP;exact⟨b,by grind,K.keep (.aB h) y⟩
   grind
  ·by_cases c:i<els.length
   ·rw[List.getElem?_append_left c]at he;obtain⟨t,u,b,v,w⟩:=s i n he;exact⟨t,u,b,v,w.mono l2⟩
   grind
theorem pz{H0:Type}{enc:TypeId×Value->H0}{W:World}{t e n:Nat}(S:P.underlying t=A (.slice e))(L:P.cellsOf e=K.esz)(O:0<K.esz)(ar:∀q ρ H cs z,Seen ρ H W->DataW.trod enc P W 0 (λ_=>J) J q e cs=A z->nR K W ρ H cs)
  {ρ:Env} {H:ae} {c:Value} {x:DataW H0×List MemPlace} (f:Seen ρ H W) (h:DataW.trod enc P W 0 (λ_=>J) J n t [c]=A x):Tk K W ρ H c:=by
 rcases acn (P:=P) S h with p|⟨a,len,cap,Y,aq,p,N,aE⟩
 ·cases p;exact⟨ρ,H,[],.ao,f,Env.le_refl _,.refl _,.ao,.nil⟩
 ·cases p;rw[L]at aE;by_cases G:0<cap
  ·obtain⟨al,H1,l,els,s1,V,aa,cL,ay,w,ab⟩:=OS (K:=K) (ok:=λcs=>∃z,DataW.trod enc P W 0 (λ_=>J) J Y e cs=A z) (by grind) (λi aP=>aE i (by omega)) f len (by omega);have first:∃v0,W.cell? (a.add (0*K.esz)|>.add 0)=A v0:=by
    obtain⟨cs,d,_⟩:=aE 0 G;have ah:=(World.cells?_some d).2.2 0 O;have ai:=(World.cells?_some d).2.1;grind
   obtain⟨v0,aw⟩:=first
   have R:a.spot=none:=by
    grind[World.cell?_spot,Addr.add]
   obtain⟨cc,u,g,E⟩:∃cc u g,W.heap[a.block]? =A (.cells cc u g):=by
    grind[yE,World.cell?]
   have av:a.off+cap*K.esz<=cc.size:=by
    obtain⟨cs,d,_⟩:=aE (cap-1) (by omega);have am:=(World.cells?_some d).2.1;have y:=(World.cells?_some d).2.2 (K.esz-1) (by omega);rw[yE R,yE rfl,List.getElem?_eq_getElem (by omega)]at y;have B:cc[a.off+(cap-1)*K.esz+(K.esz-1)]? =A cs[K.esz-1]:=by
     grind[World.cell?]
    have an:=(Array.getElem?_eq_some_iff.1 B).1;have ap:(cap-1)*K.esz+K.esz=cap*K.esz:=by
     obtain⟨m,rfl⟩:∃m,cap=m+1:=⟨cap-1,by omega⟩;grind
    omega
   have Q:Go.cw.gJ al W ⟨a.block,a.off,K.esz,cc.size⟩ J K.esz els:=by
    refine⟨rfl,cc,u,g,E,⟨rfl,λh=>by cases h⟩,λi e he=> ?_⟩;obtain⟨ad,aA,cs,af,aj⟩:=ab i e he;refine⟨ad,λj v T=> ?_⟩;obtain⟨z,ax,U⟩:=aj.get j v T;have r:j<K.esz:=by grind
    refine⟨(by grind),z,?_,U⟩;have:=(World.cells?_some af).2.2 j r;grind[yE,World.cell?]
   have s2:=s1.push Q;have l2:=s1.od ⟨a.block,a.off,K.esz,cc.size⟩;have pp:=au.push H1 (.row J K.esz els);refine⟨_,_,l,.az H1.next 0 len K.esz Z,s2,Env.le_trans V l2,aa.eI _,?_,.inr (.inl ⟨H1.next,0,Z,J,els,by rw[cL],trivial,ae.a2 _ _,by omega,λj x r=> ?_⟩)⟩
   ·exact .az H1.next 0 len Z ⟨a.block,a.off,K.esz,cc.size⟩ a cap (by simp[Env.dG]) N (λk M=>by grind) (λ_=>⟨by obtain⟨b,o,s⟩:=a;grind,by grind⟩)
   ·obtain⟨cs,aC,ak⟩:=w j x r;exact⟨cs,by grind,K.keep (.aB pp) ak⟩
  ·obtain rfl:cap=0:=by omega
   obtain rfl:len=0:=by omega
   have s2:=f.blank ⟨0,0,K.esz,0⟩;refine⟨_,_,[],.az H.next 0 0 K.esz Z,s2,f.od _,au.push _ _,?_,.inr (by grind)⟩;exact .az H.next 0 0 Z ⟨0,0,K.esz,0⟩ a 0 (by simp[Env.dG]) (by omega) (λk M=>by grind) (by omega)
end
section
variable {H0:Type}{enc:TypeId×Value->H0}{W:World}
theorem aci(n:Nat)(ρ:Env)(H:ae)(cs:List Value)(x:DataW H0×List MemPlace)(a:Seen ρ H W)(h:DataW.trod enc P W 0 (λ_=>J) J n 3 cs=A x):nR aN W ρ H cs:=by
 obtain⟨z,ah,_⟩:=DataW.trod_int (P:=P) nI h;subst ah;exact⟨ρ,H,z,[.int .i64 z],a,Env.le_refl _,.refl _,.cons _ _ _ _ (.int _ _) .nil,rfl⟩
theorem Lo:gj P 46 0=A (3,0):=by kernel_rfl
theorem WJ:gj P 46 1=A (3,1):=by kernel_rfl
theorem WK:gj P 46 2=A (3,2):=by kernel_rfl
theorem sn:P.cellsOf 3=1:=by kernel_rfl
def so:P.cellsOf 46=3:=by kernel_rfl
def Kt:P.cellsOf 9=1:=by kernel_rfl
def Vw:P.cellsOf 4=1:=by kernel_rfl
theorem yY(n:Nat)(cs:List Value)(x:DataW H0×List MemPlace)(h:DataW.trod enc P W 0 (λ_=>J) J n 46 cs=A x):∃b r d,cs=[.int .i64 b,.int .i64 r,.int .i64 d]:=by
 have aw:=rP Lo h;rw[so]at aw
 match cs,aw with
 |[br,a1,bd],_=>
  grind[hF,Lo,WJ,WK,sn,oG,nI]
theorem OT(n:Nat)(ρ:Env)(H:ae)(cs:List Value)(x:DataW H0×List MemPlace)(a:Seen ρ H W)(h:DataW.trod enc P W 0 (λ_=>J) J n 46 cs=A x):nR e_ W ρ H cs:=by
 obtain⟨b,r,d,rfl⟩:=yY n cs x h;exact⟨ρ,H,⟨b,r,d⟩,cb ⟨b,r,d⟩,a,Env.le_refl _,.refl _,.cons _ _ _ _ (.int _ _) (.cons _ _ _ _ (.int _ _) (.cons _ _ _ _ (.int _ _) .nil)),rfl⟩
def Ll:gj P 98 0=A (9,0):=by kernel_rfl
def WB:gj P 98 1=A (46,1):=by kernel_rfl
def Kq:P.cellsOf 98=4:=by kernel_rfl
theorem acg(n:Nat)(ρ:Env)(H:ae)(cs:List Value)(x:DataW H0×List MemPlace)(c:Seen ρ H W)(h:DataW.trod enc P W 0 (λ_=>J) J n 98 cs=A x):nR l1 W ρ H cs:=by
 have aw:=rP Ll h;rw[Kq]at aw
 match cs,aw with
 |[br,a1,bd,bn],_=>
  obtain⟨_,_,a⟩:=hF Ll h;obtain⟨_,_,ah⟩:=hF WB h;rw[Kt]at a;rw[so]at ah;obtain⟨s,rfl⟩:=SB (P:=P) SJ a;obtain⟨b,r,d,e⟩:=yY _ _ _ ah;simp only[List.drop_succ_cons,List.drop_zero,List.take_succ_cons,List.take_zero,List.cons.injEq,and_true]at e;obtain⟨rfl,rfl,rfl⟩:=e;exact⟨ρ,H,⟨b,r,d⟩,.str s::cb ⟨b,r,d⟩,c,Env.le_refl _,.refl _,.cons _ _ _ _ (.str _) (.cons _ _ _ _ (.int _ _) (.cons _ _ _ _ (.int _ _) (.cons _ _ _ _ (.int _ _) .nil))),⟨s,rfl⟩⟩
def Ln:gj P 95 0=A (9,0):=by kernel_rfl
def WI:gj P 95 1=A (93,1):=by kernel_rfl
def Ku:P.cellsOf 95=2:=by kernel_rfl
def Vy:P.cellsOf 93=1:=by kernel_rfl
theorem ack(n:Nat)(ρ:Env)(H:ae)(cs:List Value)(x:DataW H0×List MemPlace)(d:Seen ρ H W)(h:DataW.trod enc P W 0 (λ_=>J) J n 95 cs=A x):nR m4 W ρ H cs:=by
 have aw:=rP Ln h;rw[Ku]at aw
 match cs,aw with
 |[br,a1],_=>
  obtain⟨_,_,a⟩:=hF Ln h;obtain⟨_,_,ah⟩:=hF WI h;rw[Kt]at a;rw[Vy]at ah;obtain⟨s,rfl⟩:=SB (P:=P) SJ a;obtain⟨e,H',l,v,b,c,a3,a4,a5⟩:=pz (K:=l1) jo.un Kq (by decide) (by grind[acg]) d ah;exact⟨e,H',l,[.str s,v],b,c,a3,.cons _ _ _ _ (.str _) (.cons _ _ _ _ a4 .nil),⟨s,v,rfl,a5⟩⟩
def Lm:gj P 89 0=A (3,0):=by kernel_rfl
def WC:gj P 89 1=A (3,1):=by kernel_rfl
def WD:gj P 89 2=A (3,2):=by kernel_rfl
def WE:gj P 89 3=A (3,3):=by kernel_rfl
def WG:gj P 89 4=A (3,4):=by kernel_rfl
def WH:gj P 89 5=A (30,5):=by kernel_rfl
def Kr:P.cellsOf 89=6:=by kernel_rfl
def Vz:P.cellsOf 30=1:=by kernel_rfl
theorem ach(n:Nat)(ρ:Env)(H:ae)(cs:List Value)(x:DataW H0×List MemPlace)(e:Seen ρ H W)(h:DataW.trod enc P W 0 (λ_=>J) J n 89 cs=A x):nR gq W ρ H cs:=by
 have aw:=rP Lm h;rw[Kr]at aw
 match cs,aw with
 |[br,a1,bd,bn,bI,bY],_=>
  obtain⟨_,_,a⟩:=hF Lm h;obtain⟨_,_,ah⟩:=hF WC h;obtain⟨_,_,ai⟩:=hF WD h;obtain⟨_,_,ax⟩:=hF WE h;obtain⟨_,_,aM⟩:=hF WG h;obtain⟨_,_,b⟩:=hF WH h;rw[sn]at a ah ai ax aM;rw[Vz]at b;obtain⟨z0,rfl⟩:=oG (P:=P) nI a;obtain⟨f,rfl⟩:=oG (P:=P) nI ah;obtain⟨g,rfl⟩:=oG (P:=P) nI ai;obtain⟨z3,rfl⟩:=oG (P:=P) nI ax;obtain⟨z4,rfl⟩:=oG (P:=P) nI aM;obtain⟨i,H',l,v,c,d,a3,a4,a5⟩:=pz (K:=aN) b0.un sn (by decide) (by grind[aci]) e b;exact⟨i,H',⟨z0,f,g,z3,z4,l⟩,_,c,d,a3,.cons _ _ _ _ (.int _ _) (.cons _ _ _ _ (.int _ _) (.cons _ _ _ _ (.int _ _) (.cons _ _ _ _ (.int _ _) (.cons _ _ _ _ (.int _ _) (.cons _ _ _ _ a4 .nil))))),⟨v,rfl,a5⟩⟩
def Lk:gj P 49 0=A (3,0):=by kernel_rfl
def Wx:gj P 49 1=A (23,1):=by kernel_rfl
def Wy:gj P 49 2=A (4,2):=by kernel_rfl
def Wz:gj P 49 3=A (46,3):=by kernel_rfl
def WA:gj P 49 4=A (47,6):=by kernel_rfl
def Kp:P.cellsOf 49=7:=by kernel_rfl
def Ks:P.cellsOf 23=1:=by kernel_rfl
def VA:P.cellsOf 47=1:=by kernel_rfl
theorem acf(n:Nat)(ρ:Env)(H:ae)(cs:List Value)(x:DataW H0×List MemPlace)(p:Seen ρ H W)(h:DataW.trod enc P W 0 (λ_=>J) J n 49 cs=A x):nR gf W ρ H cs:=by
 have aw:=rP Lk h;rw[Kp]at aw
 match cs,aw with
 |[br,a1,bd,bn,bI,bY,ch],_=>
  obtain⟨_,_,f⟩:=hF Lk h;obtain⟨_,_,ah⟩:=hF Wx h;obtain⟨_,_,ai⟩:=hF Wy h;obtain⟨_,_,ax⟩:=hF Wz h;obtain⟨_,_,aM⟩:=hF WA h;rw[sn]at f;rw[Ks]at ah;rw[Vw]at ai;rw[so]at ax;rw[VA]at aM;obtain⟨z0,rfl⟩:=oG (P:=P) nI f;obtain⟨s,g,_⟩:=DataW.trod_bool (P:=P) SI ai;simp only[List.drop_succ_cons,List.drop_zero,List.take_succ_cons,List.take_zero,List.cons.injEq,and_true]at g;subst g;obtain⟨b,r,d,e⟩:=yY _ _ _ ax;simp only[List.drop_succ_cons,List.drop_zero,List.take_succ_cons,List.take_zero,List.cons.injEq,and_true]at e;obtain⟨rfl,rfl,rfl⟩:=e;obtain⟨u,H1,q,v1,j,k,a3,a4,a5⟩:=pz (K:=e_) cS.un so (by decide) (by grind[OT]) p ah
  obtain⟨t,i,l2,v2,l,a,c,m,o⟩:=pz (K:=gq) eP.un Kr (by decide) (by grind[ach]) j aM;refine⟨t,i,⟨z0,q,s,⟨b,r,d⟩,l2⟩,_,l,Env.le_trans k a,a3.trans c,.cons _ _ _ _ (.int _ _) (.cons _ _ _ _ (a4.mono a) (.cons _ _ _ _ (.bool _) (.cons _ _ _ _ (.int _ _) (.cons _ _ _ _ (.int _ _) (.cons _ _ _ _ (.int _ _) (.cons _ _ _ _ m .nil)))))),⟨v1,v2,rfl,a5.aB c,o⟩⟩
def Lp:gj P 100 0=A (3,0):=by kernel_rfl
def WQ:gj P 100 1=A (46,1):=by kernel_rfl
def Kv:P.cellsOf 100=4:=by kernel_rfl
theorem acm(n:Nat)(ρ:Env)(H:ae)(cs:List Value)(x:DataW H0×List MemPlace)(c:Seen ρ H W)(h:DataW.trod enc P W 0 (λ_=>J) J n 100 cs=A x):nR m5 W ρ H cs:=by
 have aw:=rP Lp h;rw[Kv]at aw
 match cs,aw with
 |[br,a1,bd,bn],_=>
  obtain⟨_,_,a⟩:=hF Lp h;obtain⟨_,_,ah⟩:=hF WQ h;rw[sn]at a;rw[so]at ah;obtain⟨z,rfl⟩:=oG (P:=P) nI a;obtain⟨b,r,d,e⟩:=yY _ _ _ ah;simp only[List.drop_succ_cons,List.drop_zero,List.take_succ_cons,List.take_zero,List.cons.injEq,and_true]at e;obtain⟨rfl,rfl,rfl⟩:=e;exact⟨ρ,H,⟨z,⟨b,r,d⟩⟩,_,c,Env.le_refl _,.refl _,.cons _ _ _ _ (.int _ _) (.cons _ _ _ _ (.int _ _) (.cons _ _ _ _ (.int _ _) (.cons _ _ _ _ (.int _ _) .nil))),rfl⟩
def Et:gj P 27 0=A (22,0):=by kernel_rfl
def WL:gj P 27 1=A (23,1):=by kernel_rfl
def WM:gj P 27 2=A (24,2):=by kernel_rfl
def WN:gj P 27 3=A (25,3):=by kernel_rfl
def WO:gj P 27 4=A (3,4):=by kernel_rfl
def VD:P.cellsOf 27=5:=by kernel_rfl
def VB:P.cellsOf 22=1:=by kernel_rfl
def Vx:P.cellsOf 24=1:=by kernel_rfl
def VC:P.cellsOf 25=1:=by kernel_rfl
theorem acj(n:Nat)(ρ:Env)(H:ae)(cs:List Value)(x:DataW H0×List MemPlace)(m:Seen ρ H W)(h:DataW.trod enc P W 0 (λ_=>J) J n 27 cs=A x):
  ∃a H' y b,Seen a H' W/\ρ.le a/\au H H'/\bU a b cs/\cA H' bb y (.agg b):=by
 have aw:=rP Et h;rw[VD]at aw
 match cs,aw with
 |[br,a1,bd,bn,bI],_=>
  obtain⟨_,_,c⟩:=hF Et h;obtain⟨_,_,ah⟩:=hF WL h;obtain⟨_,_,ai⟩:=hF WM h;obtain⟨_,_,ax⟩:=hF WN h;obtain⟨_,_,aM⟩:=hF WO h;rw[VB]at c;rw[Ks]at ah;rw[Vx]at ai;rw[VC]at ax;rw[sn]at aM;obtain⟨z,rfl⟩:=oG (P:=P) nI aM;obtain⟨B,H1,o,v1,g,v,a3,a4,a5⟩:=pz (K:=m4) fo.un Ku (by decide) (by grind[ack]) m c;obtain⟨E,t,l2,v2,i,w,j,k,l⟩:=pz (K:=e_) cS.un so (by decide) (by grind[OT]) g ah;obtain⟨G,u,p,v3,a1,bd,bn,bI,bY⟩:=pz (K:=gf) cD.un Kp (by decide) (by grind[acf]) i ai;obtain⟨s,f,q,v4,d1,d2,d3,d4,d5⟩:=pz (K:=m5) fH.un Kv (by decide) (by grind[acm]) a1 ax;have r:=d3;have e:=bn.trans d3;have d:=j.trans e;refine⟨s,f,⟨o,l2,p,q,z⟩,[v1,v2,v3,v4,.int .i64 z],d1,(by grind[Env.le_trans]),a3.trans d,?_,⟨_,rfl,v1,v2,v3,v4,rfl,a5.aB d,l.aB e,bY.aB r,d5⟩⟩
  exact .cons _ _ _ _ (a4.mono (by grind[Env.le_trans])) (.cons _ _ _ _ (k.mono (Env.le_trans bd d2)) (.cons _ _ _ _ (bI.mono d2) (.cons _ _ _ _ d4 (.cons _ _ _ _ (.int _ _) .nil))))
end
end
section
open Go.cw
open Go.a_
open Go.ChangeShapes Go.WideShapes Go.ChangeAt Go.RowKit
def ajl:∃fs,P.underlying 27=A (.struct fs):=by
 have h:=Et;unfold gj at h;split at h
 ·rename_i fs aC;exact⟨fs,aC⟩
 ·cases h
set_option maxRecDepth 100000 in
def TI{W:World}{r:Reach}{base:Nat}{v:Value}(a:Value.okWide P W r base 27 v):∃cs:List Value,v= .agg cs.toArray:=by
 obtain⟨fs,hu⟩:=ajl;unfold Value.okWide at a;rw[hu]at a;obtain⟨cs,rfl,_⟩:=a;exact⟨cs.toList,by simp⟩
set_option maxRecDepth 100000 in
def aae(H:ae):hr E0 P 16 [] H (.bool J) H:=aau OU H
set_option maxRecDepth 100000 in
def agF{H:Type}{enc:TypeId×Value->H}{W:World}{r:Reach}{base:Nat}{v:Value}{d:DataW H}{dk:List MemPlace}(f:Value.okWide P W r base 27 v)(h:DataW.Trod enc P W 0 (λ_=>J) J 27 v d dk):DA E0 P 3 [v] W:=by
 obtain⟨cs,rfl⟩:=TI f;obtain⟨n,aL⟩:=h;have b:(Value.agg cs.toArray).cells.toList=cs:=by simp[Value.cells]
 rw[b]at aL;obtain⟨g,H1,y,a,s1,i,j,v1,x1⟩:=acj n _ _ cs _ (Seen.empty W) aL;obtain⟨r,H',e,rfl,p⟩:=VF x1;exact⟨g,H1,_,H',s1.rel,s1.ro,s1.top,λ_ _ h=>(by cases h),p.1,.cons _ _ _ _ (.agg _ _ v1) .nil,qx (c:=bL Tryz.f3) (M:=0) la (Wq la OU aae) Tryz.func3 (by kernel_rfl) (by kernel_rfl) (by kernel_rfl) (Eq.trans ((gb (o6 P aG 16 J)).2 0 (.agg a) H1) e)⟩
end
section
open Go.cw
open Go.ChangeShapes Go.WideShapes Go.ChangeAt Go.RowKit
open Go.ChangeMaps (open_string shut_string)
namespace Iq
set_option maxRecDepth 100000 in
def lifted(os:Os)(started:os.Started)(H:Type)(enc:TypeId×Value->H):
  ReturnsInHanded {} Tryz.checked os 3 .any (Rows.signClassesSpec.pre6 enc Tryz.prog Tryz.f3 Rows.signClassesRow.domain I) (Rows.signClassesSpec.post enc Tryz.prog Tryz.f3 I J I I):=by
 refine returnsInHanded_of_change (C:=Tryz.checked) own started (by kernel_rfl) Tryz.func3
  (ChangeSpec.witness6 (enc:=enc) (C:=Tryz.checked) I ⟨#[],#[.agg #[.slice Z 0 0,.slice Z 0 0,.slice Z 0 0,.slice Z 0 0,.int .i64 0]],[]⟩ 8 (by kernel_rfl) (by kernel_rfl) (by kernel_rfl) (by kernel_rfl)) ?_
 intro W base args i gs before u d E _;have g:∀(j:Nat) t v,Tryz.f3.params[j]? =A t->args[j]? =A v->Value.okWide Tryz.prog W .any base t v:=u;have o:=d;obtain⟨p,q,m,n,rfl,G,K⟩:=d;have a:DataW.TrodAll enc Tryz.prog W 0 (λ_=>J) J Tryz.f3.params.toList args.toList i p:=m;have f:Tryz.f3.params= #[27]:=by kernel_rfl
 rw[f]at a g;obtain⟨v0,N,d0,z,L,M,B,rfl,rfl,l,x⟩:=trodAll_cons a;obtain⟨rfl,rfl,rfl⟩:=trodAll_nil x;obtain rfl:args= #[v0]:=by cases args;simp_all
 obtain⟨rfl,rfl⟩:=trodVars_none n;have k:=(g 0 27 v0 rfl rfl);have r:DA E0 P 3 [v0] W:=agF k l;refine(aaw (c:=bL Tryz.f3) la Tryz.func3 (by kernel_rfl) r).mono λe y ⟨he,b⟩=> ?_
 subst he;obtain⟨w,s⟩:=SA laidOut b (ts:=[27]) (λt ba=>by
  simp only[List.mem_cons,List.not_mem_nil,or_false]at ba;rcases ba with rfl<;>exact⟨by kernel_rfl,of_decide_eq_true (by kernel_rfl)⟩) a
 exact⟨_,rfl,_,_,_,[],w,[],o,trodAll_mk1 (shut_bool (P:=P) SI _),by rw[f];exact s,rfl,b.frame _,λh=>by cases h⟩
def Z0:(Rows.signClassesRow.inPlace==P.inPlace 3)=true:=by kernel_rfl
def Z8:(Rows.signClassesRow.unfollowed==P.unfollowed 3)=true:=by kernel_rfl
def Z6:(Rows.signClassesRow.recurses==P.recurses 3)=true:=by kernel_rfl
def Z5:(Rows.signClassesRow.named==P.varsNamed 3)=true:=by kernel_rfl
def Z4:(Rows.signClassesRow.loops==(Tryz.f3.params.toList++Rows.signClassesSpec.plain.varTypes P).any (P.loopsFrom ·))=true:=by kernel_rfl
set_option maxRecDepth 100000 in
def zn:joinedFacts P 3 Tryz.f3 Rows.signClassesSpec Rows.signClassesRow=true:=by
 unfold joinedFacts;rw[Z2,Z7,Z0,Z8,Z6,Z5,Z4,Z1,ZZ,ZY,Z3];kernel_rfl
end Iq
theorem signClasses_holds:Rows.SignClassesSaid:=
 (OpenClaim.holds_of_wide 3 Tryz.f3 rfl rfl rfl rfl rfl rfl rfl ⟨rfl,rfl,rfl,rfl,rfl⟩ rfl rfl rfl rfl rfl (by kernel_rfl) Tryz.func3 Iq.zn
  (of_decide_eq_true (by kernel_rfl)) (by unfold Func.isWrapper;first|(rw[if_pos (by decide+kernel)];kernel_rfl)|(rw[if_neg (by decide+kernel)];exact⟨rfl,rfl⟩))
  (λos started H enc _=>Iq.lifted os started H enc):Rows.signClassesRow.holds Tryz.pinned (OpenSpec.ofChange Rows.signClassesSpec))
