/-
  Texts of one proof, laid together: Rt Lays OrcA OrcB OrcC Kl EmitKnown.
-/
import Derived.Shelf.SlGeneric
import Derived.Shelf.SlIterI.Collect
import Derived.Shelf.SortM.Plain
import Derived.Shelf.SortM.SortNone
import Derived.Ground.GgzProg
import Derived.Ground.SlgmProg
import Derived.RangeFuncBox
import Derived.RangeFuncLeaves
import Derived.Shelf.Abstract
import Derived.OwnWalkIn
import Derived.TacticsInMore
import Derived.LoopNIn
import Derived.LoopIn
import Derived.Sort.OwnSortedInts
import Derived.Test.YtolnciihfbifcaaGreatMU
import Derived.Test.YtolnciihfbifcaaGreatMV
import Derived.Test.YtolnciihfbifcaaGreatMW
import Derived.Test.YtolnciihfbifcaaGreatMZ
import Derived.Test.YtolnciihfbifcaaGreatRows
set_option linter.unusedVariables false
set_option linter.unusedSimpArgs false
set_option linter.defProp false
open Option renaming some→D,none→Y
open Bool renaming true→V,false→U
namespace Go.Proofs.YtolnciihfbifcaaGreat
open Go.cV
section
open Go.ChangeShapes Go.WideShapes Go.ChangeAt Go.RowKit
def own:ownKnob Tryz.prog.godebug=none:=j
def laidOut:laidOutB Tryz.prog=true:=j
def arV:P.underlying 3=D (.int .i64):=j
def arW:P.underlying 4=D .bool:=j
def asu:P.underlying 9=D .string:=j
end
end Go.Proofs.YtolnciihfbifcaaGreat
namespace Go.Proofs
open Go.Shelf
def Tryz.P3:Go.Shelf.Ren:=⟨λ |8=>163|11=>215|n=>n,λ |26=>3|28=>174|24=>35|0=>0|33=>73|4=>4|n=>n,λ |n=>n⟩
def Tryz.I2:Go.Proofs.SlLaysZI.n8 Tryz.prog Tryz.P3:={
 mixed:=by kernel_rfl
 f8:=⟨Tryz.f163.name,by decide,Tryz.func163.trans (congrArg D (by kernel_rfl))⟩
 f11:=⟨Tryz.f215.name,by decide,Tryz.func215.trans (congrArg D (by kernel_rfl))⟩
 t0:=Tryz.underlying0
 a0:=Tryz.isAgg0
 z0:=Tryz.sizeOf0
 v0:=Tryz.zeroValue0
 t24:=Tryz.underlying35
 a24:=Tryz.isAgg35
 z24:=Tryz.sizeOf35
 v24:=Tryz.zeroValue35
 t26:=Tryz.underlying3
 a26:=Tryz.isAgg3
 z26:=Tryz.sizeOf3
 v26:=Tryz.zeroValue3
 t28:=Tryz.underlying174
 a28:=Tryz.isAgg174
 z28:=Tryz.sizeOf174
 v28:=Tryz.zeroValue174
 i26:=by kernel_rfl}
def Tryz.aq1:Go.Shelf.Ren:=⟨λ |5=>164|8=>217|7=>216|19=>258|20=>259|10=>249|11=>250|12=>251|13=>252|14=>253|15=>254|16=>255|17=>256|18=>257|30=>291|31=>292|32=>293|33=>294|34=>295|35=>296|40=>321|n=>n,λ |23=>35|25=>3|3=>3|32=>281|22=>35|0=>0|44=>312|46=>231|4=>4|36=>306|35=>305|41=>255|5=>5|9=>9|53=>341|57=>345|63=>365|64=>366|n=>n,λ |n=>n⟩
def Tryz.Ii:Go.Proofs.SlLaysM.n5 Tryz.prog Tryz.aq1:={
 mixed:=by kernel_rfl
 f5:=⟨Tryz.f164.name,by decide,Tryz.func164.trans (congrArg D (by kernel_rfl))⟩
 f7:=⟨Tryz.f216.name,by decide,Tryz.func216.trans (congrArg D (by kernel_rfl))⟩
 f8:=Tryz.func217.trans (congrArg D (by kernel_rfl))
 f10:=⟨Tryz.f249.name,by decide,Tryz.func249.trans (congrArg D (by kernel_rfl))⟩
 f11:=⟨Tryz.f250.name,by decide,Tryz.func250.trans (congrArg D (by kernel_rfl))⟩
 f12:=⟨Tryz.f251.name,by decide,Tryz.func251.trans (congrArg D (by kernel_rfl))⟩
 f13:=⟨Tryz.f252.name,by decide,Tryz.func252.trans (congrArg D (by kernel_rfl))⟩
 f14:=⟨Tryz.f253.name,by decide,Tryz.func253.trans (congrArg D (by kernel_rfl))⟩
 f15:=⟨Tryz.f254.name,by decide,Tryz.func254.trans (congrArg D (by kernel_rfl))⟩
 f16:=⟨Tryz.f255.name,by decide,Tryz.func255.trans (congrArg D (by kernel_rfl))⟩
 f17:=⟨Tryz.f256.name,by decide,Tryz.func256.trans (congrArg D (by kernel_rfl))⟩
 f18:=⟨Tryz.f257.name,by decide,Tryz.func257.trans (congrArg D (by kernel_rfl))⟩
 f19:=Tryz.func258.trans (congrArg D (by kernel_rfl))
 f20:=Tryz.func259.trans (congrArg D (by kernel_rfl))
 f30:=⟨Tryz.f291.name,by decide,Tryz.func291.trans (congrArg D (by kernel_rfl))⟩
 f31:=Tryz.func292.trans (congrArg D (by kernel_rfl))
 f32:=Tryz.func293.trans (congrArg D (by kernel_rfl))
 f33:=⟨Tryz.f294.name,by decide,Tryz.func294.trans (congrArg D (by kernel_rfl))⟩
 f34:=⟨Tryz.f295.name,by decide,Tryz.func295.trans (congrArg D (by kernel_rfl))⟩
 f35:=⟨Tryz.f296.name,by decide,Tryz.func296.trans (congrArg D (by kernel_rfl))⟩
 f40:=⟨Tryz.f321.name,by decide,Tryz.func321.trans (congrArg D (by kernel_rfl))⟩
 t0:=Tryz.underlying0
 a0:=Tryz.isAgg0
 z0:=Tryz.sizeOf0
 v0:=Tryz.zeroValue0
 t3:=Tryz.underlying3
 a3:=Tryz.isAgg3
 z3:=Tryz.sizeOf3
 v3:=Tryz.zeroValue3
 t4:=Tryz.underlying4
 a4:=Tryz.isAgg4
 z4:=Tryz.sizeOf4
 v4:=Tryz.zeroValue4
 t5:=Tryz.underlying5
 a5:=Tryz.isAgg5
 z5:=Tryz.sizeOf5
 v5:=Tryz.zeroValue5
 t9:=Tryz.underlying9
 a9:=Tryz.isAgg9
 z9:=Tryz.sizeOf9
 v9:=Tryz.zeroValue9
 t22:=Tryz.underlying35
 a22:=Tryz.isAgg35
 z22:=Tryz.sizeOf35
 v22:=Tryz.zeroValue35
 t23:=Tryz.underlying35
 a23:=Tryz.isAgg35
 z23:=Tryz.sizeOf35
 v23:=Tryz.zeroValue35
 t25:=Tryz.underlying3
 a25:=Tryz.isAgg3
 z25:=Tryz.sizeOf3
 v25:=Tryz.zeroValue3
 t32:=Tryz.underlying281
 a32:=Tryz.isAgg281
 z32:=Tryz.sizeOf281
 v32:=Tryz.zeroValue281
 t35:=Tryz.underlying305
 a35:=Tryz.isAgg305
 z35:=Tryz.sizeOf305
 v35:=Tryz.zeroValue305
 t36:=Tryz.underlying306
 a36:=Tryz.isAgg306
 z36:=Tryz.sizeOf306
 v36:=Tryz.zeroValue306
 t41:=Tryz.underlying255
 a41:=Tryz.isAgg255
 z41:=Tryz.sizeOf255
 v41:=Tryz.zeroValue255
 t44:=Tryz.underlying312
 a44:=Tryz.isAgg312
 z44:=Tryz.sizeOf312
 v44:=Tryz.zeroValue312
 t46:=Tryz.underlying231
 a46:=Tryz.isAgg231
 z46:=Tryz.sizeOf231
 v46:=Tryz.zeroValue231
 t53:=Tryz.underlying341
 a53:=Tryz.isAgg341
 z53:=Tryz.sizeOf341
 v53:=Tryz.zeroValue341
 t57:=Tryz.underlying345
 a57:=Tryz.isAgg345
 z57:=Tryz.sizeOf345
 v57:=Tryz.zeroValue345
 t63:=Tryz.underlying365
 a63:=Tryz.isAgg365
 z63:=Tryz.sizeOf365
 v63:=Tryz.zeroValue365
 t64:=Tryz.underlying366
 a64:=Tryz.isAgg366
 z64:=Tryz.sizeOf366
 v64:=Tryz.zeroValue366}
end Go.Proofs
namespace Go.Proofs.YtolnciihfbifcaaGreat
section
open Go.RowKit Go.Maps Go.Sort Go.Shelf Go.Proofs
section
variable {P:Program}{ρ:Ren}
set_option maxRecDepth 100000 in
set_option maxHeartbeats 2000000 in
def Py(L:SlLaysZI.n11 P ρ)(F:Fence)(n:Nat)(T:F.fn (ρ.f 11))(E:F.round=Y)(ay:2<=n)(g:Nat)(c:Array Value)(aa:F.fn g)(Q:∀args w,(callFunc g args).run P w= .ok (.enter g args) w)
  (S:List Int->Prop) (N:Nat) (ae:N<=maxLen) (af:N*8<=140737488355328) (w:World) (ap:∀(l zD:Nat) (fn:FuncId) (W:World),(∀pre x b,AnyZI.ApAt ρ w fn (.func (.func g) #[] c) w.heap.size l zD pre b->pre.length<N->YieldAt F (n-1-1) P l #[encZ x] b λe p=>e= .returned (.bool V)/\AnyZI.ApAt ρ w fn (.func (.func g) #[] c) w.heap.size l zD (pre++[x]) p/\KeepsWalks b p)->AnyZI.ApAt ρ w fn (.func (.func g) #[] c) w.heap.size l zD [] W->CallsIn F (n-1) P g (#[.func (.yield l) #[] #[]]++c) W λe p=>(∃v,e= .returned v)/\∃xs,S xs/\AnyZI.ApAt ρ w fn (.func (.func g) #[] c) w.heap.size l zD xs p):
  CallsIn F n P (ρ.f 11) #[.slice Y 0 0,.func (.func g) #[] c] w λe M=>∃(v:Value) (m:List Int),e= .returned v/\S m/\M.ownsRow w.heap.size (ρ.t 26) 1 v m.length (m.map encZ)/\(v= .slice Y 0 0↔m=[])/\Below w.heap.size w M:=by
 have R:1<=n:=by omega
 have mixed:=L.mixed;have t0:=L.t0;have a0:=L.a0;have z0:=L.z0;have v0:=L.v0;have t24:=L.t24;have a24:=L.a24;have z24:=L.z24;have v24:=L.v24;have t26:=L.t26;have a26:=L.a26;have z26:=L.z26;have v26:=L.v26;have t28:=L.t28;have a28:=L.a28;have z28:=L.z28;have v28:=L.v28;have C:ρ.t 24≠ρ.t 26:=λe=>by have h:=L.t24;rw[e,L.t26]at h;cases h
 have aA:=run_underlying L.t0;have aB:=run_underlying L.t24;have aC:=run_underlying L.t26;have aD:=run_underlying L.t28;obtain⟨_,_,O⟩:=L.f11;refine callsIn_of_wp_marks O rfl T ?_ E;simp only[SlBodyZ.n11_ntmps ρ,List.size_toArray,List.length_cons,List.length_nil,Nat.reduceAdd,Nat.reduceSub,Array.replicate_succ,Array.replicate_zero,List.push_toArray,List.append_toArray,List.nil_append,List.cons_append]
 gi_wp2
 refine wpIn_rangeFunc ?_;intro fn aj;rw[E];obtain⟨a,q⟩:∃a,w.alloc (.cells #[.slice Y 0 0] (ρ.t 24))=a:=⟨_,rfl⟩;have an:a.heap.size=w.heap.size+1:=by rw[<-q];simp
 have ar:a.heap[w.heap.size]? =D (.cells #[.slice Y 0 0] (ρ.t 24) (0,0)):=by rw[<-q];exact World.alloc_heap_new w _
 have r:Below w.heap.size w a:=by rw[<-q];exact(Below.refl _ w).alloc (Nat.le.refl) _
 rw[q];obtain⟨b,j⟩:∃b,(a.alloc (.deferred (D []))).alloc (.loop (AnyZI.apRec ρ fn (.func (.func g) #[] c) w.heap.size a.heap.size .ready Y))=b:=⟨_,rfl⟩;have hold:∀k,k<a.heap.size->b.heap[k]? =a.heap[k]? :=λk ak=>by
  rw[<-j];exact(Below.heap_alloc _ _ k (by simp;omega)).trans (Below.heap_alloc _ _ k ak)
 have ai:Below w.heap.size w b:=by rw[<-j];exact(r.alloc r.size _).alloc (by have:=r.size;simp;omega) _
 have az:b.heap.size=a.heap.size+2:=by rw[<-j];simp
 have ad:AnyZI.ApAt ρ w fn (.func (.func g) #[] c) w.heap.size (a.heap.size+1) a.heap.size [] b:=
  ⟨⟨_,(hold w.heap.size (by omega)).trans ar,⟨rfl,.inl ⟨rfl,rfl⟩⟩,by simp⟩,
   by rw[<-j];have:=World.alloc_heap_new (a.alloc (.deferred (D []))) (.loop (AnyZI.apRec ρ fn (.func (.func g) #[] c) w.heap.size a.heap.size .ready Y));rwa[World.size_alloc]at this,
   by rw[<-j];exact(Below.heap_alloc _ _ _ (by simp)).trans (World.alloc_heap_new a _),ai⟩
 refine⟨a.heap.size+1,[{target:= .collected a.heap.size,args:= #[]}],b,{target:= .fn (.func g) c,args:= #[.func (.yield (a.heap.size+1)) #[] #[]]},b,g,
  #[.func (.yield (a.heap.size+1)) #[] #[]]++c,b,?_,?_,?_,?_,λ_=>R,?_⟩
 ·rw[<-j];exact run_enterLoop_outer _ _ _ _ _
 ·simp[resolve,go_sem]
 ·intro av A;simp[Target.leads]at A;subst A;exact aa
 ·simp[invoke,go_sem,Q]
 ·refine(ap (a.heap.size+1) a.heap.size fn b
   (λpre x W ab al=>AnyZI.apYield {L with} F (n-1-1) w fn aj _ w.heap.size (a.heap.size+1) a.heap.size (by omega) (by omega) (by omega) (Nat.le.refl) (by omega) N ae af pre x W ab al) ad).mono ?_
  rintro e s ⟨⟨v0,rfl⟩,m,ah,i⟩;obtain⟨v,aq,G,am⟩:=i.box;have z:=run_endLoop (P:=P) i.L (by simp[AnyZI.apRec]);obtain⟨d,o⟩:∃d,s.putObj (a.heap.size+1) (.loop {AnyZI.apRec ρ fn (.func (.func g) #[] c) w.heap.size a.heap.size .ready Y with state:= .exhausted})=d:=⟨_,rfl⟩;rw[o]at z;have B:s.grownBy d (D (a.heap.size+1)):=by rw[<-o];exact grownBy_putObj_a _ _ _
  have au:d.heap[w.heap.size]? =D (.cells #[v] (ρ.t 24) (0,0)):=by rw[<-o];exact(World.putObj_heap_other (by omega)).trans aq
  have u:d.heap[a.heap.size]? =D (.deferred (D [])):=by rw[<-o];exact(World.putObj_heap_other (by omega)).trans i.K
  have H:=G.kept B (ownsRow_ne_a G i.L (λcur e=>by first|cases e|exact C (Obj.cells.inj e).2.1));have y:Below w.heap.size w d:=i.below.grown B i.below.size (λk e=>by cases e;omega);obtain⟨aw,ax⟩:=cell_of_box_a au;clear o;refine⟨Y,d,z,?_⟩
  gi_wp2
  rw[<-an];refine⟨by simp,.inl ⟨_,_,rfl,run_takeDeferred u,?_⟩⟩;exact⟨_,results_tmp rfl _ _ _,v,m,rfl,ah,H.kept (grownBy_putObj_a _ _ _) (ownsRow_ne_a H u (λcur e=>by first|cases e|exact C (Obj.cells.inj e).2.1)),am,y.grown (grownBy_putObj_a _ _ _) y.size (λk e=>by cases e;omega)⟩
set_option maxHeartbeats 1000000 in
def I4(L:SlLaysZI.n8 P ρ)(F:Fence)(n:Nat)(o:F.fn (ρ.f 8))(m:F.fn (ρ.f 11))(i:F.round=Y)(E:3<=n)(g:Nat)(a:Array Value)(p:F.fn g)(k:∀args w,(callFunc g args).run P w= .ok (.enter g args) w)
  (S:List Int->Prop) (N:Nat) (q:N<=maxLen) (r:N*8<=140737488355328) (w:World) (A:∀(l zD:Nat) (fn:FuncId) (W:World),(∀pre x d,AnyZI.ApAt ρ w fn (.func (.func g) #[] a) w.heap.size l zD pre d->pre.length<N->YieldAt F (n-1-1-1) P l #[encZ x] d λe c=>e= .returned (.bool V)/\AnyZI.ApAt ρ w fn (.func (.func g) #[] a) w.heap.size l zD (pre++[x]) c/\KeepsWalks d c)->AnyZI.ApAt ρ w fn (.func (.func g) #[] a) w.heap.size l zD [] W->CallsIn F (n-1-1) P g (#[.func (.yield l) #[] #[]]++a) W λe c=>(∃v,e= .returned v)/\∃xs,S xs/\AnyZI.ApAt ρ w fn (.func (.func g) #[] a) w.heap.size l zD xs c):
  CallsIn F n P (ρ.f 8) #[.func (.func g) #[] a] w λe h=>∃(v:Value) (b:List Int),e= .returned v/\S b/\h.ownsRow w.heap.size (ρ.t 26) 1 v b.length (b.map encZ)/\(v= .slice Y 0 0↔b=[])/\Below w.heap.size w h:=by
 have C:1<=n:=by omega
 have B:∀args w,(callFunc (ρ.f 11) args).run P w= .ok (.enter (ρ.f 11) args) w:=L.f11.enters rfl;have mixed:=L.mixed;have t0:=L.t0;have a0:=L.a0;have z0:=L.z0;have v0:=L.v0;have t24:=L.t24;have a24:=L.a24;have z24:=L.z24;have v24:=L.v24;have t26:=L.t26;have a26:=L.a26;have z26:=L.z26;have v26:=L.v26;have t28:=L.t28;have a28:=L.a28;have z28:=L.z28;have v28:=L.v28;have G:=run_underlying L.t0;have H:=run_underlying L.t24;have K:=run_underlying L.t26;have M:=run_underlying L.t28;obtain⟨_,_,j⟩:=L.f8;refine callsIn_of_wp j rfl o ?_ i;simp only[SlBodyZ.n8_ntmps ρ,List.size_toArray,List.length_cons,List.length_nil,Nat.reduceAdd,Nat.reduceSub,Array.replicate_succ,Array.replicate_zero,List.push_toArray,List.append_toArray,List.nil_append,List.cons_append]
 gi_wp2_with (gi_at_fn (ρ.f 11);refine(Py {L with} F (n-1) m i (by omega) g a p k S N q r _ A).mono ?_;rintro e h ⟨v,b,rfl,s,z,y,u⟩)
 go_ret
 exact⟨v,b,rfl,s,z,y,u⟩
end
def upto{α:Type}(f:Nat->α)(k:Nat):List α:=(List.range k).map f
def arZ{α:Type}(f:Nat->α)(k:Nat):upto f (k+1)=upto f k++[f k]:=by simp[upto,List.range_succ]
def arY{α:Type}(f:Nat->α)(k:Nat):(upto f k).length=k:=by simp[upto]
def arX(a:List Int):upto (λj=>a[j]?.getD 0) a.length=a:=by
 apply List.ext_getElem
 ·simp[upto]
 ·intro i c b;simp[upto,b]
attribute [local go_sem] Oper.semAt_some
set_option maxRecDepth 100000 in
set_option maxHeartbeats 2000000 in
def ar0(F:Fence)(n:Nat)(w:F.fn 165)(H:F.round=Y)(N:1<=n)(l d g o b off len cap:Nat)(c:List Int)(O:len*8<=140737488351232)(C:0<len->b<o)(y:d<o)(w0:World)(a:List Int->World->Prop)(t:∀s W,a s W->Below o w0 W)
  (B:∀pre x W,a pre W->pre.length<len->YieldAt F (n-1) Tryz.prog l #[.int .i64 x] W λe f=>e= .returned (.bool V)/\a (pre++[x]) f)
  (W:World) (r:w0.cell? ⟨d,g,Y⟩=D (.slice (D ⟨b,off,Y⟩) len cap)) (E:∀j,j<len->w0.cell? ⟨b,off+j,Y⟩=D (.int .i64 (c[j]?.getD 0))) (q:a [] W):
  CallsIn F n Tryz.prog 165 #[.func (.yield l) #[] #[],.pointer (D ⟨d,g,Y⟩)] W λe f=>(∃v,e= .returned v)/\a (upto (λj=>c[j]?.getD 0) len) f:=by
 have r:=((t _ _ q).cell (p:=⟨d,g,Y⟩) y).trans r;refine callsIn_of_wp Tryz.func165 rfl w ?_ H;simp only[Tryz.ntmps165,List.size_toArray,List.length_cons,List.length_nil,Nat.reduceAdd,Nat.reduceSub,Array.replicate_succ,Array.replicate_zero,List.push_toArray,List.append_toArray,List.nil_append,List.cons_append]
 gi_wp2
 gi_loopw [7] (λi wr=>∃k:Nat,k<=len/\i= .int .i64 k/\a (upto (λj=>c[j]?.getD 0) k) wr)
  (λi _=>len-(intOf i).toNat)
 case atStart=>exact⟨0,Nat.zero_le _,rfl,q⟩
 case round=>
  obtain⟨k,M,rfl,m⟩:=hrel;have G:k<len->wr.cell? ⟨b,off+k,Y⟩=D (.int .i64 (c[k]?.getD 0)):=λh=>((t _ _ m).cell (p:=⟨b,off+k,Y⟩) (C (by omega))).trans (E k h)
  by_cases u:k<len
  ·obtain⟨fn,tmps,assign,body,P,A⟩:=B _ (c[k]?.getD 0) wr m (by rw[arY];exact u);have L:=G u
   gi_wp2
   refine A.mono ?_;rintro e K ⟨rfl,z⟩
   gi_wp2
   go_roundw
   case rel=>exact⟨k+1,by omega,by simp,by rw[arZ];exact z⟩
   case measure=>simp[intOf];omega
  ·obtain rfl:k=len:=by omega
   gi_wp2
   go_end0
   exact⟨⟨_,rfl⟩,m⟩
set_option maxRecDepth 100000 in
set_option maxHeartbeats 1000000 in
def ar1(F:Fence)(n:Nat)(g:F.fn 165)(j:F.round=Y)(l b c:Nat)(a:List Int->World->Prop)(W:World)(p:Option Addr)(cap:Nat)(k:W.cell? ⟨b,c,Y⟩=D (.slice p 0 cap))(f:a [] W):
  CallsIn F n Tryz.prog 165 #[.func (.yield l) #[] #[],.pointer (D ⟨b,c,Y⟩)] W λe d=>(∃v,e= .returned v)/\a [] d:=by
 refine callsIn_of_wp Tryz.func165 rfl g ?_ j;simp only[Tryz.ntmps165,List.size_toArray,List.length_cons,List.length_nil,Nat.reduceAdd,Nat.reduceSub,Array.replicate_succ,Array.replicate_zero,List.push_toArray,List.append_toArray,List.nil_append,List.cons_append]
 gi_wp2
 gi_loopw [7] (λi wr=>i= .int .i64 0/\a [] wr) (λ_ _=>0)
 case atStart=>exact⟨rfl,f⟩
 case round=>
  obtain⟨rfl,h⟩:=hrel
  gi_wp2
  go_end0
  exact⟨⟨_,rfl⟩,h⟩
end
section
open Go.cV Go.RowKit
def asj{F:Fence}{m:Nat}{Q:Program}{l:Nat}{args:Array Value}{W:World}{C S:Ending->World->Prop}(h:YieldAt F m Q l args W C)(b:∀e w,C e w->S e w):YieldAt F m Q l args W S:=by
 obtain⟨fn,tmps,assign,body,c,a⟩:=h;exact⟨fn,tmps,assign,body,c,a.mono b⟩
def P4(w:World)(d g:Nat)(r:d<w.heap.size)(b off cap:Nat)(a:List Int)(B:a.length<=1000000)(q:w.cell? ⟨d,g,Y⟩=D (.slice (D ⟨b,off,Y⟩) a.length cap))
  (k:∀j,j<a.length->b<w.heap.size/\w.cell? ⟨b,off+j,Y⟩=D (.int .i64 (a[j]?.getD 0))):
  Calls Tryz.prog 163 #[.func (.func 165) #[] #[.pointer (D ⟨d,g,Y⟩)]] w λe i=>∃v:Value,e= .returned v/\i.ownsRow w.heap.size 3 1 v a.length (a.map encZ)/\(v= .slice Y 0 0↔a=[])/\Below w.heap.size w i:=by
 refine(callsIn_wide (n:=6)).1 ?_;have h:=I4 Tryz.I2 Fence.wide 6 trivial trivial rfl (by omega) 165 #[.pointer (D ⟨d,g,Y⟩)] trivial (enters_of Tryz.func165 (by kernel_rfl) rfl) (λm=>m=a) a.length (by simp only[maxLen];omega) (by omega) w
  (λl zD fn W u o=>(ar0 Fence.wide 4 trivial rfl (by omega) l d g w.heap.size b off a.length cap a (by omega) (λh=>(k 0 h).1) r w _ (λs W h=>h.below) (λpre x W t z=>asj (u pre x W t z) λe i ⟨f,c,_⟩=>⟨f,c⟩) W q (λj y=>(k j y).2) o).mono λe A ⟨f,c⟩=>⟨f,_,rfl,by rw[arX]at c;exact c⟩)
 refine CallsIn.mono h ?_;rintro e i ⟨v,m,rfl,rfl,f,c,p⟩;exact⟨v,rfl,f,c,p⟩
def I3(w:World)(a b:Nat)(m:a<w.heap.size)(p:Option Addr)(cap:Nat)(k:w.cell? ⟨a,b,Y⟩=D (.slice p 0 cap)):
  Calls Tryz.prog 163 #[.func (.func 165) #[] #[.pointer (D ⟨a,b,Y⟩)]] w λe i=>e= .returned (.slice Y 0 0)/\Below w.heap.size w i:=by
 refine(callsIn_wide (n:=6)).1 ?_;have h:=I4 Tryz.I2 Fence.wide 6 trivial trivial rfl (by omega) 165 #[.pointer (D ⟨a,b,Y⟩)] trivial (enters_of Tryz.func165 (by kernel_rfl) rfl) (λg=>g=[]) 0 (by simp only[maxLen];omega) (by omega) w
  (λl zD fn W q d=>(ar1 Fence.wide 4 trivial rfl l a b _ W p cap ((d.below.cell (p:=⟨a,b,Y⟩) m).trans k) d).mono λe o ⟨f,c⟩=>⟨f,_,rfl,c⟩)
 refine CallsIn.mono h ?_;rintro e i ⟨v,g,rfl,rfl,f,c,j⟩;obtain rfl:=c.2 rfl;exact⟨rfl,j⟩
def xr{f:Nat}{fn:Func}{c:Code}{xs:List Value}{w:World}{next:Value->World->Prop}(a:P.funcs[f]? =D fn)(d:fn.body=D c)(h:Calls P f xs.toArray w λe b=>∃x,e= .returned x/\next x b):kY P (callFunc f xs.toArray) w next:=by
 have i:(fn.name== "runtime.NumGoroutine")=false:=aS.names fn (Array.mem_of_getElem? a);have k:(callFunc f xs.toArray).run P w= .ok (.enter f xs.toArray) w:=by
  unfold callFunc;simp[a,d];intro g;simp[g]at i
 unfold kY;rw[k];simp only
 refine Calls.mono h λe b j=> ?_
 obtain⟨x,rfl,l⟩:=j;exact l
def Ov{ρ:Env}{H:af}{w c:World}(d:Rel ρ H w)(a:Below w.heap.size w c):Step ρ H w ρ H c:=
 ⟨ρ.le_refl,cW _,λ_ _=>rfl,d.zb a.block,a.os,a.tape,a.output,a.size,λb h _=>a.block b h,λ_ h=> .inl h,λ_ _ _ h=>h⟩
def aq8{ρ:Env}{H:af}{w q:World}(m:Rel ρ H w)(x:ρ H.next=Y)(f:Below w.heap.size w q)(loc:Go.cV.Loc)(o:w.heap.size<=loc.block){esz:Nat}{els:List (List aa)}(y:fE (ρ.eC H.next loc) q loc U esz els):
  Step ρ H w (ρ.eC H.next loc) (H.push (.row U esz els)) q:=by
 have hle:=Env.oI x loc;have n:=m.zb f.block;have s:∀l d,H.live l->ρ.eC H.next loc l=D d->d.block<w.heap.size:=λl d h bA=>by
  have k:l≠H.next:=by
   rintro rfl;have:=lP h;omega
  rw[Env.gj k]at bA;exact m.Dt h bA
 refine⟨hle,by simp,λl o=>Env.gj (by simp at o;omega),⟨?_,?_,?_,?_⟩,f.os,f.tape,f.output,f.size,λb h _=>f.block b h,?_,af.Fm rfl⟩
 ·intro l ro v u h;by_cases e:l=H.next
  ·subst e;rw[af.hv]at h;cases h;exact⟨loc,Env.fQ _ _ _,y⟩
  ·rw[af.fL e]at h;obtain⟨d,j,p⟩:=n.row _ _ _ _ h;exact⟨d,hle _ _ j,p.frame hle rfl⟩
 ·intro l es h;by_cases e:l=H.next
  ·subst e;rw[af.hv]at h;cases h
  ·rw[af.fL e]at h;obtain⟨d,j,ents,clock,f,c,a⟩:=n.map _ _ h;exact⟨d,hle _ _ j,ents,clock,f,c.mono hle,a.mono hle⟩
 ·intro l t v u h;by_cases e:l=H.next
  ·subst e;rw[af.hv]at h;cases h
  ·rw[af.fL e]at h;obtain⟨d,j,p⟩:=n.dp _ _ _ _ h;exact⟨d,hle _ _ j,p.frame hle rfl⟩
 ·intro l z B C c a k g i;rcases zB c with rfl|c
  ·rcases zf a with rfl|a
   ·exact absurd rfl k
   ·rw[Env.fQ]at g;obtain rfl:=Option.some.inj g;have:=s _ _ a i;omega
  ·rcases zf a with rfl|a
   ·rw[Env.fQ]at i;obtain rfl:=Option.some.inj i;have:=s _ _ c.live g;omega
   ·have cU:l≠H.next:=by rintro rfl;have:=lP c.live;omega
    have A:z≠H.next:=by rintro rfl;have:=lP a;omega
    rw[Env.gj cU]at g;rw[Env.gj A]at i;exact m.apart _ _ _ _ c a k g i
 ·rintro b ⟨l,d,c,a,r⟩;rcases zB c with rfl|c
  ·rw[Env.fQ]at a;obtain rfl:=Option.some.inj a;exact .inr (r▸o)
  ·have cU:l≠H.next:=by rintro rfl;have:=lP c.live;omega
   rw[Env.gj cU]at a;exact .inl ⟨l,d,c,a,r⟩
def Ow{ρ:Env}{H:af}{w i:World}(j:Rel ρ H w){l:Nat}{esz:Nat}{els p:List (List aa)}(o:H.get l=D (.row U esz els)){loc:Go.cV.Loc}(s:ρ l=D loc)
  (L:i.os=w.os) (P:i.tape=w.tape) (M:i.output=w.output) (O:w.heap.size<=i.heap.size) (y:∀k,k<w.heap.size->k≠loc.block->i.heap[k]? =w.heap[k]?) (N:fE ρ i loc U esz p):
  Step ρ H w ρ (H.set l (.row U esz p)) i:=by
 have u:=af.iT o;have v:∀c d,H.live c->c≠l->ρ c=D d->d.block≠loc.block:=λc d h bA e heq=>
  j.apart l c loc d (.inl ⟨_,_,o⟩) h (Ne.symm bA) s e heq.symm
 have z:∀c,(H.set l (.row U esz p)).rw c->H.rw c:=by
  intro c h;by_cases f:l=c
  ·subst f;exact .inl ⟨_,_,o⟩
  ·simpa [af.rw,af.gm f]using h
 have G:∀c,(H.set l (.row U esz p)).live c->H.live c:=by
  intro c h;by_cases f:l=c
  ·subst f;exact .inl ⟨_,_,_,o⟩
  ·simpa [af.live,af.gm f]using h
 have r:∀c d,H.live c->c≠l->ρ c=D d->i.heap[d.block]? =w.heap[d.block]? :=λc d h bA e=>y _ (j.Dt h e) (v _ _ h bA e)
 refine⟨ρ.le_refl,cW _,λ_ _=>rfl,⟨?_,?_,?_,?_⟩,L,P,M,O,?_,?_,af.Fo rfl⟩
 ·intro c T E C h;by_cases f:l=c
  ·subst f;rw[af.iJ u]at h;cases h;exact⟨loc,s,N⟩
  ·rw[af.gm f]at h;obtain⟨d,g,x⟩:=j.row _ _ _ _ h;exact⟨d,g,x.frame ρ.le_refl (r c d (.inl ⟨_,_,_,h⟩) (Ne.symm f) g)⟩
 ·intro c S h;by_cases f:l=c
  ·subst f;rw[af.iJ u]at h;cases h
  ·rw[af.gm f]at h;obtain⟨d,g,ents,clock,q,m,n⟩:=j.map _ _ h;exact⟨d,g,ents,clock,by rw[r c d (.inr (.inl ⟨_,h⟩)) (Ne.symm f) g];exact q,m,n⟩
 ·intro c t E C h;by_cases f:l=c
  ·subst f;rw[af.iJ u]at h;cases h
  ·rw[af.gm f]at h;obtain⟨d,g,x⟩:=j.dp _ _ _ _ h;exact⟨d,g,x.frame ρ.le_refl (r c d (.inr (.inr ⟨_,_,_,h⟩)) (Ne.symm f) g)⟩
 ·intro a b Q R m n v A B;exact j.apart a b Q R (z _ m) (G _ n) v A B
 ·intro b q K;exact y b q λe=>K ⟨l,loc,.inl ⟨_,_,o⟩,s,e.symm⟩
 ·rintro b ⟨c,d,m,n,F⟩;exact .inl ⟨c,d,z _ m,n,F⟩
def DQ:∀{es:List (List aa)} {xs:List Int},mJ es=D xs->es=xs.map kg
 |[],_,h=>by cases h;rfl
 |e::es,xs,h=>by
  unfold mJ at h;split at h
  ·rename_i heq;cases heq
  ·rename_i n es' heq;cases heq;obtain⟨b,a,rfl⟩:=Option.map_eq_some_iff.1 h;rw[DQ a];rfl
  ·cases h
end
section
open Go.cV Go.RowKit
set_option maxRecDepth 100000
def Jm{ρ:Env}{w:World}{loc:Go.cV.Loc}{ro:Bool}{els:List (List aa)}(h:fE ρ w loc ro 1 els){i:Nat}{n:Int}(d:els[i]? =D (kg n)):w.cell? ⟨loc.block,loc.off+i*loc.esz,Y⟩=D (.int .i64 n):=by
 obtain⟨he,c,t,j,b,-,e⟩:=h;obtain⟨-,a⟩:=e i _ d;obtain⟨-,x,g,f⟩:=a 0 (.int .i64 n) rfl;cases f;rw[he];simp[World.cell?,b];simpa using g
def O_{H:af}{m i n:Nat}{es:List (List aa)}(h:iP H m i n 1=D es):∃els,((∃ro,H.get m=D (.row ro 1 els))\/∃t,H.get m=D (.dp t 1 els))/\es.length=n/\∀j,j<n->els[i+j]? =es[j]? :=by
 unfold iP at h;split at h
 ·rename_i ro esz els b;split at h
  ·rename_i a;obtain⟨rfl,d⟩:=a;cases h;exact⟨els,.inl ⟨ro,b⟩,by simp;omega,λj c=>by rw[List.getElem?_take_of_lt c,List.getElem?_drop]⟩
  ·cases h
 ·rename_i t esz els b;split at h
  ·rename_i a;obtain⟨rfl,d⟩:=a;cases h;exact⟨els,.inr ⟨t,b⟩,by simp;omega,λj c=>by rw[List.getElem?_take_of_lt c,List.getElem?_drop]⟩
  ·cases h
 ·cases h
def Pb{ρ:Env}{H:af}{w:World}(d:Rel ρ H w){m:Nat}{els:List (List aa)}(h:(∃ro,H.get m=D (.row ro 1 els))\/∃t,H.get m=D (.dp t 1 els)){loc:Go.cV.Loc}(e:ρ m=D loc):∃ro,fE ρ w loc ro 1 els/\loc.block<w.heap.size:=by
 rcases h with⟨ro,h⟩|⟨t,h⟩
 ·obtain⟨c,b,a⟩:=d.row _ _ _ _ h;obtain rfl:loc=c:=Option.some.inj (e.symm.trans b);exact⟨ro,a,a.lt⟩
 ·obtain⟨c,b,a⟩:=d.dp _ _ _ _ h;obtain rfl:loc=c:=Option.some.inj (e.symm.trans b);exact⟨U,a.1,a.1.lt⟩
def afJ{w:World}{base:Nat}{v:Value}{xs:List Int}(h:w.ownsRow base 3 1 v xs.length (xs.map encZ))(l:xs≠[]):∃g cap cur,v= .slice (D ⟨g,0,Y⟩) xs.length cap/\base<=g/\w.heap[g]? =D (.cells cur 3 (0,0))/\xs.length<=cap/\cur.size=cap/\∀j (a:j<xs.length),cur[j]? =D (.int .i64 xs[j]):=by
 rcases h.2 with⟨_,b⟩|⟨g,cap,cur,c,d,e,f,m,i,k⟩
 ·exact absurd (List.eq_nil_of_length_eq_zero b) l
 ·refine⟨g,cap,cur,c,d,e,f,by simpa using i,λj a=> ?_⟩;have:(cur.toList.take (xs.length*1))[j]? =(xs.map encZ)[j]? :=by rw[k]
  rw[List.getElem?_take_of_lt (by omega),Array.getElem?_toList]at this;rw[this];simp[a,encZ]
def On{ρ:Env}{l i n e:Nat}{q:Option Nat}{x:Value}(h:bb ρ (.ag l i n e q) x):∃(loc:Go.cV.Loc) (a:Addr) (c:Nat),ρ l=D loc/\loc.esz=e/\n<=c/\(0<c->a=⟨loc.block,loc.off+i*loc.esz,Y⟩)/\x= .slice (D a) n c:=by
 cases h with
 |ag _ _ _ _ loc a c h d f b=>exact⟨loc,a,c,h,rfl,d,λh=>(b h).1,rfl⟩
def Dj(xs:List Int)(n:Nat)(H:af):aa×af:=match xs with
 |[]=>(.ao,H)
 |_=>(.ag H.next 0 n 1 Y,H.push (.row U 1 (xs.map kg)))
def afE{H:af}{l m i n:Nat}{ro:Bool}{q:Option Nat}{es:List (List aa)}{xs:List Int}(ai:H.get l=D (.row ro 1 [[.ag m i n 1 q]]))(he:iP H m i n 1=D es)(ax:mJ es=D xs)(aI:n<=1000000):
  eM az P 163 [.func (.func 165) [] [.ptr l 0 0]] H (Dj xs n H).1 (Dj xs n H).2:=by
 intro ρ w aL p ad Q aJ next K
 cases Q with|cons _ _ _ _ u o=>
 cases u with|func _ _ _ _ _ ae S=>
 cases ae;cases o;cases S with|cons _ _ _ _ M N=>
 cases N;cases M with|ptr _ _ _ loc am=>
 obtain⟨aC,an,L⟩:=p.row _ _ _ _ ai;obtain rfl:loc=aC:=Option.some.inj (am.symm.trans an);have G:=L.lt;obtain⟨aH,c,t,aE,b,-,av⟩:=L;obtain⟨-,o⟩:=av 0 _ rfl;obtain⟨-,x,ay,r⟩:=o 0 _ rfl;obtain⟨els,al,hlen,R⟩:=O_ he;have F:=DQ ax;have s:xs.length=n:=by rw[<-hlen,F];simp
 obtain⟨A,a,f,ap,E,aF,O,rfl⟩:=On r;have C:w.cell? ⟨loc.block,loc.off+0*loc.esz+0,Y⟩=D (.slice (D a) n f):=by
  simp[World.cell?,b];simpa using ay
 cases xs with
 |nil=>
  obtain rfl:n=0:=s.symm;refine xr (c:=aG Tryz.f163) Tryz.func163 (by kernel_rfl) ?_;refine Calls.mono (I3 w loc.block (loc.off+0*loc.esz+0) G (D a) f C) ?_;rintro e aD ⟨rfl,b⟩;exact⟨_,rfl,K _ _ ρ .ao (Ov p b)⟩
 |cons z B=>
  have ah:ρ H.next=none:=ad.new _ (cW _) (by simp[Dj])
  have ar:0<f:=by simp at s;omega
  obtain rfl:=O ar;obtain⟨aK,aw,aq⟩:=Pb p al ap;refine xr (c:=aG Tryz.f163) Tryz.func163 (by kernel_rfl) ?_;refine Calls.mono (P4 w loc.block (loc.off+0*loc.esz+0) G A.block (A.off+i*A.esz) f (z::B) (by omega) (by rw[C,s]) (λj d=>⟨aq,?_⟩)) ?_
  ·have au:els[i+j]? =D (kg ((z::B)[j]'d)):=by
    rw[R j (by omega),F,List.getElem?_map,List.getElem?_eq_getElem d];rfl
   have:=Jm aw au;rw[E,Nat.mul_one]at this;rw[E,Nat.mul_one,Nat.add_assoc,this,List.getElem?_eq_getElem d];rfl
  ·rintro e aD ⟨v,rfl,u,o,b⟩;obtain⟨g,cap,cur,rfl,ak,aj,T,W,ab⟩:=afJ u (by simp);refine⟨_,rfl,K _ _ (ρ.eC H.next ⟨g,0,1,cap⟩) ?_ (aq8 p ah b _ ak ?_)⟩
   ·rw[show n=(z::B).length from s.symm];exact .ag H.next 0 _ Y ⟨g,0,1,cap⟩ _ _ (Env.fQ _ _ _) T (λk h=>by cases h) (λ_=>⟨by simp,by simp⟩)
   ·refine⟨rfl,cur,3,(0,0),aj,⟨W.symm,λ_ aA _ h=>by simp at h⟩,λj e he=> ?_⟩;rw[List.getElem?_map]at he;obtain⟨y,aB,rfl⟩:=Option.map_eq_some_iff.1 he;refine⟨rfl,λk v r=> ?_⟩;rcases k with _|k
    ·cases r;obtain⟨d,rfl⟩:=List.getElem?_eq_some_iff.1 aB;exact⟨rfl,_,by simpa using ab j d,.int _ _⟩
    ·simp[kg]at r
def afF{H:af}{l:Nat}{ro:Bool}(o:H.get l=D (.row ro 1 [[.ao]])):eM az P 163 [.func (.func 165) [] [.ptr l 0 0]] H .ao H:=by
 intro ρ w G d C j E next s
 cases j with|cons _ _ _ _ g a=>
 cases g with|func _ _ _ _ _ n k=>
 cases n;cases a;cases k with|cons _ _ _ _ h i=>
 cases i;cases h with|ptr _ _ _ loc p=>
 obtain⟨z,q,f⟩:=d.row _ _ _ _ o;obtain rfl:loc=z:=Option.some.inj (p.symm.trans q);have r:=f.lt;obtain⟨B,c,t,A,b,-,u⟩:=f;obtain⟨-,a⟩:=u 0 _ rfl;obtain⟨-,x,y,v⟩:=a 0 _ rfl;cases v;have m:w.cell? ⟨loc.block,loc.off+0*loc.esz+0,Y⟩=D (.slice Y 0 0):=by
  simp[World.cell?,b];simpa using y
 refine xr (c:=aG Tryz.f163) Tryz.func163 (by kernel_rfl) ?_;refine Calls.mono (I3 w loc.block (loc.off+0*loc.esz+0) r Y 0 m) ?_;rintro e F ⟨rfl,b⟩;exact⟨_,rfl,s _ _ ρ .ao (Ov d b)⟩
def heap_sorted{w:World}{g off n:Nat}{os:Array Obj}{cur:Array Value}{e:TypeId}{a:Nat×Nat}(d:Array Int)(b:w.heap[g]? =D (.cells cur e a)):
  (Go.Sort.grow (Go.Sort.putRow (Value.int .i64) (Go.Sort.ahead w n) g off d) os).heap[g]? =D (.cells (Go.Sort.putCells (Value.int .i64) off d cur) e a):=by
 have c:g<w.heap.size:=(Array.getElem?_eq_some_iff.1 b).1;rw[Go.Sort.heap_grow_old _ _ (by simpa using c)];simp[Go.Sort.putRow,Go.Sort.mapBlock,Go.Sort.ahead,Array.getElem?_modify,b,Go.Sort.onCells]
def RD{w:World}{g off n k:Nat}{os:Array Obj}(d:Array Int)(a:k<w.heap.size)(b:k≠g):
  (Go.Sort.grow (Go.Sort.putRow (Value.int .i64) (Go.Sort.ahead w n) g off d) os).heap[k]? =w.heap[k]? :=by
 rw[Go.Sort.heap_grow_old _ _ (by simpa using a)];simp[Go.Sort.putRow,Go.Sort.mapBlock,Go.Sort.ahead,Array.getElem?_modify,Ne.symm b]
def afH{H:af}:eM az P 164 [.ao] H (.tuple []) H:=by
 intro ρ w k d h f i next g
 cases f with|cons _ _ _ _ a b=>
 cases a;cases b;refine xr (c:=aG Tryz.f164) Tryz.func164 (by kernel_rfl) ?_;refine Calls.mono (Go.Proofs.AnyM.slices_Sort_int_none Tryz.Ii Y 0 w) ?_;rintro e j ⟨rfl,rfl⟩;exact⟨_,rfl,g _ _ ρ (.tuple [] [] .nil) (Step.refl d)⟩
def afG{H:af}{l n:Nat}{q:Option Nat}{es:List (List aa)}{xs:List Int}(u:H.get l=D (.row U 1 es))(aj:mJ es=D xs)(S:es.length=n)(au:n<=1000000):
  eM az P 164 [.ag l 0 n 1 q] H (.tuple []) (H.set l (.row U 1 ((xs.mergeSort λx y=>decide (x<=y)).map kg))):=by
 intro ρ w ax r ar R av next F
 cases R with|cons _ _ _ _ N g=>
 cases g;obtain⟨loc,a,o,z,B,ap,Q,rfl⟩:=On N;obtain⟨am,W,f⟩:=r.row _ _ _ _ u;obtain rfl:loc=am:=Option.some.inj (z.symm.trans W);have ab:=f.lt;have s:=DQ aj;have K:xs.length=n:=by rw[<-S,s];simp
 refine xr (c:=aG Tryz.f164) Tryz.func164 (by kernel_rfl) ?_;by_cases M:n=0
 ·subst M;refine Calls.mono (Go.Proofs.AnyM.slices_Sort_int_none Tryz.Ii (D a) o w) ?_;rintro e an ⟨rfl,rfl⟩;have ak:xs=[]:=List.eq_nil_of_length_eq_zero K;subst ak;refine⟨_,rfl,F _ _ ρ (.tuple [] [] .nil) (Ow r u z rfl rfl rfl (cW _) (λ_ _ _=>rfl) ?_)⟩;rw[s]at f;simpa using f
 ·have ah:0<o:=by omega
  obtain rfl:=Q ah;obtain⟨aq,c,t,L,m,⟨ai,C⟩,aw⟩:=id f;have A:∀j (b:j<xs.length),c[loc.off+j]? =D (.int .i64 xs[j]):=λj b=>by
   have:=Jm f (i:=j) (n:=xs[j]) (by rw[s];simp[b]);rw[B]at this;simpa [World.cell?,m]using this
  have O:Go.Sort.Holds (Value.int .i64) w loc.block (loc.off+0*loc.esz) xs.toArray:=λj b=>by
   have d:j<xs.length:=by simpa using b
   have g:=A j d;have p:loc.off+j<c.size:=(Array.getElem?_eq_some_iff.1 g).1;refine⟨?_,?_⟩
   ·simp[World.cell?,m,g,d]
   ·have:=C rfl _ p;simp[World.frozen?,m];simpa using this
  have E:=Go.Proofs.AnyM.slices_Sort_int Tryz.Ii loc.block (loc.off+0*loc.esz) o xs w O ab (by omega);rw[K]at E;refine Calls.mono E ?_;rintro e an ⟨rfl,k,os,rfl⟩;refine⟨_,rfl,F _ _ ρ (.tuple [] [] .nil) (Ow r u z rfl rfl rfl (by simp[Go.Sort.grow,Go.Sort.ahead]) (λk T ad=>RD _ T ad) ?_)⟩;refine⟨B,_,t,L,heap_sorted _ m,⟨by simp[Go.Sort.putCells,ai],λh aA ae=>C h aA (by simpa [Go.Sort.putCells]using ae)⟩,λj e he=> ?_⟩;rw[List.getElem?_map]at he;obtain⟨y,al,rfl⟩:=Option.map_eq_some_iff.1 he;refine⟨rfl,λi v G=> ?_⟩;rcases i with _|i
  ·cases G;obtain⟨b,rfl⟩:=List.getElem?_eq_some_iff.1 al;have d:j<xs.length:=by simpa using b
   have p:loc.off+j<c.size:=(Array.getElem?_eq_some_iff.1 (A j d)).1;refine⟨rfl,_,?_,.int _ _⟩;simp[Go.Sort.putCells,p,d]
  ·simp[kg]at G
def mW:aZ az P aY:=by
 intro g args H v H' h;unfold aY at h;split at h
 ·rename_i l;split at h
  ·rename_i ro a;cases h;exact afF a
  ·rename_i ro m i n q a;split at h
   ·rename_i es he;split at h
    ·rename_i xs b;split at h
     ·rename_i d;have:=afE a he b d;cases xs with
      |nil=>cases h;exact this
      |cons z e=>cases h;exact this
     ·cases h
    ·cases h
   ·cases h
  ·cases h
 ·cases h;exact afH
 ·rename_i l n q;split at h
  ·rename_i es a;split at h
   ·rename_i xs b;split at h
    ·rename_i c;cases h;exact afG a b c.1 c.2
    ·cases h
   ·cases h
  ·cases h
 ·cases h
end
section
open Go.cV
set_option maxRecDepth 100000
def Oi(k b dC c cU d a:Nat):bd P k 30 3 [(0,.ag b 0 dC 1 (D dC)),(1,.ag c 0 cU 1 (D cU)),(2,.ag d 0 a 1 (D a))]=D (.ag k 0 3 1 (D 3),.row U 1 [[.ag b 0 dC 1 (D dC)],[.ag c 0 cU 1 (D cU)],[.ag d 0 a 1 (D a)]]):=by kernel_rfl
def Oj(k c dC d cU e a f b:Nat):bd P k 30 4 [(0,.ag c 0 dC 1 (D dC)),(1,.ag d 0 cU 1 (D cU)),(2,.ag e 0 a 1 (D a)),(3,.ag f 0 b 1 (D b))]=D (.ag k 0 4 1 (D 4),.row U 1 [[.ag c 0 dC 1 (D dC)],[.ag d 0 cU 1 (D cU)],[.ag e 0 a 1 (D a)],[.ag f 0 b 1 (D b)]]):=by kernel_rfl
def Ol(k d dC e cU f a g b h c i n5 j n6 l n7:Nat):bd P k 30 8 [(0,.ag d 0 dC 1 (D dC)),(1,.ag e 0 cU 1 (D cU)),(2,.ag f 0 a 1 (D a)),(3,.ag g 0 b 1 (D b)),(4,.ag h 0 c 1 (D c)),(5,.ag i 0 n5 1 (D n5)),(6,.ag j 0 n6 1 (D n6)),(7,.ag l 0 n7 1 (D n7))]=D (.ag k 0 8 1 (D 8),.row U 1 [[.ag d 0 dC 1 (D dC)],[.ag e 0 cU 1 (D cU)],[.ag f 0 a 1 (D a)],[.ag g 0 b 1 (D b)],[.ag h 0 c 1 (D c)],[.ag i 0 n5 1 (D n5)],[.ag j 0 n6 1 (D n6)],[.ag l 0 n7 1 (D n7)]]):=by kernel_rfl
def Oe(k d dC e cU g a h b i c j n5 l n6 m n7 n n8 o n9 f n10:Nat):bd P k 30 11 [(0,.ag d 0 dC 1 (D dC)),(1,.ag e 0 cU 1 (D cU)),(2,.ag g 0 a 1 (D a)),(3,.ag h 0 b 1 (D b)),(4,.ag i 0 c 1 (D c)),(5,.ag j 0 n5 1 (D n5)),(6,.ag l 0 n6 1 (D n6)),(7,.ag m 0 n7 1 (D n7)),(8,.ag n 0 n8 1 (D n8)),(9,.ag o 0 n9 1 (D n9)),(10,.ag f 0 n10 1 (D n10))]=D (.ag k 0 11 1 (D 11),.row U 1 [[.ag d 0 dC 1 (D dC)],[.ag e 0 cU 1 (D cU)],[.ag g 0 a 1 (D a)],[.ag h 0 b 1 (D b)],[.ag i 0 c 1 (D c)],[.ag j 0 n5 1 (D n5)],[.ag l 0 n6 1 (D n6)],[.ag m 0 n7 1 (D n7)],[.ag n 0 n8 1 (D n8)],[.ag o 0 n9 1 (D n9)],[.ag f 0 n10 1 (D n10)]]):=by kernel_rfl
def Of(k d dC e cU i a j b l c m n5 n n6 o n7 p n8 q n9 f n10 g n11 h n12:Nat):bd P k 30 13 [(0,.ag d 0 dC 1 (D dC)),(1,.ag e 0 cU 1 (D cU)),(2,.ag i 0 a 1 (D a)),(3,.ag j 0 b 1 (D b)),(4,.ag l 0 c 1 (D c)),(5,.ag m 0 n5 1 (D n5)),(6,.ag n 0 n6 1 (D n6)),(7,.ag o 0 n7 1 (D n7)),(8,.ag p 0 n8 1 (D n8)),(9,.ag q 0 n9 1 (D n9)),(10,.ag f 0 n10 1 (D n10)),(11,.ag g 0 n11 1 (D n11)),(12,.ag h 0 n12 1 (D n12))]=D (.ag k 0 13 1 (D 13),.row U 1 [[.ag d 0 dC 1 (D dC)],[.ag e 0 cU 1 (D cU)],[.ag i 0 a 1 (D a)],[.ag j 0 b 1 (D b)],[.ag l 0 c 1 (D c)],[.ag m 0 n5 1 (D n5)],[.ag n 0 n6 1 (D n6)],[.ag o 0 n7 1 (D n7)],[.ag p 0 n8 1 (D n8)],[.ag q 0 n9 1 (D n9)],[.ag f 0 n10 1 (D n10)],[.ag g 0 n11 1 (D n11)],[.ag h 0 n12 1 (D n12)]]):=by kernel_rfl
def Og(k d dC e cU n a o b p c q n5 r n6 s n7 t n8 u n9 f n10 g n11 h n12 i n13 j n14 l n15 m n16:Nat):bd P k 30 17 [(0,.ag d 0 dC 1 (D dC)),(1,.ag e 0 cU 1 (D cU)),(2,.ag n 0 a 1 (D a)),(3,.ag o 0 b 1 (D b)),(4,.ag p 0 c 1 (D c)),(5,.ag q 0 n5 1 (D n5)),(6,.ag r 0 n6 1 (D n6)),(7,.ag s 0 n7 1 (D n7)),(8,.ag t 0 n8 1 (D n8)),(9,.ag u 0 n9 1 (D n9)),(10,.ag f 0 n10 1 (D n10)),(11,.ag g 0 n11 1 (D n11)),(12,.ag h 0 n12 1 (D n12)),(13,.ag i 0 n13 1 (D n13)),(14,.ag j 0 n14 1 (D n14)),(15,.ag l 0 n15 1 (D n15)),(16,.ag m 0 n16 1 (D n16))]=D (.ag k 0 17 1 (D 17),.row U 1 [[.ag d 0 dC 1 (D dC)],[.ag e 0 cU 1 (D cU)],[.ag n 0 a 1 (D a)],[.ag o 0 b 1 (D b)],[.ag p 0 c 1 (D c)],[.ag q 0 n5 1 (D n5)],[.ag r 0 n6 1 (D n6)],[.ag s 0 n7 1 (D n7)],[.ag t 0 n8 1 (D n8)],[.ag u 0 n9 1 (D n9)],[.ag f 0 n10 1 (D n10)],[.ag g 0 n11 1 (D n11)],[.ag h 0 n12 1 (D n12)],[.ag i 0 n13 1 (D n13)],[.ag j 0 n14 1 (D n14)],[.ag l 0 n15 1 (D n15)],[.ag m 0 n16 1 (D n16)]]):=by kernel_rfl
def Oh(k d dC e cU o a p b q c r n5 s n6 t n7 u n8 v n9 f n10 g n11 h n12 i n13 j n14 l n15 m n16 n n17:Nat):bd P k 30 18 [(0,.ag d 0 dC 1 (D dC)),(1,.ag e 0 cU 1 (D cU)),(2,.ag o 0 a 1 (D a)),(3,.ag p 0 b 1 (D b)),(4,.ag q 0 c 1 (D c)),(5,.ag r 0 n5 1 (D n5)),(6,.ag s 0 n6 1 (D n6)),(7,.ag t 0 n7 1 (D n7)),(8,.ag u 0 n8 1 (D n8)),(9,.ag v 0 n9 1 (D n9)),(10,.ag f 0 n10 1 (D n10)),(11,.ag g 0 n11 1 (D n11)),(12,.ag h 0 n12 1 (D n12)),(13,.ag i 0 n13 1 (D n13)),(14,.ag j 0 n14 1 (D n14)),(15,.ag l 0 n15 1 (D n15)),(16,.ag m 0 n16 1 (D n16)),(17,.ag n 0 n17 1 (D n17))]=D (.ag k 0 18 1 (D 18),.row U 1 [[.ag d 0 dC 1 (D dC)],[.ag e 0 cU 1 (D cU)],[.ag o 0 a 1 (D a)],[.ag p 0 b 1 (D b)],[.ag q 0 c 1 (D c)],[.ag r 0 n5 1 (D n5)],[.ag s 0 n6 1 (D n6)],[.ag t 0 n7 1 (D n7)],[.ag u 0 n8 1 (D n8)],[.ag v 0 n9 1 (D n9)],[.ag f 0 n10 1 (D n10)],[.ag g 0 n11 1 (D n11)],[.ag h 0 n12 1 (D n12)],[.ag i 0 n13 1 (D n13)],[.ag j 0 n14 1 (D n14)],[.ag l 0 n15 1 (D n15)],[.ag m 0 n16 1 (D n16)],[.ag n 0 n17 1 (D n17)]]):=by kernel_rfl
def Om(k d dC e cU f a g b h c i n5:Nat):bd P k 78 6 [(0,.ag d 0 dC 1 (D dC)),(1,.ag e 0 cU 1 (D cU)),(2,.ag f 0 a 1 (D a)),(3,.ag g 0 b 1 (D b)),(4,.ag h 0 c 1 (D c)),(5,.ag i 0 n5 1 (D n5))]=D (.ag k 0 6 1 (D 6),.row U 1 [[.ag d 0 dC 1 (D dC)],[.ag e 0 cU 1 (D cU)],[.ag f 0 a 1 (D a)],[.ag g 0 b 1 (D b)],[.ag h 0 c 1 (D c)],[.ag i 0 n5 1 (D n5)]]):=by kernel_rfl
def ace{H:af}{l i n e:Nat}{cap:Option Nat}:a6 P H .len [77] [.ag l i n e cap]=D (.int .i64 n):=by kernel_rfl
def afI(z:Int)(c:z<0\/6<=z):∃H',jz (nQ P aY) (.int .i64 z) af.empty=D (.bool V,H'):=by
 have h:W (jz (nQ P aY) (.int .i64 z) af.empty) λr H'=>r= .bool true:=by
  by_cases a:z<0
  ·simp(maxSteps:=20000000)-implicitDefEqProofs(disch:=try exact I7)only[jz,aa.cells,a1,fD,aC,ah,Nat.reduceAdd,Nat.reduceLeDiff,reduceIte,Dc,Dr,Oi,Oj,Ol,Oe,Of,Og,Oh,Om,a,decide_true];exact⟨_,_,rfl,rfl⟩
  ·have b:((6:Nat):Int)<=z:=by omega
   simp(maxSteps:=20000000)-implicitDefEqProofs(disch:=try exact I7)only[jz,aa.cells,a1,fD,aC,ah,Nat.reduceAdd,Nat.reduceLeDiff,reduceIte,Dc,Dr,Oi,Oj,Ol,Oe,Of,Og,Oh,Om,ace,a,b,decide_true,decide_false];exact⟨_,_,rfl,rfl⟩
 obtain⟨v,H',e,rfl⟩:=h;exact⟨H',e⟩
def abG(z:Int):∃H',eM az P 12 [.int .i64 z] af.empty (.bool V) H':=by
 by_cases a:z<0\/6<=z
 ·obtain⟨H',h⟩:=afI z a;exact⟨H',mF (c:=aG Tryz.f12) (M:=0) aS (P_ aS mW) Tryz.func12 (by kernel_rfl) (by kernel_rfl) (by kernel_rfl) (Eq.trans (N7 (nQ P aY) 0 (.int .i64 z) af.empty) h)⟩
 ·have h:z=0\/z=1\/z=2\/z=3\/z=4\/z=5:=by omega
  rcases h with rfl|rfl|rfl|rfl|rfl|rfl
  ·exact⟨_,Ta mW _⟩
  ·exact⟨_,UK mW _⟩
  ·exact⟨_,Wy mW _⟩
  ·exact⟨_,X2 mW _⟩
  ·exact⟨_,Ze mW _⟩
  ·exact⟨_,aaw mW _⟩
end
section
open Go.cV
open Go.ChangeShapes Go.WideShapes Go.ChangeAt Go.RowKit
open Go.ChangeMaps (open_string shut_string)
namespace nP
set_option maxRecDepth 100000 in
def lifted(os:Os)(started:os.Started)(H:Type)(enc:TypeId×Value->H):
  ReturnsInHanded {} Tryz.checked os 12 .any (Rows.emitKnownSpec.pre6 enc Tryz.prog Tryz.f12 Rows.emitKnownRow.domain U) (Rows.emitKnownSpec.post enc Tryz.prog Tryz.f12 U V U U):=by
 refine returnsInHanded_of_change (C:=Tryz.checked) own started (by kernel_rfl) Tryz.func12
  (ChangeSpec.witness6 (enc:=enc) (C:=Tryz.checked) U ⟨#[],#[.int .i64 0],[]⟩ 8 (by kernel_rfl) (by kernel_rfl) (by kernel_rfl) (by kernel_rfl)) ?_
 intro W base args k gs before w d E _;have i:∀(j:Nat) t v,Tryz.f12.params[j]? =D t->args[j]? =D v->Value.okWide Tryz.prog W .any base t v:=w;have o:=d;obtain⟨p,q,m,n,rfl,F,G⟩:=d;have a:DataW.TrodAll enc Tryz.prog W 0 (λ_=>V) V Tryz.f12.params.toList args.toList k p:=m;have f:Tryz.f12.params= #[3]:=by kernel_rfl
 rw[f]at a i;obtain⟨v0,M,d0,A,K,L,B,rfl,rfl,l,y⟩:=trodAll_cons a;obtain⟨rfl,rfl,rfl⟩:=trodAll_nil y;obtain rfl:args= #[v0]:=by cases args;simp_all
 obtain⟨rfl,rfl⟩:=trodVars_none n;obtain⟨a0,u,-,-,w0⟩:=open_int (P:=P) arV (i 0 3 v0 rfl rfl) l;subst u;have r:C4 az P 12 [.int .i64 a0] W:=by obtain⟨H',h⟩:=abG a0;exact abX (.cons _ _ _ _ (.int _ _) .nil) h
 refine(abY (c:=aG Tryz.f12) aS Tryz.func12 (by kernel_rfl) r).mono λe z ⟨he,b⟩=> ?_
 subst he;obtain⟨x,s⟩:=Oz laidOut b (ts:=[3]) (λt g=>by
  simp only[List.mem_cons,List.not_mem_nil,or_false]at g;rcases g with rfl<;>exact⟨by kernel_rfl,of_decide_eq_true (by kernel_rfl)⟩) a
 exact⟨_,rfl,_,_,_,[],x,[],o,trodAll_mk1 (shut_bool (P:=P) arW _),by rw[f];exact s,rfl,b.frame _,λh=>by cases h⟩
def eK{a b:Bool}(h:a=V)(g:b=V):(a&&b)=true:=by rw[h,g];rfl
def R7:(Rows.emitKnownRow.wf (OpenSpec.ofChange Rows.emitKnownSpec))=true:=by kernel_rfl
def R8:(laidOutB Tryz.pinned.checked.prog)=true:=by kernel_rfl
def Si:(mapsRowed Tryz.pinned.checked.prog)=true:=by kernel_rfl
def Su:(Tryz.f12.params.all (Tryz.pinned.checked.prog.readableRec ·))=true:=by kernel_rfl
def Sx:(namedTie Tryz.pinned.checked.prog Rows.emitKnownRow.named Rows.emitKnownSpec.vars)=true:=by kernel_rfl
def Sy:((Rows.emitKnownRow.stops==[]))=true:=by kernel_rfl
def Sz:((Tryz.pinned.checked.prog.stops==[]))=true:=by kernel_rfl
def SA:((Rows.emitKnownRow.knobs==[]))=true:=by kernel_rfl
def SB:((Tryz.pinned.checked.prog.stopKnobs==[]))=true:=by kernel_rfl
def SC:((Rows.emitKnownRow.inPlace==Tryz.pinned.checked.prog.inPlace 12))=true:=by kernel_rfl
def R9:((Rows.emitKnownRow.unfollowed==Tryz.pinned.checked.prog.unfollowed 12))=true:=by kernel_rfl
def R_:((Rows.emitKnownRow.recurses==Tryz.pinned.checked.prog.recurses 12))=true:=by kernel_rfl
def Sa:((Rows.emitKnownRow.named==Tryz.pinned.checked.prog.varsNamed 12))=true:=by kernel_rfl
def Sb:((Rows.emitKnownRow.maps==(Tryz.f12.params.toList++Rows.emitKnownSpec.plain.varTypes Tryz.pinned.checked.prog).any (Tryz.pinned.checked.prog.mapsRec ·)))=true:=by kernel_rfl
def Sc:((Rows.emitKnownRow.ifaces==(Tryz.f12.params.toList++Rows.emitKnownSpec.plain.varTypes Tryz.pinned.checked.prog).any (Tryz.pinned.checked.prog.ifacesRec ·)))=true:=by kernel_rfl
def Sd:((Rows.emitKnownRow.mapsOut==Tryz.pinned.checked.prog.mapsAmong Tryz.f12.resultTypes.toList))=true:=by kernel_rfl
def Se:((Rows.emitKnownRow.loops==(Tryz.f12.params.toList++Rows.emitKnownSpec.plain.varTypes Tryz.pinned.checked.prog).any (Tryz.pinned.checked.prog.loopsFrom ·)))=true:=by kernel_rfl
def Sf:((Rows.emitKnownRow.wideKeys==(Tryz.f12.params.toList++Rows.emitKnownSpec.plain.varTypes Tryz.pinned.checked.prog++Tryz.f12.resultTypes.toList).any (Tryz.pinned.checked.prog.wideKeysFrom ·)))=true:=by kernel_rfl
def Sg:(Rows.emitKnownSpec.vars.all (Tryz.pinned.checked.prog.varReadable ·))=true:=by kernel_rfl
def Sh:(Tryz.f12.resultTypes.all (λt=>Tryz.pinned.checked.prog.readableRec t&&decide (t<Tryz.pinned.checked.prog.types.size)))=true:=by kernel_rfl
def Sj:((Rows.emitKnownRow.ifacesOut==Tryz.f12.resultTypes.toList.any (Tryz.pinned.checked.prog.ifacesRec ·)))=true:=by kernel_rfl
def Sk:((Rows.emitKnownRow.loopsOut==Tryz.f12.resultTypes.toList.any (Tryz.pinned.checked.prog.loopsFrom ·)))=true:=by kernel_rfl
def Sl:((Rows.emitKnownRow.plainKeys==Tryz.pinned.checked.prog.plainKeys))=true:=by kernel_rfl
def Sm:(Rows.emitKnownRow.shortTexts.isNone)=true:=by kernel_rfl
def Sn:(Tryz.pinned.checked.prog.stopsHeard)=true:=by kernel_rfl
def Sp:(Tryz.pinned.checked.prog.mayEnter)=true:=by kernel_rfl
def Sq:((Rows.emitKnownRow.lifted==Tryz.pinned.checked.prog.liftsFinal))=true:=by kernel_rfl
def Sr:((Tryz.pinned.checked.prog.make==D Rows.emitKnownRow.make))=true:=by kernel_rfl
def Ss:((Rows.emitKnownRow.kinds==(if Rows.emitKnownRow.domain.isEmpty then[]else Tryz.f12.params.toList.map λt=>match Tryz.pinned.checked.prog.underlying t with|some (.int k)=>D k|_=>Y)))=true:=by kernel_rfl
def St:((Rows.emitKnownRow.pinned==Rows.emitKnownRow.pinnedBy))=true:=by kernel_rfl
def Sv:((Rows.emitKnownRow.veiled==(Tryz.f12.params.toList++Rows.emitKnownSpec.plain.varTypes Tryz.pinned.checked.prog++Tryz.f12.resultTypes.toList).any (Tryz.pinned.checked.prog.veiledRec ·)))=true:=by kernel_rfl
def Sw:(Rows.emitKnownRow.veiledFits Tryz.pinned.checked.prog Tryz.f12.params.toList (Tryz.f12.params.toList++Rows.emitKnownSpec.plain.varTypes Tryz.pinned.checked.prog++Tryz.f12.resultTypes.toList))=true:=by kernel_rfl
set_option maxRecDepth 100000 in
def R6:joinedFacts Tryz.pinned.checked.prog 12 Tryz.f12 Rows.emitKnownSpec Rows.emitKnownRow=true:=(eK (eK (eK (eK (eK (eK (eK (eK (eK (eK (eK (eK (eK (eK (eK (eK (eK (eK (eK (eK (eK (eK (eK (eK (eK (eK (eK (eK (eK (eK (eK R7 R8) Si) Su) Sx) Sy) Sz) SA) SB) SC) R9) R_) Sa) Sb) Sc) Sd) Se) Sf) Sg) Sh) Sj) Sk) Sl) Sm) Sn) Sp) Sq) Sr) Ss) St) Sv) Sw)
def SE:Tryz.pinned.checked.prog.funcNamed Rows.emitKnownRow.func=D 12:=by kernel_rfl
def SD:Tryz.f12.isInstance Tryz.pinned.checked.prog Rows.emitKnownRow.origin Rows.emitKnownRow.targs:=of_decide_eq_true (by kernel_rfl)
def SF:Tryz.f12.isWrapper Tryz.pinned.checked.prog Rows.emitKnownRow.wrapper Rows.emitKnownRow.mainSum:=by unfold Func.isWrapper;first|(rw[if_pos (by decide+kernel)];kernel_rfl)|(rw[if_neg (by decide+kernel)];exact⟨rfl,rfl⟩)
end nP
theorem emitKnown_holds:Rows.EmitKnownSaid:=
 (OpenClaim.holds_of_wide 12 Tryz.f12 rfl rfl rfl rfl rfl rfl rfl ⟨rfl,rfl,rfl,rfl,rfl⟩ rfl rfl rfl rfl rfl nP.SE Tryz.func12 nP.R6
  nP.SD nP.SF
  (λos started H enc _=>nP.lifted os started H enc):Rows.emitKnownRow.holds Tryz.pinned (OpenSpec.ofChange Rows.emitKnownSpec))
