/-
  Texts of one proof, laid together: Lays Orc Orb Start Rt ShowBack.
-/
import Derived.Shelf.Strings.Builder1
import Derived.Shelf.Strings.Builder2
import Derived.Shelf.Strings.OnBuilder
import Derived.Shelf.Small.Wraps
import Derived.Shelf.Strings.BuilderF
import Derived.Shelf.Strconv.Itoa0
import Derived.Shelf.Strconv.Itoa1
import Derived.Shelf.LaysM
import Derived.Shelf.Strconv.Itoa2
import Derived.Shelf.Strconv.Itoa3
import Derived.Shelf.Strings.Prefix
import Derived.Shelf.Bits.Mul64
import Derived.Shelf.Strings.Repeat
import Derived.Lib.AppendIntMem
import Derived.Test.YtghmbpmaafnodaaDoorCards
import Derived.Test.YtghmbpmaafnodaaDoorTie
import Derived.Deep.DeepHandedRow
import Derived.Lib.LaidTab
import Derived.Stop.LaidErr
import Derived.Test.YtghmbpmaafnodaaDoorMZ
import Derived.Deep.DeepWitnessRowRef
set_option linter.unusedVariables false
set_option linter.unusedSimpArgs false
set_option linter.defProp false
open Option renaming some→D,none→C
open Bool renaming true→X,false→U
namespace Go.Proofs
open Go.Shelf
def Tryd.FU:Go.Shelf.Ren:=⟨λ |169=>32|n=>n,λ |70=>76|9=>9|0=>0|72=>79|37=>77|127=>114|3=>3|5=>5|n=>n,λ |n=>n⟩
def Tryd.FT:Go.Proofs.Lays.n169 Tryd.prog Tryd.FU:={
 mixed:=by kernel_rfl
 f169:=Tryd.func32.trans (congrArg D (by kernel_rfl))
 t0:=Tryd.underlying0
 a0:=Tryd.isAgg0
 z0:=Tryd.sizeOf0
 v0:=Tryd.zeroValue0
 t3:=Tryd.underlying3
 a3:=Tryd.isAgg3
 z3:=Tryd.sizeOf3
 v3:=Tryd.zeroValue3
 t9:=Tryd.underlying9
 a9:=Tryd.isAgg9
 z9:=Tryd.sizeOf9
 v9:=Tryd.zeroValue9
 t37:=Tryd.underlying77
 a37:=Tryd.isAgg77
 z37:=Tryd.sizeOf77
 v37:=Tryd.zeroValue77
 t70:=Tryd.underlying76
 a70:=Tryd.isAgg76
 z70:=Tryd.sizeOf76
 v70:=Tryd.zeroValue76
 t72:=Tryd.underlying79
 a72:=Tryd.isAgg79
 z72:=Tryd.sizeOf79
 v72:=Tryd.zeroValue79
 t127:=Tryd.underlying114
 a127:=Tryd.isAgg114
 z127:=Tryd.sizeOf114
 v127:=Tryd.zeroValue114}
def Tryd.Bj:Builder.Extra Tryd.prog Tryd.FU:={
 sizeBuilder:=by kernel_rfl
 liesBuilder:=by kernel_rfl
 t5:=Tryd.underlying5
 a5:=Tryd.isAgg5
 z5:=Tryd.sizeOf5
 v5:=Tryd.zeroValue5
 infoByte:=by kernel_rfl
 cellsByte:=by kernel_rfl
 sizeByte:=by kernel_rfl
 neB5:=by decide}
def Tryd.zc:Go.Shelf.Ren:=⟨λ |156=>59|165=>75|166=>57|169=>32|240=>80|241=>88|276=>90|277=>98|n=>n,λ |31=>50|9=>9|3=>3|4=>4|0=>0|20=>20|72=>79|76=>107|70=>76|37=>77|75=>106|127=>114|164=>141|5=>5|80=>85|n=>n,λ |n=>n⟩
def Tryd.vM:Go.Proofs.Lays.n156 Tryd.prog Tryd.zc:={
 mixed:=by kernel_rfl
 f156:=Tryd.func59.trans (congrArg D (by kernel_rfl))
 f165:=Tryd.func75.trans (congrArg D (by kernel_rfl))
 f166:=Tryd.func57.trans (congrArg D (by kernel_rfl))
 f169:=Tryd.func32.trans (congrArg D (by kernel_rfl))
 f240:=Tryd.func80.trans (congrArg D (by kernel_rfl))
 f241:=Tryd.func88.trans (congrArg D (by kernel_rfl))
 f276:=Tryd.func90.trans (congrArg D (by kernel_rfl))
 f277:=Tryd.func98.trans (congrArg D (by kernel_rfl))
 t0:=Tryd.underlying0
 a0:=Tryd.isAgg0
 z0:=Tryd.sizeOf0
 v0:=Tryd.zeroValue0
 t3:=Tryd.underlying3
 a3:=Tryd.isAgg3
 z3:=Tryd.sizeOf3
 v3:=Tryd.zeroValue3
 t4:=Tryd.underlying4
 a4:=Tryd.isAgg4
 z4:=Tryd.sizeOf4
 v4:=Tryd.zeroValue4
 t9:=Tryd.underlying9
 a9:=Tryd.isAgg9
 z9:=Tryd.sizeOf9
 v9:=Tryd.zeroValue9
 t20:=Tryd.underlying20
 a20:=Tryd.isAgg20
 z20:=Tryd.sizeOf20
 v20:=Tryd.zeroValue20
 t31:=Tryd.underlying50
 a31:=Tryd.isAgg50
 z31:=Tryd.sizeOf50
 v31:=Tryd.zeroValue50
 t37:=Tryd.underlying77
 a37:=Tryd.isAgg77
 z37:=Tryd.sizeOf77
 v37:=Tryd.zeroValue77
 t70:=Tryd.underlying76
 a70:=Tryd.isAgg76
 z70:=Tryd.sizeOf76
 v70:=Tryd.zeroValue76
 t72:=Tryd.underlying79
 a72:=Tryd.isAgg79
 z72:=Tryd.sizeOf79
 v72:=Tryd.zeroValue79
 t75:=Tryd.underlying106
 a75:=Tryd.isAgg106
 z75:=Tryd.sizeOf106
 v75:=Tryd.zeroValue106
 t76:=Tryd.underlying107
 a76:=Tryd.isAgg107
 z76:=Tryd.sizeOf107
 v76:=Tryd.zeroValue107
 t127:=Tryd.underlying114
 a127:=Tryd.isAgg114
 z127:=Tryd.sizeOf114
 v127:=Tryd.zeroValue114
 t164:=Tryd.underlying141
 a164:=Tryd.isAgg141
 z164:=Tryd.sizeOf141
 v164:=Tryd.zeroValue141}
def Tryd.s_:Builder.Extra Tryd.prog Tryd.zc:={
 sizeBuilder:=by kernel_rfl
 liesBuilder:=by kernel_rfl
 t5:=Tryd.underlying5
 a5:=Tryd.isAgg5
 z5:=Tryd.sizeOf5
 v5:=Tryd.zeroValue5
 infoByte:=by kernel_rfl
 cellsByte:=by kernel_rfl
 sizeByte:=by kernel_rfl
 neB5:=by decide}
def Tryd.OX:Go.Shelf.Ren:=⟨λ |121=>43|214=>72|n=>n,λ |4=>4|9=>9|n=>n,λ |n=>n⟩
def Tryd.OW:Go.Proofs.Lays.n121 Tryd.prog Tryd.OX:={
 mixed:=by kernel_rfl
 f121:=Tryd.func43.trans (congrArg D (by kernel_rfl))
 f214:=Tryd.func72.trans (congrArg D (by kernel_rfl))
 t4:=Tryd.underlying4
 a4:=Tryd.isAgg4
 z4:=Tryd.sizeOf4
 v4:=Tryd.zeroValue4
 t9:=Tryd.underlying9
 a9:=Tryd.isAgg9
 z9:=Tryd.sizeOf9
 v9:=Tryd.zeroValue9}
def Tryd.OZ:Go.Shelf.Ren:=⟨λ |171=>42|243=>71|246=>84|283=>94|284=>95|285=>96|286=>97|129=>100|317=>99|318=>101|319=>102|320=>103|337=>104|338=>105|n=>n,λ |3=>3|9=>9|2=>2|4=>4|171=>144|0=>0|53=>137|37=>77|5=>5|173=>147|212=>151|51=>134|20=>20|213=>152|46=>122|232=>155|233=>156|n=>n,λ |17=>0|18=>2|19=>3|n=>n⟩
def Tryd.OY:Go.Proofs.LaysM.n171 Tryd.prog Tryd.OZ:={
 mixed:=by kernel_rfl
 f129:=Tryd.func100.trans (congrArg D (by kernel_rfl))
 f171:=Tryd.func42.trans (congrArg D (by kernel_rfl))
 f243:=Tryd.func71.trans (congrArg D (by kernel_rfl))
 f246:=Tryd.func84.trans (congrArg D (by kernel_rfl))
 f283:=Tryd.func94.trans (congrArg D (by kernel_rfl))
 f284:=Tryd.func95.trans (congrArg D (by kernel_rfl))
 f285:=Tryd.func96.trans (congrArg D (by kernel_rfl))
 f286:=Tryd.func97.trans (congrArg D (by kernel_rfl))
 f317:=Tryd.func99.trans (congrArg D (by kernel_rfl))
 f318:=Tryd.func101.trans (congrArg D (by kernel_rfl))
 f319:=Tryd.func102.trans (congrArg D (by kernel_rfl))
 f320:=Tryd.func103.trans (congrArg D (by kernel_rfl))
 f337:=Tryd.func104.trans (congrArg D (by kernel_rfl))
 f338:=Tryd.func105.trans (congrArg D (by kernel_rfl))
 t0:=Tryd.underlying0
 a0:=Tryd.isAgg0
 z0:=Tryd.sizeOf0
 v0:=Tryd.zeroValue0
 t2:=Tryd.underlying2
 a2:=Tryd.isAgg2
 z2:=Tryd.sizeOf2
 v2:=Tryd.zeroValue2
 t3:=Tryd.underlying3
 a3:=Tryd.isAgg3
 z3:=Tryd.sizeOf3
 v3:=Tryd.zeroValue3
 t4:=Tryd.underlying4
 a4:=Tryd.isAgg4
 z4:=Tryd.sizeOf4
 v4:=Tryd.zeroValue4
 t5:=Tryd.underlying5
 a5:=Tryd.isAgg5
 z5:=Tryd.sizeOf5
 v5:=Tryd.zeroValue5
 t9:=Tryd.underlying9
 a9:=Tryd.isAgg9
 z9:=Tryd.sizeOf9
 v9:=Tryd.zeroValue9
 t20:=Tryd.underlying20
 a20:=Tryd.isAgg20
 z20:=Tryd.sizeOf20
 v20:=Tryd.zeroValue20
 t37:=Tryd.underlying77
 a37:=Tryd.isAgg77
 z37:=Tryd.sizeOf77
 v37:=Tryd.zeroValue77
 t46:=Tryd.underlying122
 a46:=Tryd.isAgg122
 z46:=Tryd.sizeOf122
 v46:=Tryd.zeroValue122
 t51:=Tryd.underlying134
 a51:=Tryd.isAgg134
 z51:=Tryd.sizeOf134
 v51:=Tryd.zeroValue134
 t53:=Tryd.underlying137
 a53:=Tryd.isAgg137
 z53:=Tryd.sizeOf137
 v53:=Tryd.zeroValue137
 t171:=Tryd.underlying144
 a171:=Tryd.isAgg144
 z171:=Tryd.sizeOf144
 v171:=Tryd.zeroValue144
 t173:=Tryd.underlying147
 a173:=Tryd.isAgg147
 z173:=Tryd.sizeOf147
 v173:=Tryd.zeroValue147
 t212:=Tryd.underlying151
 a212:=Tryd.isAgg151
 z212:=Tryd.sizeOf151
 v212:=Tryd.zeroValue151
 t213:=Tryd.underlying152
 a213:=Tryd.isAgg152
 z213:=Tryd.sizeOf152
 t232:=Tryd.underlying155
 a232:=Tryd.isAgg155
 z232:=Tryd.sizeOf155
 v232:=Tryd.zeroValue155
 t233:=Tryd.underlying156
 a233:=Tryd.isAgg156
 z233:=Tryd.sizeOf156
 v233:=Tryd.zeroValue156
 g17:=by kernel_rfl
 g18:=by kernel_rfl
 g19:=by kernel_rfl
 i0:=by kernel_rfl
 i2:=by kernel_rfl
 i3:=by kernel_rfl
 i4:=by kernel_rfl
 i5:=by kernel_rfl
 i9:=by kernel_rfl
 i20:=by kernel_rfl
 i37:=by kernel_rfl
 i46:=by kernel_rfl
 i51:=by kernel_rfl
 i53:=by kernel_rfl
 i171:=by kernel_rfl
 i173:=by kernel_rfl
 i212:=by kernel_rfl
 i232:=by kernel_rfl
 i233:=by kernel_rfl
 m17:=by kernel_rfl
 m18:=by kernel_rfl
 m19:=by kernel_rfl}
def Tryd.FR:Go.Shelf.Ren:=⟨λ |105=>54|212=>73|99=>74|165=>75|166=>57|170=>76|169=>32|263=>85|264=>86|206=>87|240=>80|241=>88|276=>90|277=>98|n=>n,λ |9=>9|3=>3|4=>4|20=>20|0=>0|46=>122|109=>123|5=>5|72=>79|76=>107|51=>134|146=>135|53=>137|148=>138|70=>76|37=>77|75=>106|127=>114|164=>141|80=>85|n=>n,λ |n=>n⟩
def Tryd.OV:Go.Proofs.Lays.n105 Tryd.prog Tryd.FR:={
 mixed:=by kernel_rfl
 f99:=Tryd.func74.trans (congrArg D (by kernel_rfl))
 f105:=Tryd.func54.trans (congrArg D (by kernel_rfl))
 f165:=Tryd.func75.trans (congrArg D (by kernel_rfl))
 f166:=Tryd.func57.trans (congrArg D (by kernel_rfl))
 f169:=Tryd.func32.trans (congrArg D (by kernel_rfl))
 f170:=Tryd.func76.trans (congrArg D (by kernel_rfl))
 f206:=Tryd.func87.trans (congrArg D (by kernel_rfl))
 f212:=Tryd.func73.trans (congrArg D (by kernel_rfl))
 f240:=Tryd.func80.trans (congrArg D (by kernel_rfl))
 f241:=Tryd.func88.trans (congrArg D (by kernel_rfl))
 f263:=Tryd.func85.trans (congrArg D (by kernel_rfl))
 f264:=Tryd.func86.trans (congrArg D (by kernel_rfl))
 f276:=Tryd.func90.trans (congrArg D (by kernel_rfl))
 f277:=Tryd.func98.trans (congrArg D (by kernel_rfl))
 t0:=Tryd.underlying0
 a0:=Tryd.isAgg0
 z0:=Tryd.sizeOf0
 v0:=Tryd.zeroValue0
 t3:=Tryd.underlying3
 a3:=Tryd.isAgg3
 z3:=Tryd.sizeOf3
 v3:=Tryd.zeroValue3
 t4:=Tryd.underlying4
 a4:=Tryd.isAgg4
 z4:=Tryd.sizeOf4
 v4:=Tryd.zeroValue4
 t5:=Tryd.underlying5
 a5:=Tryd.isAgg5
 z5:=Tryd.sizeOf5
 v5:=Tryd.zeroValue5
 t9:=Tryd.underlying9
 a9:=Tryd.isAgg9
 z9:=Tryd.sizeOf9
 v9:=Tryd.zeroValue9
 t20:=Tryd.underlying20
 a20:=Tryd.isAgg20
 z20:=Tryd.sizeOf20
 v20:=Tryd.zeroValue20
 t37:=Tryd.underlying77
 a37:=Tryd.isAgg77
 z37:=Tryd.sizeOf77
 v37:=Tryd.zeroValue77
 t46:=Tryd.underlying122
 a46:=Tryd.isAgg122
 z46:=Tryd.sizeOf122
 v46:=Tryd.zeroValue122
 t51:=Tryd.underlying134
 a51:=Tryd.isAgg134
 z51:=Tryd.sizeOf134
 v51:=Tryd.zeroValue134
 t53:=Tryd.underlying137
 a53:=Tryd.isAgg137
 z53:=Tryd.sizeOf137
 v53:=Tryd.zeroValue137
 t70:=Tryd.underlying76
 a70:=Tryd.isAgg76
 z70:=Tryd.sizeOf76
 v70:=Tryd.zeroValue76
 t72:=Tryd.underlying79
 a72:=Tryd.isAgg79
 z72:=Tryd.sizeOf79
 v72:=Tryd.zeroValue79
 t75:=Tryd.underlying106
 a75:=Tryd.isAgg106
 z75:=Tryd.sizeOf106
 v75:=Tryd.zeroValue106
 t76:=Tryd.underlying107
 a76:=Tryd.isAgg107
 z76:=Tryd.sizeOf107
 v76:=Tryd.zeroValue107
 t109:=Tryd.underlying123
 a109:=Tryd.isAgg123
 z109:=Tryd.sizeOf123
 v109:=Tryd.zeroValue123
 t127:=Tryd.underlying114
 a127:=Tryd.isAgg114
 z127:=Tryd.sizeOf114
 v127:=Tryd.zeroValue114
 t146:=Tryd.underlying135
 a146:=Tryd.isAgg135
 z146:=Tryd.sizeOf135
 v146:=Tryd.zeroValue135
 t148:=Tryd.underlying138
 a148:=Tryd.isAgg138
 z148:=Tryd.sizeOf138
 v148:=Tryd.zeroValue138
 t164:=Tryd.underlying141
 a164:=Tryd.isAgg141
 z164:=Tryd.sizeOf141
 v164:=Tryd.zeroValue141}
def Tryd.K9:Builder.Extra Tryd.prog Tryd.FR:={
 sizeBuilder:=by kernel_rfl
 liesBuilder:=by kernel_rfl
 t5:=Tryd.underlying5
 a5:=Tryd.isAgg5
 z5:=Tryd.sizeOf5
 v5:=Tryd.zeroValue5
 infoByte:=by kernel_rfl
 cellsByte:=by kernel_rfl
 sizeByte:=by kernel_rfl
 neB5:=by decide}
end Go.Proofs
namespace Go.Proofs.YtghmbpmaafnodaaDoor
section
open Go.bn Go.RowKit
set_option maxRecDepth 100000
def ob{f:Nat}{fn:Func}{c:Code}{xs:List Value}{w:World}{next:Value->World->Prop}(a:P.funcs[f]? =D fn)(i:fn.body=D c)(h:Calls P f xs.toArray w λe d=>∃x,e= .returned x/\next x d):ov P (callFunc f xs.toArray) w next:=by
 have k:(fn.name== "runtime.NumGoroutine")=false:=wA.names fn (Array.mem_of_getElem? a);have m:(callFunc f xs.toArray).run P w= .ok (.enter f xs.toArray) w:=by
  unfold callFunc;simp[a,i];intro j;simp[j]at k
 unfold ov;rw[m];simp only
 refine Calls.mono h λe d l=> ?_
 obtain⟨x,rfl,n⟩:=l;exact n
def AM{ρ:Env}{H:af}{w c:World}(d:Rel ρ H w)(a:Below w.heap.size w c):Step ρ H w ρ H c:=
 ⟨ρ.le_refl,bo _,λ_ _=>rfl,d.OO a.block,a.os,a.tape,a.output,a.size,λb h _=>a.block b h,λ_ h=> .inl h,λ_ _ _ h=>h⟩
def Fs(w:World)(p:Addr)(n k:Nat)(h:k≠p.block):(w.drew.freeze p n).heap[k]? =w.heap[k]? :=by
 unfold World.freeze;split
 ·rfl
 ·simp only[Array.getElem?_modify];rw[if_neg (Ne.symm h)];rfl
def NV(w:World)(p:Addr)(n:Nat):(w.drew.freeze p n).heap.size=w.heap.size/\(w.drew.freeze p n).os=w.os/\(w.drew.freeze p n).tape=w.tape/\(w.drew.freeze p n).output=w.output:=by
 unfold World.freeze;split
 ·exact⟨rfl,rfl,rfl,rfl⟩
 ·exact⟨Array.size_modify ..,rfl,rfl,rfl⟩
def UI{ρ:Env}{H:af}{w:World}(i:Rel ρ H w){m t esz:Nat}{es:List (List aa)}{loc:Go.bn.Loc}(x:H.get m=D (.ck t esz es))(y:ρ m=D loc)(p:Addr)(aF:p.block=loc.block)(n:Nat):Step ρ H w ρ (H.set m .dead) (w.drew.freeze p n):=by
 obtain⟨s1,s2,fX,k5⟩:=NV w p n;have E:=af.a6 x;have z:H.rw m:= .inr (.inr ⟨_,_,_,x⟩);have old:∀k b,(H.set m .dead).get k=D b->b≠ .dead->k≠m/\H.get k=D b:=by
  intro k b h v;by_cases j:m=k
  ·subst j;rw[af.get_set_same E]at h;cases h;exact absurd rfl v
  ·rw[af.get_set_other j]at h;exact⟨Ne.symm j,h⟩
 have A:∀k,(H.set m .dead).rw k->k≠m/\H.rw k:=by
  rintro k (⟨e,s,h⟩|⟨s,h⟩|⟨t,e,s,h⟩)<;>obtain⟨a,b⟩:=old _ _ h (by simp)
  ·exact⟨a,.inl ⟨_,_,b⟩⟩
  ·exact⟨a,.inr (.inl ⟨_,b⟩)⟩
  ·exact⟨a,.inr (.inr ⟨_,_,_,b⟩)⟩
 have K:∀k,(H.set m .dead).live k->k≠m/\H.live k:=by
  rintro k (⟨r,e,s,h⟩|⟨s,h⟩|⟨t,e,s,h⟩)<;>obtain⟨a,b⟩:=old _ _ h (by simp)
  ·exact⟨a,.inl ⟨_,_,_,b⟩⟩
  ·exact⟨a,.inr (.inl ⟨_,b⟩)⟩
  ·exact⟨a,.inr (.inr ⟨_,_,_,b⟩)⟩
 have heap:∀k c,H.live k->k≠m->ρ k=D c->(w.drew.freeze p n).heap[c.block]? =w.heap[c.block]? :=by
  intro k c h j d;refine Fs w p n _ ?_;rw[aF];exactλe=>i.apart m k loc c z h (Ne.symm j) y d e.symm
 refine⟨ρ.le_refl,bo _,λ_ _=>rfl,⟨?_,?_,?_,?_⟩,s2,fX,k5,Nat.le_of_eq s1.symm,?_,?_,?_⟩
 ·intro l ro e s h;obtain⟨a,b⟩:=old _ _ h (by simp);obtain⟨c,d,u⟩:=i.row _ _ _ _ b;exact⟨c,d,u.frame ρ.le_refl (heap l c (.inl ⟨_,_,_,b⟩) a d)⟩
 ·intro l s h;obtain⟨a,b⟩:=old _ _ h (by simp);obtain⟨c,d,ents,clock,bb,L,M⟩:=i.map _ _ b;exact⟨c,d,ents,clock,by rw[heap l c (.inr (.inl ⟨_,b⟩)) a d];exact bb,L,M⟩
 ·intro l t e s h;obtain⟨a,b⟩:=old _ _ h (by simp);obtain⟨c,d,u⟩:=i.ck _ _ _ _ b;exact⟨c,d,u.frame ρ.le_refl (heap l c (.inr (.inr ⟨_,_,_,b⟩)) a d)⟩
 ·intro l l' a b o q F aq aH;exact i.apart l l' a b (A l o).2 (K l' q).2 F aq aH
 ·intro b v G;refine Fs w p n b ?_;rintro rfl;exact G ⟨m,loc,z,y,aF.symm⟩
 ·rintro b ⟨l,c,o,q,B⟩;exact .inl ⟨l,c,(A l o).2,q,B⟩
 ·intro l e s h;exact(old _ _ h (by simp)).2
def bq.Je{ρ:Env}{l i n e:Nat}{cap:Option Nat}{x:Value}(h:bq ρ (.aG l i n e cap) x):∃loc a c,x= .slice (D a) n c/\e=loc.esz/\ρ l=D loc/\n<=c/\(∀k,cap=D k->c=k)/\(0<c->a=⟨loc.block,loc.off+i*loc.esz,C⟩/\loc.off+(i+c)*loc.esz<=loc.size):=by
 cases h with|aG _ _ _ _ loc a c h m j d=>exact⟨loc,a,c,rfl,rfl,h,m,j,d⟩
def gF(s:List UInt8):(⟨s.toArray⟩:ByteArray).data.toList=s:=by simp
def pW(s:List UInt8):(⟨s.toArray⟩:ByteArray).size=s.length:=by simp[ByteArray.size]
def UQ{ρ:Env}{H:af}{w:World}(j:Rel ρ H w)(he:jy.le ρ)(k:H.get 0=D (.row X 1 ld)):Lib.TabIs P w "internal/strconv.uint64pow10" .u64 Lib.pow10Tab:=by
 obtain⟨loc,d,-,c,t,n,a,ar,l⟩:=j.row 0 X 1 ld k;rw[he 0 _ rfl]at d;cases d;have g2:P.globalNamed "internal/strconv.uint64pow10" =D 0:=ah;unfold Lib.TabIs World.var?;rw[g2,Option.bind_some];simp only at a ar;rw[a];have hlen:Lib.pow10Tab.length=20:=rfl;refine congrArg D (Array.ext_getElem? λi=> ?_);by_cases o:i<20
 ·have h:ld[i]? =D [.int .u64 (Lib.pow10Tab[i]'ae)]:=by
   simp[ld,List.getElem?_map,List.getElem?_eq_getElem (show i<Lib.pow10Tab.length by omega)]
  obtain⟨-,q⟩:=l i _ h;obtain⟨-,x,e,m⟩:=q 0 _ rfl;cases m;simp only[Nat.zero_add,Nat.mul_one,Nat.add_zero]at e;rw[e];simp[List.getElem?_eq_getElem (show i<Lib.pow10Tab.length by omega)]
 ·rw[Array.getElem?_eq_none (by have:=ar.1;omega)];symm;refine Array.getElem?_eq_none ?_;simp;omega
def PX{H:af}(n:Int)(d: -9223372036854775808<=n)(h:n<=9223372036854775807)(o:H.get 0=D (.row X 1 ld)):kf jy P 42 [.int .i64 n] H (.str (Lib.itoa n)) H:=by
 intro ρ w xs a m l q next p
 cases l with|cons _ _ _ _ i j=>
 cases i;cases j;refine ob (c:=bI Tryd.f42) Tryd.func42 ah ?_;refine Calls.mono (Any.strconv_Itoa Tryd.OY n d h w (UQ a m.le o)) ?_;rintro e s ⟨rfl,k,os,rfl⟩;exact⟨_,rfl,p _ _ ρ (.str _) (AM a (Lib.below_grow _ _ (bo _) _ _))⟩
def PY{H:af}(b:Bool):kf jy P 43 [.bool b] H (.str (Lib.formatBool b)) H:=by
 intro ρ w xs h k i l next j
 cases i with|cons _ _ _ _ a d=>
 cases a;cases d;refine ob (c:=bI Tryd.f43) Tryd.func43 ah ?_;refine Calls.mono (Any.strconv_FormatBool Tryd.OW b w) ?_;rintro e m ⟨rfl,rfl⟩;exact⟨_,rfl,j _ _ ρ (.str _) (Step.refl h)⟩
def PZ{H:af}(s:List UInt8)(n:Int)(o:0<=n)(p:n<=9223372036854775807)(d:s.length*n.toNat<=140737488355328):kf jy P 54 [.str s,.int .i64 n] H (.str (Lib.repeatL s n.toNat)) H:=by
 intro ρ w xs j q k u next m
 cases k with|cons _ _ _ _ h a=>
 cases a with|cons _ _ _ _ a i=>
 cases h;cases a;cases i;obtain⟨c,rfl⟩:∃c:Nat,n=c:=⟨n.toNat,ae⟩;refine ob (c:=bI Tryd.f54) Tryd.func54 ah ?_;have:=Any.strings_Repeat Tryd.OV Tryd.K9 ⟨s.toArray⟩ c w ae (by rw[pW];simpa using d);rw[gF]at this;refine Calls.mono this ?_;rintro e v ⟨rfl,l⟩;exact⟨_,rfl,m _ _ ρ (.str _) (AM j l)⟩
def Jw:∀{es:List (List aa)} {xs:List (List UInt8)},n_ es=D xs->es=xs.map λs=>[.str s]
 |[],xs,h=>by cases h;rfl
 |e::es,xs,h=>by
  unfold n_ at h;split at h
  ·rename_i a;cases a
  ·rename_i s es' a;cases a;obtain⟨d,c,rfl⟩:=Option.map_eq_some_iff.1 h;rw[Jw c];rfl
  ·cases h
def P1{H:af}(sep:List UInt8):kf jy P 59 [.aA,.str sep] H (.str []) H:=by
 intro ρ w xs i l j m next k
 cases j with|cons _ _ _ _ d a=>
 cases a with|cons _ _ _ _ a h=>
 cases d;cases a;cases h;refine ob (c:=bI Tryd.f59) Tryd.func59 ah ?_;refine Calls.mono (Any.strings_Join_none Tryd.vM Tryd.s_ C 0 ⟨sep.toArray⟩ w) ?_;rintro e n ⟨rfl,rfl⟩;exact⟨_,rfl,k _ _ ρ (.str []) (Step.refl i)⟩
def P0{H:af}{l i n:Nat}{cap:Option Nat}(sep:List UInt8){es:List (List aa)}{xs:List (List UInt8)}(a:fr H l i n 1=D es)(aj:n_ es=D xs)(M:xs.length<=140737488355328)(N:(Lib.join xs sep).length<=140737488355328):kf jy P 59 [.aG l i n 1 cap,.str sep] H (.str (Lib.join xs sep)) H:=by
 intro ρ w av m ap S au next G
 cases S with|cons _ _ _ _ O o=>
 cases o with|cons _ _ _ _ o Q=>
 cases o;cases Q;obtain⟨loc,K,c,rfl,ao,F,ag,an,R⟩:=bq.Je O;have B:=Jw aj;have ai:∃els ro,Go.bn.gD ρ w loc ro 1 els/\i+n<=els.length/\es=(els.drop i).take n:=by
  unfold fr at a;split at a
  ·rename_i ro L els p;split at a
   ·rename_i k;obtain⟨A,bb,d⟩:=m.row _ _ _ _ p;obtain rfl:loc=A:=Option.some.inj (F.symm.trans bb);rw[k.1]at d;exact⟨els,ro,d,k.2,(Option.some.inj a).symm⟩
   ·cases a
  ·rename_i t L els p;split at a
   ·rename_i k;obtain⟨A,bb,d,-⟩:=m.ck _ _ _ _ p;obtain rfl:loc=A:=Option.some.inj (F.symm.trans bb);rw[k.1]at d;exact⟨els,U,d,k.2,(Option.some.inj a).symm⟩
   ·cases a
  ·cases a
 obtain⟨els,ro,z,aq,he⟩:=ai;have u:xs.length=n:=by
  have:=congrArg List.length (he.symm.trans B);simp at this;omega
 refine ob (c:=bI Tryd.f59) Tryd.func59 ah ?_;by_cases V:0<c
 ·obtain⟨rfl,-⟩:=R V;have al:loc.esz=1:=z.1;have q:=Any.strings_Join Tryd.vM Tryd.s_ loc.block (loc.off+i*loc.esz) c (xs.map λs=>⟨s.toArray⟩) ⟨sep.toArray⟩ w ?hcells z.lt (by simpa using M) (by simpa [u]using ag) (by
   rw[List.map_map,gF];have:((λx:ByteArray=>x.data.toList)∘λs:List UInt8=>(⟨s.toArray⟩:ByteArray))=id:=by funext s;simp
   rw[this,List.map_id];exact N)
  case hcells=>
   intro j x E;rw[List.getElem?_map]at E;obtain⟨s,ar,rfl⟩:=Option.map_eq_some_iff.1 E;have W:els[i+j]? =D [.str s]:=by
    have ab:j<n:=by
     rcases Nat.lt_or_ge j xs.length with h|h
     ·omega
     ·rw[List.getElem?_eq_none h]at ar;cases ar
    have:es[j]? =D [.str s]:=by rw[B,List.getElem?_map,ar];rfl
    rw[he,List.getElem?_take_of_lt ab,List.getElem?_drop]at this;exact this
   obtain⟨y,bb,d,-⟩:=z.cell W (j:=0) (v:= .str s) rfl;cases d;rw[<-bb,al]
   congr 2
   omega
  rw[List.map_map,gF,List.length_map,u]at q;have hid:((λx:ByteArray=>x.data.toList)∘λs:List UInt8=>(⟨s.toArray⟩:ByteArray))=id:=by funext s;simp
  rw[hid,List.map_id]at q;refine Calls.mono q ?_;rintro e am ⟨rfl,T⟩;exact⟨_,rfl,G _ _ ρ (.str _) (AM m T)⟩
 ·have ad:n=0:=ae;subst ad;have ak:xs=[]:=List.length_eq_zero_iff.1 u;subst ak;refine Calls.mono (Any.strings_Join_none Tryd.vM Tryd.s_ (D K) c ⟨sep.toArray⟩ w) ?_;rintro e am ⟨rfl,rfl⟩;exact⟨_,rfl,G _ _ ρ (.str _) (Step.refl m)⟩
end
end Go.Proofs.YtghmbpmaafnodaaDoor
namespace Go.Proofs.YtghmbpmaafnodaaDoor
section
open Go.Shelf Go.RowKit
section
variable {P:Program}{ρ:Ren}
set_option maxHeartbeats 1000000 in
set_option maxRecDepth 100000 in
def MZ(L:Lays.n240 P ρ)(l:Builder.X72 P ρ)(b:Nat)(w:World){e:TypeId}{cells:Nat}(m:w.cell? ⟨b,0,C⟩=D (.pointer C))(c:w.shape? b=D (e,cells))(d:0<cells)(i:liesAt P P.depth e (cells/P.cellsOf e) 0 (ρ.t 72) 1=X)(n:w.frozen? ⟨b,0,C⟩=U):
  Calls P (ρ.f 240) #[.pointer (D ⟨b,0,C⟩)] w λe k=>e= .returned (.tuple #[])/\k=w.setCell ⟨b,0,C⟩ (.pointer (D ⟨b,0,C⟩)):=by
 obtain⟨j,a,h⟩:=Option.map_eq_some_iff.1 l.sizeBuilder;have mixed:=L.mixed;have t72:=L.t72;have a72:=L.a72;have z72:=L.z72;have v72:=L.v72;have s:=run_underlying L.t72;have t70:=L.t70;have a70:=L.a70;have z70:=L.z70;have v70:=L.v70;have q:=run_underlying L.t70;have t9:=L.t9;have a9:=L.a9;have z9:=L.z9;have v9:=L.v9;have u:=run_underlying L.t9;have t4:=L.t4;have a4:=L.a4;have z4:=L.z4;have v4:=L.v4;have p:=run_underlying L.t4;have t164:=L.t164;have a164:=L.a164;have z164:=L.z164;have v164:=L.v164;have o:=run_underlying L.t164
 go_enter L.f240,Body.n240_ntmps ρ
 go_wp2
 rw[Lib.run_to_unsafe w ⟨b,0,C⟩ L.t70 L.t164 a (by rw[h];decide) c d];simp only[Result.andThen];rw[Oper.upon_value]
 go_wp2
 rw[run_callFunc_extern L.f276 (by kernel_rfl) (by kernel_rfl) (by kernel_rfl) (e:=Extern.AbiNoEscape.same) (by kernel_rfl)];rw[Lib.run_noEscape];simp only[Result.andThen];rw[Oper.upon_value]
 go_wp2
 rw[Lib.run_from_unsafe w ⟨b,0,C⟩ L.t164 L.t70 a c i];simp only[Result.andThen];rw[Oper.upon_value]
 go_wp2
 go_end0
 exact⟨rfl,rfl⟩
set_option maxHeartbeats 1000000 in
set_option maxRecDepth 100000 in
def UP(L:Lays.n169 P ρ)(a:Builder.Extra P ρ)(b g cap cells:Nat)(l:List UInt8)(w:World)(c:w.cell? ⟨b,1,C⟩=D (.slice (D ⟨g,0,C⟩) l.length cap))(s:l.length<=cap)(i:w.shape? g=D (ρ.t 5,cells))(m:l.length<=cells)(k:l.length<=9223372036854775807)(d:l≠[])
  (h:∀j x,l[j]? =D x->w.cell? ((⟨g,0,C⟩:Addr).add j)=D (.int .u8 x.toNat)):
  Calls P (ρ.f 169) #[.pointer (D ⟨b,0,C⟩)] w λe n=>e= .returned (.string ⟨l.toArray⟩)/\n=w.drew.freeze ⟨g,0,C⟩ l.length:=by
 have u:l.length≠0:=by simpa using d
 have o:w.drew.cell? ⟨b,1,C⟩=D (.slice (D ⟨g,0,C⟩) l.length cap):=c;have p:(Builtin.unsafeSliceData_ #[(ρ.t 37)] (ρ.t 127) #[.slice (D ⟨g,0,C⟩) l.length cap]).run P w.drew= .ok (.pointer (D ⟨g,0,C⟩)) w.drew:=
  Lib.run_unsafeSliceData_row _ _ _ _ _ _ (by omega)
 have q:(Builtin.unsafeString_ #[(ρ.t 127),(ρ.t 3)] (ρ.t 9) #[.pointer (D ⟨g,0,C⟩),.int .i64 l.length]).run P w.drew= .ok (.string ⟨l.toArray⟩) (w.drew.freeze ⟨g,0,C⟩ l.length):=
  Lib.run_unsafeString_row w.drew (ρ.t 127) (ρ.t 3) (ρ.t 9) (ρ.t 5) L.t127 a.cellsByte g cells i l d m k h
 have mixed:=L.mixed;have t72:=L.t72;have a72:=L.a72;have z72:=L.z72;have v72:=L.v72;have E:=run_underlying L.t72;have t70:=L.t70;have a70:=L.a70;have z70:=L.z70;have v70:=L.v70;have B:=run_underlying L.t70;have t37:=L.t37;have a37:=L.a37;have z37:=L.z37;have v37:=L.v37;have z:=run_underlying L.t37;have t127:=L.t127;have a127:=L.a127;have z127:=L.z127;have v127:=L.v127;have v:=run_underlying L.t127;have t3:=L.t3;have a3:=L.a3;have z3:=L.z3;have v3:=L.v3;have y:=run_underlying L.t3;have t9:=L.t9;have a9:=L.a9;have z9:=L.z9;have v9:=L.v9;have F:=run_underlying L.t9;have t5:=a.t5;have a5:=a.a5;have z5:=a.z5;have v5:=a.v5;have A:=run_underlying a.t5
 clear c i h
 go_enter L.f169,Body.n169_ntmps ρ
 go_wp2
 go_region_o
 all_goals (go_wp2;go_ret;exact⟨rfl,rfl⟩)
set_option maxHeartbeats 2000000 in
set_option maxRecDepth 100000 in
def UO(L:Lays.n169 P ρ)(a:Builder.Extra P ρ)(b:Nat)(w:World)(c:w.cell? ⟨b,1,C⟩=D (.slice C 0 0)):
  Calls P (ρ.f 169) #[.pointer (D ⟨b,0,C⟩)] w λe d=>e= .returned (.string ⟨#[]⟩)/\d=w.drew:=by
 have j:=Any.unsafeString_none L a;have h:w.drew.cell? ⟨b,1,C⟩=D (.slice C 0 0):=c;have i:(Builtin.unsafeSliceData_ #[(ρ.t 37)] (ρ.t 127) #[.slice C 0 0]).run P w.drew= .ok (.pointer C) w.drew:=rfl;have mixed:=L.mixed;have t72:=L.t72;have a72:=L.a72;have z72:=L.z72;have v72:=L.v72;have p:=run_underlying L.t72;have t70:=L.t70;have a70:=L.a70;have z70:=L.z70;have v70:=L.v70;have o:=run_underlying L.t70;have t37:=L.t37;have a37:=L.a37;have z37:=L.z37;have v37:=L.v37;have m:=run_underlying L.t37;have t127:=L.t127;have a127:=L.a127;have z127:=L.z127;have v127:=L.v127;have k:=run_underlying L.t127
 have t3:=L.t3;have a3:=L.a3;have z3:=L.z3;have v3:=L.v3;have l:=run_underlying L.t3;have t9:=L.t9;have a9:=L.a9;have z9:=L.z9;have v9:=L.v9;have q:=run_underlying L.t9;have t5:=a.t5;have a5:=a.a5;have z5:=a.z5;have v5:=a.v5;have n:=run_underlying a.t5;clear c
 go_enter L.f169,Body.n169_ntmps ρ
 go_wp2
 go_region_o
 all_goals (go_wp2;go_ret;exact⟨rfl,rfl⟩)
end
open Go.bn
def FV:Lays.n240 Tryd.prog Tryd.zc:={Tryd.vM with}
set_option maxRecDepth 100000
def Pb(k:Nat):liesAt P P.depth 81 (k+1) 0 79 1=true:=by kernel_rfl
def Pa:∀n,2<=n->liesAt P P.depth 81 (n/P.cellsOf 81) 0 79 1=true:=by
 intro n d;have a:P.cellsOf 81=2:=by kernel_rfl
 rw[a];obtain⟨k,c⟩:∃k,n/2=k+1:=⟨n/2-1,by omega⟩;rw[c];exact Pb k
def P2{H:af}{l:Nat}{b:aa}(p:H.get l=D (.ck 81 2 [[.nilPtr,b]]))(N:b.one=X):kf jy P 80 [.ptr l 0 0] H (.tuple []) (H.set l (.ck 81 2 [[.ptr l 0 0,b]])):=by
 intro ρ w xs o O y Q next A
 cases y with|cons _ _ _ _ v x=>
 cases x;cases v with|ptr _ _ _ loc n=>
 obtain⟨F,z,d,c,M,a,R⟩:=o.ck _ _ _ _ p;obtain rfl:loc=F:=Option.some.inj (n.symm.trans z);obtain⟨ag,bb,G,-⟩:=d.cell (i:=0) (j:=0) rfl rfl;obtain⟨av,k,S,-⟩:=d.cell (i:=0) (j:=1) rfl rfl;cases G;have L:loc.esz=2:=d.1;have m:loc.off+0*loc.esz+0=0:=by omega
 have u:loc.off+0*loc.esz+1=1:=by omega
 rw[m]at bb ⊢;rw[u]at k;have B:2<=c.size:=by
  simp only[World.cell?,a]at k;rcases Nat.lt_or_ge 1 c.size with h|h
  ·exact h
  ·rw[Array.getElem?_eq_none h]at k;cases k
 have q:=Bh o (ot:=some 81) (els:=[[.nilPtr,b]]) (i:=0) (c:=0) (e:=[.nilPtr,b]) (cs:=[.ptr l 0 0]) (xs:=[.pointer (D ⟨loc.block,0,C⟩)]) p n rfl (by simp) (by simp[aa.one]) (.cons _ _ _ _ (by rw[show(⟨loc.block,0,C⟩:Addr)=⟨loc.block,loc.off+0*loc.esz+0,C⟩ by rw[m]];exact .ptr l 0 0 loc n) .nil);rw[show loc.off+0*loc.esz+0=0 from m]at q;refine ob (c:=bI Tryd.f80) Tryd.func80 (by kernel_rfl) ?_;refine Calls.mono (MZ FV Tryd.s_.toX72 loc.block w bb (by simp[World.shape?,a]) (by omega) (Pa c.size B) ?_) ?_
 ·obtain⟨-,K,t2,f2,s,E,-⟩:=d;rw[a]at s;cases s;have:=E.2 rfl 0 (by omega);simp only[World.frozen?,a];simpa using this
 ·rintro e T ⟨rfl,rfl⟩;exact⟨_,rfl,A _ _ ρ (.tuple [] [] .nil) q⟩
def P3{H:af}{l:Nat}{b:aa}(o:H.get l=D (.ck 81 2 [[.ptr l 0 0,b]])):kf jy P 80 [.ptr l 0 0] H (.tuple []) H:=by
 intro ρ w xs a B n E next s
 cases n with|cons _ _ _ _ k m=>
 cases m;cases k with|ptr _ _ _ loc d=>
 obtain⟨v,p,u,c,z,A,F⟩:=a.ck _ _ _ _ o;obtain rfl:loc=v:=Option.some.inj (d.symm.trans p);obtain⟨ag,bb,y,-⟩:=u.cell (i:=0) (j:=0) rfl rfl;cases y with|ptr _ _ _ x q=>
 obtain rfl:loc=x:=Option.some.inj (d.symm.trans q);have h:loc.off+0*loc.esz+0=0:=by omega
 rw[h]at bb ⊢;refine ob (c:=bI Tryd.f80) Tryd.func80 (by kernel_rfl) ?_;refine Calls.mono (Any.Builder_copyCheck_used FV Tryd.s_.toX72 loc.block w bb) ?_;rintro e G ⟨rfl,rfl⟩;exact⟨_,rfl,s _ _ ρ (.tuple [] [] .nil) (Step.refl a)⟩
def UH{ρ:Env}{H:af}{w:World}(a:Rel ρ H w):Step ρ H w ρ H w.drew:=
 ⟨ρ.le_refl,bo _,λ_ _=>rfl,a.drew,rfl,rfl,rfl,bo _,λ_ _ _=>rfl,λ_ h=> .inl h,λ_ _ _ h=>h⟩
def PV{H:af}{l:Nat}{a:aa}(p:H.get l=D (.ck 81 2 [[a,.aA]])):kf jy P 32 [.ptr l 0 0] H (.str []) H:=by
 intro ρ w xs d B o E next u
 cases o with|cons _ _ _ _ m n=>
 cases n;cases m with|ptr _ _ _ loc q=>
 obtain⟨x,s,v,c,z,A,F⟩:=d.ck _ _ _ _ p;obtain rfl:loc=x:=Option.some.inj (q.symm.trans s);obtain⟨ag,bb,y,-⟩:=v.cell (i:=0) (j:=1) rfl rfl;cases y;have h:loc.off+0*loc.esz+0=0:=by omega
 have k:loc.off+0*loc.esz+1=1:=by omega
 rw[k]at bb;rw[h];refine ob (c:=bI Tryd.f32) Tryd.func32 (by kernel_rfl) ?_;refine Calls.mono (UO Tryd.FT Tryd.Bj loc.block w bb) ?_;rintro e G ⟨rfl,rfl⟩;exact⟨_,rfl,u _ _ ρ (.str []) (UH d)⟩
def PW{H:af}{l m n:Nat}{a:aa}{cap:Option Nat}{es:List (List aa)}{d:List UInt8}(T:H.get l=D (.ck 81 2 [[a,.aG m 0 n 1 cap]]))(hm:H.get m=D (.ck 5 1 es))(E:(es.drop 0).take n=d.map (λb=>[.int .u8 b.toNat]))(au:0<n)(av:0+n<=es.length)(aw:n<=140737488355328):kf jy P 32 [.ptr l 0 0] H (.str d) (H.set m .dead):=by
 intro ρ w xs s aB R aC next ai
 cases R with|cons _ _ _ _ N O=>
 cases O;cases N with|ptr _ _ _ loc W=>
 obtain⟨al,ab,aj,c,ar,ax,aF⟩:=s.ck _ _ _ _ T;obtain rfl:loc=al:=Option.some.inj (W.symm.trans ab);obtain⟨o,G,z,q,ap,F,aH⟩:=s.ck _ _ _ _ hm;obtain⟨ag,bb,am,-⟩:=aj.cell (i:=0) (j:=1) rfl rfl;have K:loc.off+0*loc.esz+0=0:=by omega
 have L:loc.off+0*loc.esz+1=1:=by omega
 rw[L]at bb;rw[K];obtain⟨ak,an,k,rfl,az,ad,aD,ay,Q⟩:=bq.Je am;obtain rfl:o=ak:=Option.some.inj (G.symm.trans ad);obtain⟨rfl,S⟩:=Q (by omega);have B:o.esz=1:=z.1;have M:o.off+0*o.esz=0:=by omega
 rw[M]at bb;have hlen:d.length=n:=by
  have:=congrArg List.length E;simp at this;omega
 have ah:d≠[]:=by rintro rfl;simp at hlen;omega
 refine ob (c:=bI Tryd.f32) Tryd.func32 (by kernel_rfl) ?_;have aE:o.size=q.size:=by
  obtain⟨-,ao,t2,f2,p,A,-⟩:=z;rw[F]at p;cases p;exact A.1
 have ae:d.length<=q.size:=by
  have aq:(0+k)*o.esz=k:=by rw[B];omega
  rw[aq]at S;omega
 refine Calls.mono (UP Tryd.FT Tryd.Bj loc.block o.block k q.size d w (by rw[hlen];exact bb) (by omega) (by simp[World.shape?,F];rfl) ae (by omega) ah ?_) ?_
 ·intro j x u;have V:j<n:=by
   rcases Nat.lt_or_ge j d.length with h|h
   ·omega
   ·rw[List.getElem?_eq_none h]at u;cases u
  have:((es.drop 0).take n)[j]? =D [.int .u8 x.toNat]:=by rw[E,List.getElem?_map,u];rfl
  rw[List.getElem?_take_of_lt V,List.drop_zero]at this;obtain⟨y,p,A,-⟩:=z.cell this (j:=0) (v:= .int .u8 x.toNat) rfl;cases A;rw[l7,<-p,B]
  congr 2
  omega
 ·rintro e aI ⟨rfl,rfl⟩;exact⟨_,rfl,ai _ _ ρ (.str _) (UI s hm G _ rfl _)⟩
def P4:kN jy P aB:=by
 intro g args H v H' h;unfold aB at h;split at h
 ·split at h
  ·rename_i a;cases h;exact PX _ a.1 a.2.1 a.2.2
  ·cases h
 ·cases h;exact PY _
 ·split at h
  ·rename_i a;cases h;exact PZ _ _ a.1 a.2.1 a.2.2
  ·cases h
 ·cases h;exact P1 _
 ·split at h
  ·rename_i es k;split at h
   ·rename_i xs l;split at h
    ·rename_i a;cases h;exact P0 _ k l a.1 a.2
    ·cases h
   ·cases h
  ·cases h
 ·split at h
  ·rename_i b c;split at h
   ·rename_i a;cases h;exact P2 c a
   ·cases h
  ·rename_i l' b c;split at h
   ·rename_i a;cases h;subst a;exact P3 c
   ·cases h
  ·cases h
 ·split at h
  ·rename_i c;cases h;exact PV c
  ·rename_i c;split at h
   ·rename_i es hm;split at h
    ·rename_i m n;split at h
     ·rename_i a;obtain⟨d,e,rfl,i,j⟩:=a;cases h;exact PW c hm j d e i
     ·cases h
    ·cases h
   ·cases h
  ·cases h
 ·cases h
end
section
open Go.bn
open Go.ChangeShapes Go.WideShapes Go.ChangeAt Go.RowKit
def own:ownKnob Tryd.prog.godebug=none:=by kernel_rfl
def H0:af:=af.empty.push (.row X 1 ld)
def u5{l:Nat}{b:cb}(h:H0.get l=D b):l=0/\b= .row X 1 ld:=by
 unfold H0 at h;rw[af.tH]at h;split at h
 ·rename_i a;exact⟨a,(Option.some.inj h).symm⟩
 ·rw[af.tz]at h;cases h
def o7:Env:=λl=>if l=0 then D ⟨0,0,1,20⟩else C
def Oa:gl.jA H0:=⟨af.bY af.empty (.row X 1 ld)⟩
def T9{W:World}(a:Lib.TabIs Tryd.prog W "internal/strconv.uint64pow10" .u64 Lib.pow10Tab):
  Rel o7 H0 W/\(∀l,¬H0.rw l)/\(∀l,H0.next<=l->o7 l=C)/\jy.le o7:=by
 have g0:Tryd.prog.globalNamed "internal/strconv.uint64pow10" =D 0:=by kernel_rfl
 unfold Lib.TabIs World.var? at a;rw[g0,Option.bind_some]at a;have d:∀l,¬H0.rw l:=by
  rintro l (⟨e,s,h⟩|⟨es,h⟩|⟨t,e,s,h⟩)<;>obtain⟨_,h⟩:=u5 h<;>cases h
 refine⟨⟨?_,?_,?_,λl l' _ _ h=>absurd h (d l)⟩,d,?_,?_⟩
 ·intro l ro esz els h;obtain⟨rfl,h⟩:=u5 h;cases h;split at a
  ·rename_i cs t p m;obtain rfl:=Option.some.inj a;refine⟨_,rfl,rfl,_,_,_,m,⟨by simp;rfl,λh=>(by cases h)⟩,λi e c=> ?_⟩;simp only[ld,List.getElem?_map,Option.map_eq_some_iff]at c;obtain⟨z,o,rfl⟩:=c;refine⟨rfl,λj v k=> ?_⟩;rcases j with _|j
   ·cases k;exact⟨rfl,.int .u64 z,by simp[o],.int _ _⟩
   ·simp at k
  ·cases a
 ·intro l es h;obtain⟨_,h⟩:=u5 h;cases h
 ·intro l t e s h;obtain⟨_,h⟩:=u5 h;cases h
 ·intro l n;have:1<=l:=n;unfold o7;rw[if_neg (by omega)]
 ·intro l loc h;unfold jy at h;split at h
  ·exact h
  ·cases h
def N9:Tryd.prog.globalNamed "internal/strconv.uint64pow10" =D 0:=by kernel_rfl
def Qk:Rows.laid_internal_strconv_uint64pow10 (H:=Unit)=Lib.tabData .u64 Lib.pow10Tab:=by kernel_rfl
def N_:(Tryd.prog.globals[0]?).map (·.type)=D 151:=by kernel_rfl
def MP:Tryd.prog.cellsOf 151=20:=by kernel_rfl
def MO:Tryd.prog.cellsOf 137=1:=by kernel_rfl
def M8{W:World}(h:laidMetH Tryd.prog Rows.showPrintsRow.laid W):Rel o7 H0 W/\(∀l,¬H0.rw l)/\(∀l,H0.next<=l->o7 l=C)/\jy.le o7:=by
 have c:laidMet Tryd.prog [("math/bits.deBruijn32tab",Rows.laid_math_bits_deBruijn32tab),("math/bits.deBruijn64tab",Rows.laid_math_bits_deBruijn64tab),("internal/strconv.uint64pow10",Rows.laid_internal_strconv_uint64pow10)] W:=h;have a:=c.tail.tail;rw[Qk]at a;exact T9 (Lib.tabIs_of_head N9 N_ Tryd.underlying151 Tryd.underlying137 MO MP a)
end
section
open Go.bn
open Go.ChangeShapes Go.WideShapes Go.ChangeAt Go.RowKit
def laidOut:laidOutB Tryd.prog=true:=by kernel_rfl
def VD:P.underlying 3=D (.int .i64):=by kernel_rfl
def Vc:P.underlying 4=D .bool:=by kernel_rfl
def Vd:P.underlying 9=D .string:=by kernel_rfl
end
section
open Go.bn
open Go.ChangeShapes Go.WideShapes Go.ChangeAt Go.RowKit
open Go.ChangeMaps (open_string shut_string)
def zo:DataW Unit->Array Value
 | .agg l=>(l.map λ | .lit (.int k z)=>Value.int k z|_=> .nilIface).toArray
 |_=> #[]
def zb(cs:Array Value):Obj->Obj
 | .cells _ t frozen=> .cells cs t frozen
 |o=>o
noncomputable def za(os:Os):World:=
 let w0:=World.holding Tryd.prog os ⟨#[],#[],[]⟩
 {w0 with heap:=((w0.heap.modify 0 (zb (zo Rows.laid_internal_strconv_uint64pow10))).modify 2 (zb (zo Rows.laid_math_bits_deBruijn32tab))).modify 3 (zb (zo Rows.laid_math_bits_deBruijn64tab))}
namespace I6
set_option maxRecDepth 100000 in
def OT(os:Os):laidMet Tryd.prog Rows.showBackRow.laid ((za os).forCall (λ_ _=>0) ⟨#[],#[.string ⟨#[]⟩],[]⟩).memory:=
 laidMet_of_run' 8 (by kernel_rfl) (by kernel_rfl)
def reads(os:Os){H:Type}(enc:TypeId×Value->H):∃places,DataW.whole enc Tryd.prog ((za os).forCall (λ_ _=>0) ⟨#[],#[.string ⟨#[]⟩],[]⟩).memory Tryd.f4.params.toList Rows.showBackSpec.vars U (#[.string ⟨#[]⟩]:Array Value).toList 8=D ([.lit (.string [])],[],places):=
 ⟨[],by kernel_rfl⟩
set_option maxRecDepth 100000 in
def MY(H:Type)(enc:TypeId×Value->H)(W:World)(base:Nat)(args:Array Value)(k gs:List (DataW H))(before:List MemPlace)
  (o:∀(j:Nat) t v,Tryd.f4.params[j]? =D t->args[j]? =D v->Value.okWide Tryd.prog W .any base t v)
  (l:DataW.Whole enc Tryd.prog Tryd.f4.params.toList Rows.showBackSpec.vars U W args.toList k gs before) (w:laidMetH Tryd.prog Rows.showBackRow.laid W):
  Calls Tryd.prog 4 args W λe d=>∃v,e= .returned v/\Rows.showBackSpec.post enc Tryd.prog Tryd.f4 U X U U W args v d:=by
 obtain⟨s1,s2,fX,k5⟩:=M8 (show laidMetH Tryd.prog Rows.showPrintsRow.laid W from w);have y:=l;obtain⟨p,q,u,x,rfl,L,N⟩:=l;have a:DataW.TrodAll enc Tryd.prog W 0 (λ_=>X) X Tryd.f4.params.toList args.toList k p:=u;have m:Tryd.f4.params= #[9]:=by kernel_rfl
 rw[m]at a o;obtain⟨v0,Q,d0,G,O,hU,K,rfl,rfl,s,F⟩:=trodAll_cons a;obtain⟨rfl,rfl,rfl⟩:=trodAll_nil F;obtain rfl:args= #[v0]:=by cases args;simp_all
 obtain⟨rfl,rfl⟩:=trodVars_none x;obtain⟨a0,B,-,-,w0⟩:=open_string (P:=P) Vd (o 0 9 v0 rfl rfl) s;subst B;have z:Bx jy P 4 [.string a0] W:=by
  obtain⟨_,H',h,rfl,p⟩:=Mu Oa a0.data.toList;exact⟨o7,H0,[.str a0.data.toList],H',s1,s2,fX,k5,p.1,.cons _ _ _ _ (.str _) .nil,MU (c:=bI Tryd.f4) (M:=0) wA (Ni wA P4) Tryd.func4 (by kernel_rfl) (by kernel_rfl) (by kernel_rfl) (Eq.trans (S3 (aI P aB) 0 (.str a0.data.toList) H0) h)⟩
 refine(OU (c:=bI Tryd.f4) wA Tryd.func4 (by kernel_rfl) z).mono λe d ⟨he,i⟩=> ?_
 subst he;obtain⟨E,A⟩:=Kb laidOut i (ts:=[9]) (λt n=>by
  simp only[List.mem_cons,List.not_mem_nil,or_false]at n;rcases n with rfl<;>exact⟨by kernel_rfl,of_decide_eq_true (by kernel_rfl)⟩) a
 exact⟨_,rfl,_,_,_,[],E,[],y,trodAll_mk1 (shut_bool (P:=P) Vc _),by rw[m];exact A,rfl,i.frame _,λh=>by cases h⟩
set_option maxRecDepth 100000 in
def lifted(os:Os)(started:os.Started)(H:Type)(enc:TypeId×Value->H)(F:Stop.Interp):
  ReturnsInHanded {} Tryd.checked os 4 .any ((OpenSpec.ofChange Rows.showBackSpec).preRow enc Tryd.prog Tryd.f4 Rows.showBackRow.domain U Rows.showBackRow.laid) (((OpenSpec.ofChange Rows.showBackSpec).at F).post enc Tryd.prog Tryd.f4 U X U U):=by
 obtain⟨places,i⟩:=reads os enc;refine returnsInHanded_of_row (C:=Tryd.checked) (s:=OpenSpec.ofChange Rows.showBackSpec) own started (by kernel_rfl) Tryd.func4
  (witness_row_atRef (enc:=enc) (C:=Tryd.checked) U (za os) #[.string ⟨#[]⟩] rfl (by kernel_rfl) (by kernel_rfl) (by kernel_rfl)
   (OpenSpec.preRow_of_cond 8 i (by kernel_rfl) (λk e=>by cases e) (by kernel_rfl) (OT os))) ?_
 intro W base args a gs before h d _ _ _ c _ _;exact MY H enc W base args a gs before h d c
def said:Rows.ShowBackSaid:=
 OpenClaim.holds_of_cond 4 Tryd.f4 rfl rfl rfl rfl rfl rfl rfl ⟨rfl,rfl,rfl,rfl,rfl⟩ rfl rfl rfl rfl rfl (by kernel_rfl) Tryd.func4 (by kernel_rfl)
  (of_decide_eq_true (by kernel_rfl)) (by unfold Func.isWrapper;first|(rw[if_pos (by decide+kernel)];kernel_rfl)|(rw[if_neg (by decide+kernel)];exact⟨rfl,rfl⟩))
  (λos started H enc _ F=>by rw[OpenClaim.pre_eq_preRow];exact lifted os started H enc F)
def plain(f:FuncId)(fn:Func)(c:Tryd.pinned.checked.prog.funcNamed "runrig/runriglaw6.ShowBack" =D f)(d:Tryd.pinned.checked.prog.funcs[f]? =D fn):
  U=Tryd.pinned.checked.prog.looks []/\∀(j:Nat) t,fn.params[j]? =D t->Tryd.pinned.checked.prog.wantsStandIn t=false:=by
 obtain rfl:f=4:=Option.some.inj ((show Tryd.prog.funcNamed "runrig/runriglaw6.ShowBack" =D 4 by kernel_rfl).symm.trans c)|>.symm;obtain rfl:fn=Tryd.f4:=(Option.some.inj (Tryd.func4.symm.trans d)).symm;refine⟨by kernel_rfl,λj t a=> ?_⟩;have e:Tryd.f4.params= #[9]:=by kernel_rfl
 rw[e]at a;have a:=Array.mem_of_getElem? a;simp only[List.mem_toArray,List.mem_cons,List.not_mem_nil,or_false]at a;rcases a with rfl
 ·exact(show Tryd.prog.wantsStandIn 9=U by kernel_rfl)
def MM:Rows.ShowBackCardSaid:=
 Claim7.holds_tied_plain_at .later [] _ _ _ _ said (λ_ h=>by cases h) (by kernel_rfl) (λ_ h=>by cases h) showBack_row_tie rfl ⟨rfl,rfl⟩ (by kernel_rfl) rfl plain (by kernel_rfl)
end I6
theorem showBack_holds:Rows.ShowBackCardSaid:=I6.MM
