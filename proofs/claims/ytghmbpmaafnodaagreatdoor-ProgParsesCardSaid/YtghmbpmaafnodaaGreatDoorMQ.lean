/-
  Texts of one proof, laid together: Lays Orc Start Rt ProgParses.
-/
import Derived.Shelf.Small.Strs
import Derived.Shelf.LaysC
import Derived.Shelf.Strconv.AtoiAll
import Derived.Shelf.Strings.Search1
import Derived.Shelf.Strings.Prefix
import Derived.Shelf.Strings.Fields
import Derived.Test.YtghmbpmaafnodaaGreatDoorProg
import Derived.Test.YtghmbpmaafnodaaGreatDoorMD
import Derived.Test.YtghmbpmaafnodaaGreatDoorME
import Derived.Test.YtghmbpmaafnodaaGreatDoorCards
import Derived.Test.YtghmbpmaafnodaaGreatDoorTie
import Derived.Test.YtghmbpmaafnodaaGreatDoorMS
import Derived.ProofKit
import Derived.OpenShut
import Derived.Deep.DeepHandedRow
import Derived.Lib.LaidTab
import Derived.Stop.LaidErr
import Derived.Test.YtghmbpmaafnodaaGreatDoorMY
import Derived.Deep.DeepWitnessRowRef
set_option linter.unusedVariables false
set_option linter.unusedSimpArgs false
namespace Go.Proofs
open Go.Shelf
def Tryz.aaM:Go.Shelf.Ren:=⟨λ |137=>66|217=>93|266=>112|n=>n,λ |9=>9|5=>5|3=>3|n=>n,λ |n=>n⟩
theorem Tryz.afY:Go.Proofs.Lays.n137 Tryz.prog Tryz.aaM:={
 mixed:=by kernel_rfl
 f137:=Tryz.func66.trans (congrArg some (by kernel_rfl))
 f217:=Tryz.func93.trans (congrArg some (by kernel_rfl))
 f266:=Tryz.func112.trans (congrArg some (by kernel_rfl))
 t3:=Tryz.underlying3
 a3:=Tryz.isAgg3
 z3:=Tryz.sizeOf3
 v3:=Tryz.zeroValue3
 t5:=Tryz.underlying5
 a5:=Tryz.isAgg5
 z5:=Tryz.sizeOf5
 v5:=Tryz.zeroValue5
 t9:=Tryz.underlying9
 a9:=Tryz.isAgg9
 z9:=Tryz.sizeOf9
 v9:=Tryz.zeroValue9}
open Go.RowKit in
theorem Tryz.strings_IndexByte(s:ByteArray)(c:Int)(w:World):
 Calls Tryz.prog 66 #[.string s,.int .u8 c] w λe b4=>e= .returned (.int .i64 (Lib.indexByte s.data.toList c.toNat.toUInt8))/\b4=w:=Any.strings_IndexByte Tryz.afY s c w
def Tryz.aah:Go.Shelf.Ren:=⟨λ |172=>99|244=>115|245=>116|247=>130|279=>131|280=>132|281=>133|282=>134|287=>147|316=>148|171=>150|205=>149|321=>159|322=>160|243=>161|246=>164|283=>166|284=>167|285=>168|286=>169|129=>173|317=>172|318=>174|319=>175|320=>176|337=>179|338=>180|n=>n,λ |9=>9|3=>3|75=>126|76=>127|4=>4|5=>5|167=>149|37=>81|0=>0|85=>150|2=>2|168=>152|53=>165|175=>166|46=>168|210=>171|127=>190|145=>193|143=>191|21=>21|171=>201|173=>204|212=>208|51=>158|20=>20|213=>209|232=>215|233=>216|80=>93|n=>n,λ |15=>3|16=>4|17=>5|18=>6|19=>7|n=>n⟩
theorem Tryz.RM:Go.Proofs.LaysC.n172 Tryz.prog Tryz.aah:={
 mixed:=by kernel_rfl
 f129:=Tryz.func173.trans (congrArg some (by kernel_rfl))
 f171:=Tryz.func150.trans (congrArg some (by kernel_rfl))
 f172:=Tryz.func99.trans (congrArg some (by kernel_rfl))
 f205:=Tryz.func149.trans (congrArg some (by kernel_rfl))
 f243:=Tryz.func161.trans (congrArg some (by kernel_rfl))
 f244:=Tryz.func115.trans (congrArg some (by kernel_rfl))
 f245:=Tryz.func116.trans (congrArg some (by kernel_rfl))
 f246:=Tryz.func164.trans (congrArg some (by kernel_rfl))
 f247:=Tryz.func130.trans (congrArg some (by kernel_rfl))
 f279:=Tryz.func131.trans (congrArg some (by kernel_rfl))
 f280:=Tryz.func132.trans (congrArg some (by kernel_rfl))
 f281:=Tryz.func133.trans (congrArg some (by kernel_rfl))
 f282:=Tryz.func134.trans (congrArg some (by kernel_rfl))
 f283:=Tryz.func166.trans (congrArg some (by kernel_rfl))
 f284:=Tryz.func167.trans (congrArg some (by kernel_rfl))
 f285:=Tryz.func168.trans (congrArg some (by kernel_rfl))
 f286:=Tryz.func169.trans (congrArg some (by kernel_rfl))
 f287:=Tryz.func147.trans (congrArg some (by kernel_rfl))
 f316:=Tryz.func148.trans (congrArg some (by kernel_rfl))
 f317:=Tryz.func172.trans (congrArg some (by kernel_rfl))
 f318:=Tryz.func174.trans (congrArg some (by kernel_rfl))
 f319:=Tryz.func175.trans (congrArg some (by kernel_rfl))
 f320:=Tryz.func176.trans (congrArg some (by kernel_rfl))
 f321:=Tryz.func159.trans (congrArg some (by kernel_rfl))
 f322:=Tryz.func160.trans (congrArg some (by kernel_rfl))
 f337:=Tryz.func179.trans (congrArg some (by kernel_rfl))
 f338:=Tryz.func180.trans (congrArg some (by kernel_rfl))
 t0:=Tryz.underlying0
 a0:=Tryz.isAgg0
 z0:=Tryz.sizeOf0
 v0:=Tryz.zeroValue0
 t2:=Tryz.underlying2
 a2:=Tryz.isAgg2
 z2:=Tryz.sizeOf2
 v2:=Tryz.zeroValue2
 t3:=Tryz.underlying3
 a3:=Tryz.isAgg3
 z3:=Tryz.sizeOf3
 v3:=Tryz.zeroValue3
 t4:=Tryz.underlying4
 a4:=Tryz.isAgg4
 z4:=Tryz.sizeOf4
 v4:=Tryz.zeroValue4
 t5:=Tryz.underlying5
 a5:=Tryz.isAgg5
 z5:=Tryz.sizeOf5
 v5:=Tryz.zeroValue5
 t9:=Tryz.underlying9
 a9:=Tryz.isAgg9
 z9:=Tryz.sizeOf9
 v9:=Tryz.zeroValue9
 t20:=Tryz.underlying20
 a20:=Tryz.isAgg20
 z20:=Tryz.sizeOf20
 v20:=Tryz.zeroValue20
 t21:=Tryz.underlying21
 a21:=Tryz.isAgg21
 z21:=Tryz.sizeOf21
 v21:=Tryz.zeroValue21
 t37:=Tryz.underlying81
 a37:=Tryz.isAgg81
 z37:=Tryz.sizeOf81
 v37:=Tryz.zeroValue81
 t46:=Tryz.underlying168
 a46:=Tryz.isAgg168
 z46:=Tryz.sizeOf168
 v46:=Tryz.zeroValue168
 t51:=Tryz.underlying158
 a51:=Tryz.isAgg158
 z51:=Tryz.sizeOf158
 v51:=Tryz.zeroValue158
 t53:=Tryz.underlying165
 a53:=Tryz.isAgg165
 z53:=Tryz.sizeOf165
 v53:=Tryz.zeroValue165
 t75:=Tryz.underlying126
 a75:=Tryz.isAgg126
 z75:=Tryz.sizeOf126
 v75:=Tryz.zeroValue126
 t76:=Tryz.underlying127
 a76:=Tryz.isAgg127
 z76:=Tryz.sizeOf127
 v76:=Tryz.zeroValue127
 t85:=Tryz.underlying150
 a85:=Tryz.isAgg150
 z85:=Tryz.sizeOf150
 v85:=Tryz.zeroValue150
 t127:=Tryz.underlying190
 a127:=Tryz.isAgg190
 z127:=Tryz.sizeOf190
 v127:=Tryz.zeroValue190
 t143:=Tryz.underlying191
 a143:=Tryz.isAgg191
 z143:=Tryz.sizeOf191
 v143:=Tryz.zeroValue191
 t145:=Tryz.underlying193
 a145:=Tryz.isAgg193
 z145:=Tryz.sizeOf193
 v145:=Tryz.zeroValue193
 t167:=Tryz.underlying149
 a167:=Tryz.isAgg149
 z167:=Tryz.sizeOf149
 v167:=Tryz.zeroValue149
 t168:=Tryz.underlying152
 a168:=Tryz.isAgg152
 z168:=Tryz.sizeOf152
 v168:=Tryz.zeroValue152
 t171:=Tryz.underlying201
 a171:=Tryz.isAgg201
 z171:=Tryz.sizeOf201
 v171:=Tryz.zeroValue201
 t173:=Tryz.underlying204
 a173:=Tryz.isAgg204
 z173:=Tryz.sizeOf204
 v173:=Tryz.zeroValue204
 t175:=Tryz.underlying166
 a175:=Tryz.isAgg166
 z175:=Tryz.sizeOf166
 v175:=Tryz.zeroValue166
 t210:=Tryz.underlying171
 a210:=Tryz.isAgg171
 z210:=Tryz.sizeOf171
 v210:=Tryz.zeroValue171
 t212:=Tryz.underlying208
 a212:=Tryz.isAgg208
 z212:=Tryz.sizeOf208
 v212:=Tryz.zeroValue208
 t213:=Tryz.underlying209
 a213:=Tryz.isAgg209
 z213:=Tryz.sizeOf209
 t232:=Tryz.underlying215
 a232:=Tryz.isAgg215
 z232:=Tryz.sizeOf215
 v232:=Tryz.zeroValue215
 t233:=Tryz.underlying216
 a233:=Tryz.isAgg216
 z233:=Tryz.sizeOf216
 v233:=Tryz.zeroValue216
 g15:=by kernel_rfl
 g16:=by kernel_rfl
 g17:=by kernel_rfl
 g18:=by kernel_rfl
 g19:=by kernel_rfl
 t80:=Tryz.underlying93
 a80:=Tryz.isAgg93
 z80:=Tryz.sizeOf93
 v80:=Tryz.zeroValue93
 i0:=by kernel_rfl
 i2:=by kernel_rfl
 i3:=by kernel_rfl
 i4:=by kernel_rfl
 i5:=by kernel_rfl
 i9:=by kernel_rfl
 i20:=by kernel_rfl
 i21:=by kernel_rfl
 i37:=by kernel_rfl
 i46:=by kernel_rfl
 i51:=by kernel_rfl
 i53:=by kernel_rfl
 i75:=by kernel_rfl
 i76:=by kernel_rfl
 i80:=by kernel_rfl
 i85:=by kernel_rfl
 i127:=by kernel_rfl
 i143:=by kernel_rfl
 i145:=by kernel_rfl
 i167:=by kernel_rfl
 i168:=by kernel_rfl
 i171:=by kernel_rfl
 i173:=by kernel_rfl
 i175:=by kernel_rfl
 i210:=by kernel_rfl
 i212:=by kernel_rfl
 i232:=by kernel_rfl
 i233:=by kernel_rfl
 m15:=by kernel_rfl
 m16:=by kernel_rfl
 m17:=by kernel_rfl
 m18:=by kernel_rfl
 m19:=by kernel_rfl
 c0:=by kernel_rfl
 c2:=by kernel_rfl
 c3:=by kernel_rfl
 c4:=by kernel_rfl
 c5:=by kernel_rfl
 c9:=by kernel_rfl
 c20:=by kernel_rfl
 c21:=by kernel_rfl
 c37:=by kernel_rfl
 c46:=by kernel_rfl
 c51:=by kernel_rfl
 c53:=by kernel_rfl
 c75:=by kernel_rfl
 c76:=by kernel_rfl
 c80:=by kernel_rfl
 c85:=by kernel_rfl
 c127:=by kernel_rfl
 c143:=by kernel_rfl
 c145:=by kernel_rfl
 c167:=by kernel_rfl
 c168:=by kernel_rfl
 c171:=by kernel_rfl
 c173:=by kernel_rfl
 c175:=by kernel_rfl
 c210:=by kernel_rfl
 c212:=by kernel_rfl
 c213:=by kernel_rfl
 c232:=by kernel_rfl
 c233:=by kernel_rfl}
open Go.RowKit in
theorem Tryz.strconv_Atoi_ok(s:ByteArray)(amS:s.size<=9223372036854775806)(v:Int)(h:Lib.atoiAll s.data.toList= .ok v)(w:World):
 Calls Tryz.prog 99 #[.string s] w λe b4=>e= .returned (.tuple #[.int .i64 v,.nilIface])/\(b4=w\/ ∃t,b4=Lib.bytesWorld w 5 t):=Any.strconv_Atoi_ok Tryz.RM s amS v h w
open Go.RowKit in
theorem Tryz.strconv_Atoi_range(s:ByteArray)(amM:s.size<=281474976710656)(h:Lib.atoiAll s.data.toList= .range)(ev:Value)(w:World)(bA:w.cell? ⟨4,0,none⟩=some ev)(pb:ev= .nilIface\/ ∃N_ N7,ev= .iface N_ N7):
 Calls Tryz.prog 99 #[.string s] w λe b4=> ∃N,e= .returned (.tuple #[.int .i64 (Lib.atoiSat s.data.toList),.iface 152 (.pointer (some ⟨N,0,none⟩))])/\w.heap.size<=N/\b4.heap[N]? =some (.cells #[.string ⟨#[65,116,111,105]⟩,.string s,ev] 171 (0,0))/\Below w.heap.size w b4:=Any.strconv_Atoi_range Tryz.RM s amM h ev w bA pb
def Tryz.aaN:Go.Shelf.Ren:=⟨λ |157=>100|229=>117|199=>118|261=>135|311=>151|312=>152|n=>n,λ |9=>9|31=>48|3=>3|5=>5|4=>4|119=>139|0=>0|40=>141|152=>155|21=>21|154=>157|51=>158|141=>160|196=>176|193=>173|198=>179|49=>177|194=>174|201=>182|226=>194|46=>168|227=>195|n=>n,λ |0=>0|6=>2|n=>n⟩
theorem Tryz.Td:Go.Proofs.Lays.n157 Tryz.prog Tryz.aaN:={
 mixed:=by kernel_rfl
 f157:=Tryz.func100.trans (congrArg some (by kernel_rfl))
 f199:=Tryz.func118.trans (congrArg some (by kernel_rfl))
 f229:=Tryz.func117.trans (congrArg some (by kernel_rfl))
 f261:=Tryz.func135.trans (congrArg some (by kernel_rfl))
 f311:=Tryz.func151.trans (congrArg some (by kernel_rfl))
 f312:=Tryz.func152.trans (congrArg some (by kernel_rfl))
 t0:=Tryz.underlying0
 a0:=Tryz.isAgg0
 z0:=Tryz.sizeOf0
 v0:=Tryz.zeroValue0
 t3:=Tryz.underlying3
 a3:=Tryz.isAgg3
 z3:=Tryz.sizeOf3
 v3:=Tryz.zeroValue3
 t4:=Tryz.underlying4
 a4:=Tryz.isAgg4
 z4:=Tryz.sizeOf4
 v4:=Tryz.zeroValue4
 t5:=Tryz.underlying5
 a5:=Tryz.isAgg5
 z5:=Tryz.sizeOf5
 v5:=Tryz.zeroValue5
 t9:=Tryz.underlying9
 a9:=Tryz.isAgg9
 z9:=Tryz.sizeOf9
 v9:=Tryz.zeroValue9
 t21:=Tryz.underlying21
 a21:=Tryz.isAgg21
 z21:=Tryz.sizeOf21
 v21:=Tryz.zeroValue21
 t31:=Tryz.underlying48
 a31:=Tryz.isAgg48
 z31:=Tryz.sizeOf48
 v31:=Tryz.zeroValue48
 t40:=Tryz.underlying141
 a40:=Tryz.isAgg141
 z40:=Tryz.sizeOf141
 v40:=Tryz.zeroValue141
 t46:=Tryz.underlying168
 a46:=Tryz.isAgg168
 z46:=Tryz.sizeOf168
 v46:=Tryz.zeroValue168
 t49:=Tryz.underlying177
 a49:=Tryz.isAgg177
 z49:=Tryz.sizeOf177
 v49:=Tryz.zeroValue177
 t51:=Tryz.underlying158
 a51:=Tryz.isAgg158
 z51:=Tryz.sizeOf158
 v51:=Tryz.zeroValue158
 t119:=Tryz.underlying139
 a119:=Tryz.isAgg139
 z119:=Tryz.sizeOf139
 t141:=Tryz.underlying160
 a141:=Tryz.isAgg160
 z141:=Tryz.sizeOf160
 v141:=Tryz.zeroValue160
 t152:=Tryz.underlying155
 a152:=Tryz.isAgg155
 z152:=Tryz.sizeOf155
 v152:=Tryz.zeroValue155
 t154:=Tryz.underlying157
 a154:=Tryz.isAgg157
 z154:=Tryz.sizeOf157
 v154:=Tryz.zeroValue157
 t193:=Tryz.underlying173
 a193:=Tryz.isAgg173
 z193:=Tryz.sizeOf173
 v193:=Tryz.zeroValue173
 t194:=Tryz.underlying174
 a194:=Tryz.isAgg174
 z194:=Tryz.sizeOf174
 v194:=Tryz.zeroValue174
 t196:=Tryz.underlying176
 a196:=Tryz.isAgg176
 z196:=Tryz.sizeOf176
 v196:=Tryz.zeroValue176
 t198:=Tryz.underlying179
 a198:=Tryz.isAgg179
 z198:=Tryz.sizeOf179
 v198:=Tryz.zeroValue179
 t201:=Tryz.underlying182
 a201:=Tryz.isAgg182
 z201:=Tryz.sizeOf182
 v201:=Tryz.zeroValue182
 t226:=Tryz.underlying194
 a226:=Tryz.isAgg194
 z226:=Tryz.sizeOf194
 v226:=Tryz.zeroValue194
 t227:=Tryz.underlying195
 a227:=Tryz.isAgg195
 z227:=Tryz.sizeOf195
 v227:=Tryz.zeroValue195
 g0:=by kernel_rfl
 g6:=by kernel_rfl}
open Go.RowKit Go.Lib in
theorem Tryz.strings_Fields(s:ByteArray)(w:World)(aM:s.size<4294967281)(ahs: ∀(j:Nat) b,s.data.toList[j]? =some b->b.toNat<128)(am3:Lib.TabIs Tryz.prog w "strings.asciiSpace" .u8 Lib.asciiSpaceTab):
 Calls Tryz.prog 100 #[.string s] w λe b4=>
  e= .returned (.slice (some ⟨w.heap.size,0,none⟩) (Lib.fields s.data.toList).length (Lib.fields s.data.toList).length)/\b4=w.alloc (.cells ((Lib.fields s.data.toList).map λl=>Value.string ⟨l.toArray⟩).toArray 9):=Any.strings_Fields Tryz.Td (by kernel_rfl) (by kernel_rfl) s w aM ahs am3
end Go.Proofs
namespace Go.Proofs.YtghmbpmaafnodaaGreatDoor
section
open Go.gd Go.RowKit
set_option maxRecDepth 100000
theorem GR{f:Nat}{fn:Func}{c:Code}{xs:List Value}{w:World}{next:Value->World->Prop}(jr:P.funcs[f]? =some fn)(aS:fn.body=some c)(h:Calls P f xs.toArray w λe b4=> ∃x,e= .returned x/\next x b4):zT P (callFunc f xs.toArray) w next:=by
 have zJ:(fn.name== "runtime.NumGoroutine")=false:=GZ.names fn (Array.mem_of_getElem? jr);have oy:(callFunc f xs.toArray).run P w= .ok (.enter f xs.toArray) w:=by
  unfold callFunc;simp[jr,aS];intro b0;simp[b0] at zJ
 unfold zT;rw[oy];simp only
 refine Calls.mono h λe b4 a8=> ?_
 obtain⟨x,rfl,ag⟩:=a8;exact ag
theorem acI{ρ:Env}{H:J}{w b4:World}(ce:Rel ρ H w)(ax:Below w.heap.size w b4):Step ρ H w ρ H b4:=
 ⟨ρ.le_refl,bN _,λ_ _=>rfl,ce.Tc ax.block,ax.os,ax.tape,ax.output,ax.size,λb h _=>ax.block b h,λ_ h=> .inl h,λ_ _ _ h=>h⟩
theorem yO{H:J}{l:Nat}{b:dY}(h:(H.push .dead).get l=some b)(ax:b≠ .dead):l≠H.next/\H.get l=some b:=by
 rw[J.yP] at h;split at h
 ·cases h;exact absurd rfl ax
 ·rename_i dM;exact⟨dM,h⟩
theorem aeG{ρ:Env}{H:J}{w b4:World}(ce:Rel ρ H w)(al:ρ H.next=none)(ax:Below w.heap.size w b4)(loc:Go.gd.Loc):Step ρ H w (ρ.iL H.next loc) (H.push .dead) b4:=by
 have hle:=Env.BS al loc;have lm:=ce.Tc ax.block;have j8: ∀l,(H.push .dead).rw l->l≠H.next/\H.rw l:=by
  rintro l (⟨e,s,aZ⟩|⟨es,aZ⟩)
  ·obtain⟨a,b⟩:=yO aZ (by simp);exact⟨a,.inl ⟨e,s,b⟩⟩
  ·obtain⟨a,b⟩:=yO aZ (by simp);exact⟨a,.inr ⟨es,b⟩⟩
 have fC: ∀l,(H.push .dead).live l->l≠H.next/\H.live l:=by
  rintro l (⟨r,e,s,aZ⟩|⟨es,aZ⟩)
  ·obtain⟨a,b⟩:=yO aZ (by simp);exact⟨a,.inl ⟨r,e,s,b⟩⟩
  ·obtain⟨a,b⟩:=yO aZ (by simp);exact⟨a,.inr ⟨es,b⟩⟩
 refine⟨hle,by simp,λl az=>Env.mb (by simp at az;omega),⟨?_,?_,?_⟩,ax.os,ax.tape,ax.output,ax.size,λb h _=>ax.block b h,?_,?_⟩
 ·intro l ro esz els h;obtain⟨dM,aZ⟩:=yO h (by simp);obtain⟨dz,U,aa⟩:=lm.row l ro esz els aZ;exact⟨dz,hle _ _ U,aa.mono hle⟩
 ·intro l es h;obtain⟨dM,aZ⟩:=yO h (by simp);obtain⟨dz,U,ents,clock,aa,ae,am⟩:=lm.map l es aZ;exact⟨dz,hle _ _ U,ents,clock,aa,ae.mono hle,am.mono hle⟩
 ·intro l l' a b U aa dM aI bc;obtain⟨fB,gm⟩:=j8 l U;obtain⟨n2,e0⟩:=fC l' aa;rw[Env.mb fB] at aI;rw[Env.mb n2] at bc;exact lm.apart l l' a b gm e0 dM aI bc
 ·rintro b ⟨l,dz,U,aa,ae⟩;obtain⟨fB,gm⟩:=j8 l U;rw[Env.mb fB] at aa;exact .inl ⟨l,dz,gm,aa,ae⟩
 ·intro l esz els h;exact(yO h (by simp)).2
theorem akG{H:J}(s:List UInt8)(c:Int):wP uW P 66 [.str s,.int .u8 c] H (.int .i64 (Lib.indexByte s c.toNat.toUInt8)) H:=by
 intro ρ w xs ce al oT aU next rN
 cases oT with|cons _ _ _ _ U aa=>
 cases aa with|cons _ _ _ _ aa ae=>
 cases U;cases aa;cases ae;refine GR (c:=c6 Tryz.f66) Tryz.func66 ad ?_;refine Calls.mono (Tryz.strings_IndexByte ⟨s.toArray⟩ c w) ?_;rintro e b4 ⟨rfl,rfl⟩;have bd:(⟨s.toArray⟩:ByteArray).data.toList=s:=by simp
 rw[bd];exact⟨_,rfl,rN _ _ ρ (.int _ _) (Step.refl ce)⟩
theorem af5{H:J}(s:List UInt8)(aM:s.length<=281474976710656)(v:Int)(bA:Lib.atoiAll s= .ok v):wP uW P 99 [.str s] H (.tuple [.int .i64 v,.nilIface]) H:=by
 intro ρ w xs ce al oT aU next rN
 cases oT with|cons _ _ _ _ U aa=>
 cases U;cases aa;have bd:(⟨s.toArray⟩:ByteArray).data.toList=s:=by simp
 have cn:(⟨s.toArray⟩:ByteArray).size=s.length:=by simp[ByteArray.size]
 refine GR (c:=c6 Tryz.f99) Tryz.func99 ad ?_;refine Calls.mono (Tryz.strconv_Atoi_ok ⟨s.toArray⟩ (by rw[cn];omega) v (by rw[bd];exact bA) w) ?_;rintro e b4 ⟨rfl,hw⟩;have ax:Below w.heap.size w b4:=by
  rcases hw with rfl|⟨t,rfl⟩
  ·exact Below.refl _ _
  ·exact⟨rfl,rfl,rfl,by rw[Lib.bytesWorld_size];omega,λj bH=>Lib.bytesWorld_at_old w 5 t j bH⟩
 exact⟨_,rfl,rN _ _ ρ (.tuple [_,_] [_,_] (.cons _ _ _ _ (.int _ _) (.cons _ _ _ _ .nilIface .nil))) (acI ce ax)⟩
theorem VL{ρ:Env}{n m:Nat}(al:ol uW ρ n m):ρ 0=some ⟨0,0,1,256⟩/\ρ 1=some ⟨4,0,1,1⟩:=⟨al.le 0 _ rfl,al.le 1 _ rfl⟩
theorem abJ{H:J}(s:List UInt8)(aM:s.length<=281474976710656)(aZ:H.get 1=some (.row true 1 xW))(bA:Lib.atoiAll s= .range):wP uW P 99 [.str s] H (.tuple [.int .i64 (Lib.atoiSat s),.iface 152 (.ptr H.next 0 0)]) (H.push .dead):=by
 intro ρ w xs ce al oT aU next rN
 cases oT with|cons _ _ _ _ U aa=>
 cases U;cases aa;have bd:(⟨s.toArray⟩:ByteArray).data.toList=s:=by simp
 have cn:(⟨s.toArray⟩:ByteArray).size=s.length:=by simp[ByteArray.size]
 obtain⟨loc,az,-,c,t,ie,aS,-,a8⟩:=ce.row 1 true 1 xW aZ;rw[(VL al).2] at az;cases az;obtain⟨-,cu⟩:=a8 0 _ rfl;obtain⟨-,x,ag,Nk⟩:=cu 0 _ rfl;have pb: ∃N_ N7,x= .iface N_ N7:=by cases Nk;exact⟨_,_,rfl⟩
 have Lz:w.cell? ⟨4,0,none⟩=some x:=by
  simp[World.cell?,aS];simpa using ag
 refine GR (c:=c6 Tryz.f99) Tryz.func99 ad ?_;refine Calls.mono (Tryz.strconv_Atoi_range ⟨s.toArray⟩ (by rw[cn];omega) (by rw[bd];exact bA) x w Lz (.inr pb)) ?_;rintro e b4 ⟨N,rfl,U,aa,ax⟩;have CV:ρ H.next=none:=al.new _ (bN _) (by simp)
 refine⟨_,rfl,rN _ _ (ρ.iL H.next ⟨N,0,1,1⟩) (.tuple [_,_] [_,_] (.cons _ _ _ _ (by rw[bd];exact .int _ _) (.cons _ _ _ _ (.iface _ _ _ ?_) .nil))) (aeG ce CV ax _)⟩;exact .ptr H.next 0 0 ⟨N,0,1,1⟩ (Env.nq _ _ _)
theorem ahg(c:Nat)(aS:c<256):sZ[c]? =some [.int .u8 (if Lib.isSp (UInt8.ofNat c) then 1 else 0)]:=by
 simp[sZ,Lib.asciiSpaceTab,aS]
theorem akH{H:J}(s:List UInt8)(aM:s.length<4294967281)(bV: ∀(j:Nat) b,s[j]? =some b->b.toNat<128)(aZ:H.get 0=some (.row true 1 sZ)):wP uW P 100 [.str s] H (.aN H.next 0 (Lib.fields s).length 1 (some (Lib.fields s).length)) (H.push (.row false 1 ((Lib.fields s).map λl=>[.str l]))):=by
 intro ρ w xs ce al oT aU next rN
 cases oT with|cons _ _ _ _ U aa=>
 cases U;cases aa;have bd:(⟨s.toArray⟩:ByteArray).data.toList=s:=by simp
 have cn:(⟨s.toArray⟩:ByteArray).size=s.length:=by simp[ByteArray.size]
 obtain⟨loc,az,-,c,t,ie,aS,-,a8⟩:=ce.row 0 true 1 sZ aZ;rw[(VL al).1] at az;cases az;have aH: ∀k:Nat,k<256->w.cell? ⟨0,k,none⟩=some (.int .u8 (if Lib.isSp (UInt8.ofNat k) then 1 else 0)):=λk ah=>by
  obtain⟨-,cu⟩:=a8 k _ (ahg k ah);obtain⟨-,x,ag,Nk⟩:=cu 0 _ rfl;cases Nk;simp[World.cell?,aS];simpa using ag
 have CV:ρ H.next=none:=al.new _ (bN _) (by simp)
 have core:=Any.strings_Fields_core Tryz.Td ad ⟨s.toArray⟩ w (by rw[cn];exact aM) (by rw[bd];exact bV) aH;rw[bd] at core;refine GR (c:=c6 Tryz.f100) Tryz.func100 ad ?_;refine Calls.mono core ?_;rintro e b4 ⟨rfl,rfl⟩;refine⟨_,rfl,rN _ _ (ρ.iL H.next ⟨w.heap.size,0,1,(Lib.fields s).length⟩) ?_ (J8 ce CV _ rfl _ _ rfl ?_ (λes h=>by cases h))⟩
 ·exact .aN H.next 0 _ _ ⟨w.heap.size,0,1,(Lib.fields s).length⟩ _ _ (Env.nq _ _ _) (bN _) (λk h=>by cases h;rfl) (λ_=>⟨rfl,by simp⟩)
 ·intro ro esz els h;cases h;refine⟨rfl,_,_,_,heap_alloc_new w _,λ_=>⟨by simp,λo _ h=>Z⟩,λi e he=> ?_⟩;rw[List.getElem?_map] at he;obtain⟨l,az,rfl⟩:=Option.map_eq_some_iff.1 he;refine⟨rfl,λj v bA=> ?_⟩;rcases j with _|j
  ·cases bA;exact⟨rfl,_,by simp[az],.str _⟩
  ·simp at bA
theorem ahF:ry uW P ao:=by
 intro g args H v H' h;unfold ao at h;split at h
 ·cases h;exact akG _ _
 ·split at h
  ·rename_i aS;cases h;exact akH _ aS.1 aS.2.1 aS.2.2
  ·cases h
 ·split at h
  ·rename_i aS;split at h
   ·rename_i v bA;cases h;exact af5 _ aS.1 _ bA
   ·rename_i bA;cases h;exact abJ _ aS.1 aS.2 bA
   ·cases h
  ·cases h
 ·cases h
end
section
open Go.gd
open Go.ChangeShapes Go.WideShapes Go.ChangeAt Go.RowKit
theorem own:ownKnob Tryz.prog.godebug=none:=ad
def H0:J:=((J.empty.push (.row true 1 sZ)).push (.row true 1 xW)).push .dead
theorem K8{l:Nat}{b:dY}(h:H0.get l=some b):(l=0/\b= .row true 1 sZ)\/(l=1/\b= .row true 1 xW)\/(l=2/\b= .dead):=by
 unfold H0 at h;rw[J.yP] at h;split at h
 ·rename_i az;exact .inr (.inr ⟨az,(Option.some.inj h).symm⟩)
 ·rw[J.yP] at h;split at h
  ·rename_i az;exact .inr (.inl ⟨az,(Option.some.inj h).symm⟩)
  ·rw[J.yP] at h;split at h
   ·rename_i az;exact .inl ⟨az,(Option.some.inj h).symm⟩
   ·rw[J.Gk] at h;cases h
def xV(b o:Nat):Env:=λl=>if l=0 then some ⟨0,0,1,256⟩ else if l=1 then some ⟨4,0,1,1⟩ else if l=2 then some ⟨b,o,1,1⟩ else none
theorem anR:jz.kr H0:=
 ⟨(J.gD cm).trans ((J.gD cm).trans (J.ca J.empty (.row true 1 sZ))),
  (J.gD cm).trans (J.ca (J.empty.push (.row true 1 sZ)) (.row true 1 xW))⟩
theorem al2{W:World}(bz:Lib.TabIs Tryz.prog W "strings.asciiSpace" .u8 Lib.asciiSpaceTab){b o:Nat}(he:W.var? Tryz.prog "strconv.ErrRange" =some #[.iface 191 (.pointer (some ⟨b,o,none⟩))]):
  Rel (xV b o) H0 W/\(∀l,¬H0.rw l)/\(∀l,H0.next<=l->xV b o l=none)/\uW.le (xV b o):=by
 have g0:Tryz.prog.globalNamed "strings.asciiSpace" =some 0:=ad;have g4:Tryz.prog.globalNamed "strconv.ErrRange" =some 4:=ad;unfold Lib.TabIs World.var? at bz;unfold World.var? at he;rw[g0,Option.bind_some] at bz;rw[g4,Option.bind_some] at he;have jf: ∀l,¬H0.rw l:=by
  rintro l (⟨e,s,h⟩|⟨es,h⟩)<;>rcases K8 h with⟨_,h⟩|⟨_,h⟩|⟨_,h⟩<;>cases h
 refine⟨⟨?_,?_,λl l' _ _ h=>absurd h (jf l)⟩,jf,?_,?_⟩
 ·intro l ro esz els h;rcases K8 h with⟨rfl,h⟩|⟨rfl,h⟩|⟨_,h⟩
  ·cases h;split at bz
   ·rename_i cs t ie ax;obtain rfl:=Option.some.inj bz;refine⟨_,rfl,rfl,_,_,_,ax,λh=>(by cases h),λi e be=> ?_⟩;simp only[sZ,List.getElem?_map,Option.map_eq_some_iff] at be;obtain⟨z,cn,rfl⟩:=be;refine⟨rfl,λj v bA=> ?_⟩;rcases j with _|j
    ·cases bA;exact⟨rfl,.int .u8 z,by simp[cn],.int _ _⟩
    ·simp at bA
   ·cases bz
  ·cases h;split at he
   ·rename_i cs t ie ax;obtain rfl:=Option.some.inj he;refine⟨_,rfl,rfl,_,_,_,ax,λh=>(by cases h),λi e be=> ?_⟩;rcases i with _|i
    ·cases be;refine⟨rfl,λj v bA=> ?_⟩;rcases j with _|j
     ·cases bA;exact⟨rfl,_,rfl,.iface _ _ _ (.ptr 2 0 0 ⟨b,o,1,1⟩ rfl)⟩
     ·simp at bA
    ·simp[xW] at be
   ·cases he
  ·cases h
 ·intro l es h;rcases K8 h with⟨_,h⟩|⟨_,h⟩|⟨_,h⟩<;>cases h
 ·intro l az;have:3<=l:=az;unfold xV;rw[if_neg Z,if_neg Z,if_neg Z]
 ·intro l loc h;unfold uW at h;split at h
  ·exact h
  ·exact h
  ·cases h
theorem ae7:(Tryz.prog.globals[0]?).map (·.type)=some 139:=ad
theorem ae6:(Tryz.prog.globals[4]?).map (·.type)=some 126:=ad
theorem amk:Tryz.prog.globalNamed "strings.asciiSpace" =some 0:=ad
theorem amj:Tryz.prog.globalNamed "strconv.ErrRange" =some 4:=ad
theorem afR:Tryz.prog.cellsOf 139=256:=ad
theorem ahl:Tryz.prog.cellsOf 5=1:=ad
theorem ahm:Tryz.prog.cellsOf 9=1:=ad
theorem aeY:Tryz.prog.cellsOf 193=1:=ad
theorem star:("*errors.errorString" :String)= "*" ++ "errors.errorString" :=by decide+kernel
theorem afd(u:TypeId)(h:Tryz.prog.typeName? 3 u=some "*errors.errorString"):u=191:=
 typeName_ptr_named (nm:= "errors.errorString") (by rw[<-star];kernel_rfl) ad cm u (by rw[<-star];exact h)
theorem afx:Rows.laid_strings_asciiSpace (H:=Unit)=Lib.tabData .u8 Lib.asciiSpaceTab:=ad
theorem ahp{W:World}(h:laidMetH Tryz.prog Rows.progParsesRow.laid W): ∃b o,Rel (xV b o) H0 W/\(∀l,¬H0.rw l)/\(∀l,H0.next<=l->xV b o l=none)/\uW.le (xV b o):=by
 have aY:laidMet Tryz.prog [("math/bits.deBruijn32tab",Rows.laid_math_bits_deBruijn32tab),("math/bits.deBruijn64tab",Rows.laid_math_bits_deBruijn64tab),("internal/strconv.uint64pow10",Rows.laid_internal_strconv_uint64pow10),("strconv.ErrRange",Rows.laid_strconv_ErrRange),("strconv.ErrSyntax",Rows.laid_strconv_ErrSyntax),("unicode.White_Space",Rows.laid_unicode_White_Space),("strings.asciiSpace",Rows.laid_strings_asciiSpace)] W:=h;have ae:=aY.tail.tail.tail;have aG:=ae.tail.tail.tail;rw[afx] at aG;have I2:Lib.TabIs Tryz.prog W "strings.asciiSpace" .u8 Lib.asciiSpaceTab:=
  Lib.tabIs_of_head amk ae7 Tryz.underlying139 Tryz.underlying5 ahl afR aG
 obtain⟨a,s,bA,aS,-,-⟩:=laid_sentinel ae amj ae6 Tryz.underlying126 afd Tryz.underlying191 Tryz.underlying193 rfl rfl Tryz.underlying9 aeY ahm;obtain⟨b,o,sp⟩:=a;have aoz:sp=none:=by
  unfold World.cell? at aS;split at aS
  ·cases sp with
   |none=>rfl
   |some x=>simp at aS
  ·cases aS
 subst aoz;exact⟨b,o,al2 I2 bA⟩
end
section
open Go.gd
open Go.ChangeShapes Go.WideShapes Go.ChangeAt Go.RowKit
theorem laidOut:laidOutB Tryz.prog=true:=ad
theorem aqg:P.underlying 3=some (.int .i64):=ad
theorem anj:P.underlying 4=some .bool:=ad
theorem ank:P.underlying 9=some .string:=ad
end
section
open Go.gd
open Go.ChangeShapes Go.WideShapes Go.ChangeAt Go.RowKit
open Go.ChangeMaps (open_string shut_string)
def ani:ByteArray:={data:= #[105,110,118,97,108,105,100,32,115,121,110,116,97,120]}
def anf:ByteArray:={data:= #[118,97,108,117,101,32,111,117,116,32,111,102,32,114,97,110,103,101]}
noncomputable def low:Nat:=(World.holding Tryz.prog default ⟨#[],#[],[]⟩).heap.size
def GC:DataW Unit->Array Value
 | .agg l=>(l.map λ | .lit (.int k z)=>Value.int k z|_=> .nilIface).toArray
 |_=> #[]
def z6(cs:Array Value):Obj->Obj
 | .cells _ t frozen=> .cells cs t frozen
 |o=>o
def ranges:Array Value:= #[.int .u16 9,.int .u16 13,.int .u16 1,.int .u16 32,.int .u16 133,.int .u16 101,.int .u16 160,.int .u16 5760,.int .u16 5600,.int .u16 8192,.int .u16 8202,.int .u16 1,.int .u16 8232,.int .u16 8233,.int .u16 1,.int .u16 8239,.int .u16 8287,.int .u16 48,.int .u16 12288,.int .u16 12288,.int .u16 1]
noncomputable def Kg(os:Os):World:=
 let w0:=World.holding Tryz.prog os ⟨#[.cells #[.string ani] 193,.cells #[.string anf] 193,.cells #[.slice (some ⟨low+3,0,none⟩) 7 7,.slice none 0 0,.int .i64 2] 176,.cells ranges 179],#[],[]⟩
 {w0 with heap:=((((((w0.heap.modify 3 (z6 #[.iface 191 (.pointer (some ⟨low,0,none⟩))])).modify 4 (z6 #[.iface 191 (.pointer (some ⟨low+1,0,none⟩))])).modify 5 (z6 (GC Rows.laid_internal_strconv_uint64pow10))).modify 6 (z6 (GC Rows.laid_math_bits_deBruijn32tab))).modify 7 (z6 (GC Rows.laid_math_bits_deBruijn64tab))).modify 2 (z6 #[.pointer (some ⟨low+2,0,none⟩)])).modify 0 (z6 (GC Rows.laid_strings_asciiSpace))}
namespace P4
set_option maxRecDepth 100000 in
theorem ae9(os:Os):laidMet Tryz.prog Rows.progParsesRow.laid ((Kg os).forCall (λ_ _=>0) ⟨#[],#[.string ⟨#[]⟩],[]⟩).memory:=
 laidMet_of_run' 8 (by kernel_rfl) (by kernel_rfl)
theorem reads(os:Os){H:Type}(enc:TypeId×Value->H): ∃places,DataW.whole enc Tryz.prog ((Kg os).forCall (λ_ _=>0) ⟨#[],#[.string ⟨#[]⟩],[]⟩).memory Tryz.f3.params.toList Rows.progParsesSpec.vars false (#[.string ⟨#[]⟩]:Array Value).toList 8=some ([.lit (.string [])],[],places):=
 ⟨[],by kernel_rfl⟩
set_option maxRecDepth 100000 in
theorem ae0(H:Type)(enc:TypeId×Value->H)(W:World)(base:Nat)(args:Array Value)(bU gs:List (DataW H))(before:List MemPlace)
  (HG: ∀(j:Nat) t v,Tryz.f3.params[j]? =some t->args[j]? =some v->Value.okWide Tryz.prog W .any base t v)
  (I_:DataW.Whole enc Tryz.prog Tryz.f3.params.toList Rows.progParsesSpec.vars false W args.toList bU gs before) (gH:laidMetH Tryz.prog Rows.progParsesRow.laid W):
  Calls Tryz.prog 3 args W λe FO=> ∃v,e= .returned v/\Rows.progParsesSpec.post enc Tryz.prog Tryz.f3 false true false false W args v FO:=by
 obtain⟨b,o,s1,s2,iO,qp⟩:=ahp (show laidMetH Tryz.prog Rows.progParsesRow.laid W from gH);have an0:=I_;obtain⟨p,q,anU,api,rfl,uG,aqD⟩:=I_;have hS:DataW.TrodAll enc Tryz.prog W 0 (λ_=>true) true Tryz.f3.params.toList args.toList bU p:=anU;have HF:Tryz.f3.params= #[9]:=by kernel_rfl
 rw[HF] at hS HG;obtain⟨v0,aq3,d0,aqn,en,A_,oT,rfl,rfl,aY,apo⟩:=trodAll_cons hS;obtain⟨rfl,rfl,rfl⟩:=trodAll_nil apo;obtain rfl:args= #[v0]:=by cases args;simp_all
 obtain⟨rfl,rfl⟩:=trodVars_none api;obtain⟨a0,aoF,-,-,w0⟩:=open_string (P:=P) ank (HG 0 9 v0 rfl rfl) aY;subst aoF;have amJ:VA uW P 3 [.string a0] W:=by
  obtain⟨_,H',h,rfl,p⟩:=abL anR a0.data.toList;exact⟨xV b o,H0,[.str a0.data.toList],H',s1,s2,iO,qp,p.1,.cons _ _ _ _ (.str _) .nil,aeZ (c:=c6 Tryz.f3) (M:=0) GZ (ahq GZ ahF) Tryz.func3 (by kernel_rfl) (by kernel_rfl) (by kernel_rfl) (Eq.trans (alZ (aq P ao) 0 (.str a0.data.toList) H0) h)⟩
 refine(ae_ (c:=c6 Tryz.f3) GZ Tryz.func3 (by kernel_rfl) amJ).mono λe FO ⟨he,XZ⟩=> ?_
 subst he;obtain⟨hl,aor⟩:=OJ laidOut XZ (ts:=[9]) (λt bz=>by
  simp only[List.mem_cons,List.not_mem_nil,or_false] at bz;rcases bz with rfl<;>exact⟨by kernel_rfl,of_decide_eq_true (by kernel_rfl)⟩) hS
 exact⟨_,rfl,_,_,_,[],hl,[],an0,trodAll_mk1 (shut_bool (P:=P) anj _),by rw[HF];exact aor,rfl,XZ.frame _,λh=>by cases h⟩
set_option maxRecDepth 100000 in
theorem lifted(os:Os)(started:os.Started)(H:Type)(enc:TypeId×Value->H)(F:Stop.Interp):
  ReturnsInHanded {} Tryz.checked os 3 .any ((OpenSpec.ofChange Rows.progParsesSpec).preRow enc Tryz.prog Tryz.f3 Rows.progParsesRow.domain false Rows.progParsesRow.laid) (((OpenSpec.ofChange Rows.progParsesSpec).at F).post enc Tryz.prog Tryz.f3 false true false false):=by
 obtain⟨places,ag⟩:=reads os enc;refine returnsInHanded_of_row (C:=Tryz.checked) (s:=OpenSpec.ofChange Rows.progParsesSpec) own started (by kernel_rfl) Tryz.func3
  (witness_row_atRef (enc:=enc) (C:=Tryz.checked) false (Kg os) #[.string ⟨#[]⟩] rfl (by kernel_rfl) (by kernel_rfl) (by kernel_rfl)
   (OpenSpec.preRow_of_cond 8 ag (by kernel_rfl) (λk ah=>by cases ah) (by kernel_rfl) (ae9 os))) ?_
 intro W base args bU gs before HG I_ _ _ _ gH _ _;exact ae0 H enc W base args bU gs before HG I_ gH
theorem said:Rows.ProgParsesSaid:=
 OpenClaim.holds_of_cond 3 Tryz.f3 rfl rfl rfl rfl rfl rfl rfl ⟨rfl,rfl,rfl,rfl,rfl⟩ rfl rfl rfl rfl rfl (by kernel_rfl) Tryz.func3 (by kernel_rfl)
  (of_decide_eq_true (by kernel_rfl)) (by unfold Func.isWrapper;first|(rw[if_pos (by decide+kernel)];kernel_rfl)|(rw[if_neg (by decide+kernel)];exact⟨rfl,rfl⟩))
  (λos started H enc _ F=>by rw[OpenClaim.pre_eq_preRow];exact lifted os started H enc F)
theorem plain(f:FuncId)(fn:Func)(al:Tryz.pinned.checked.prog.funcNamed "runrig/runriglaw5.ProgParses" =some f)(jr:Tryz.pinned.checked.prog.funcs[f]? =some fn):
  true=Tryz.pinned.checked.prog.looks []/\ ∀(j:Nat) t,fn.params[j]? =some t->Tryz.pinned.checked.prog.wantsStandIn t=false:=by
 obtain rfl:f=3:=Option.some.inj ((show Tryz.prog.funcNamed "runrig/runriglaw5.ProgParses" =some 3 by kernel_rfl).symm.trans al)|>.symm;obtain rfl:fn=Tryz.f3:=(Option.some.inj (Tryz.func3.symm.trans jr)).symm;refine⟨by kernel_rfl,λj t bz=> ?_⟩;have HF:Tryz.f3.params= #[9]:=by kernel_rfl
 rw[HF] at bz;have bz:=Array.mem_of_getElem? bz;simp only[List.mem_toArray,List.mem_cons,List.not_mem_nil,or_false] at bz;rcases bz with rfl
 ·exact(show Tryz.prog.wantsStandIn 9=false by kernel_rfl)
theorem ame:Rows.ProgParsesCardSaid:=
 Claim7.holds_tied_plain_at .later [] _ _ _ _ said (λ_ h=>by cases h) (by kernel_rfl) (λ_ h=>by cases h) progParses_row_tie rfl ⟨rfl,rfl⟩ (by kernel_rfl) rfl plain (by kernel_rfl)
end P4
theorem progParses_holds:Rows.ProgParsesCardSaid:=P4.ame
end
end Go.Proofs.YtghmbpmaafnodaaGreatDoor
