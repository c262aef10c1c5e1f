/-
  Texts of one proof, laid together: Lays Orc Start Rt ProgSame.
-/
import Derived.Shelf.Small.Strs
import Derived.Shelf.LaysC
import Derived.Shelf.Strconv.AtoiAll
import Derived.Shelf.Strings.Search1
import Derived.Shelf.Strings.Prefix
import Derived.Shelf.Strings.Fields
import Derived.Test.YtghmbpmaafnodaaGreatDoorProg
import Derived.Test.YtghmbpmaafnodaaGreatDoorMD
import Derived.Test.YtghmbpmaafnodaaGreatDoorME
import Derived.Test.YtghmbpmaafnodaaGreatDoorCards
import Derived.Test.YtghmbpmaafnodaaGreatDoorTie
import Derived.Test.YtghmbpmaafnodaaGreatDoorMS
import Derived.ProofKit
import Derived.OpenShut
import Derived.Deep.DeepHandedRow
import Derived.Lib.LaidTab
import Derived.Stop.LaidErr
import Derived.Test.YtghmbpmaafnodaaGreatDoorMY
import Derived.Deep.DeepWitnessRowRef
set_option linter.unusedVariables false
set_option linter.unusedSimpArgs false
namespace Go.Proofs
open Go.Shelf
def Tryz.abp:Go.Shelf.Ren:=⟨λ |137=>66|217=>93|266=>112|n=>n,λ |9=>9|5=>5|3=>3|n=>n,λ |n=>n⟩
theorem Tryz.agS:Go.Proofs.Lays.n137 Tryz.prog Tryz.abp:={
 mixed:=by kernel_rfl
 f137:=Tryz.func66.trans (congrArg some (by kernel_rfl))
 f217:=Tryz.func93.trans (congrArg some (by kernel_rfl))
 f266:=Tryz.func112.trans (congrArg some (by kernel_rfl))
 t3:=Tryz.underlying3
 a3:=Tryz.isAgg3
 z3:=Tryz.sizeOf3
 v3:=Tryz.zeroValue3
 t5:=Tryz.underlying5
 a5:=Tryz.isAgg5
 z5:=Tryz.sizeOf5
 v5:=Tryz.zeroValue5
 t9:=Tryz.underlying9
 a9:=Tryz.isAgg9
 z9:=Tryz.sizeOf9
 v9:=Tryz.zeroValue9}
open Go.RowKit in
theorem Tryz.strings_IndexByte(s:ByteArray)(c:Int)(w:World):
 Calls Tryz.prog 66 #[.string s,.int .u8 c] w λe b5=>e= .returned (.int .i64 (Lib.indexByte s.data.toList c.toNat.toUInt8))/\b5=w:=Any.strings_IndexByte Tryz.agS s c w
def Tryz.aaU:Go.Shelf.Ren:=⟨λ |172=>99|244=>115|245=>116|247=>130|279=>131|280=>132|281=>133|282=>134|287=>147|316=>148|171=>150|205=>149|321=>159|322=>160|243=>161|246=>164|283=>166|284=>167|285=>168|286=>169|129=>173|317=>172|318=>174|319=>175|320=>176|337=>179|338=>180|n=>n,λ |9=>9|3=>3|75=>126|76=>127|4=>4|5=>5|167=>149|37=>81|0=>0|85=>150|2=>2|168=>152|53=>165|175=>166|46=>168|210=>171|127=>190|145=>193|143=>191|21=>21|171=>201|173=>204|212=>208|51=>158|20=>20|213=>209|232=>215|233=>216|80=>93|n=>n,λ |15=>3|16=>4|17=>5|18=>6|19=>7|n=>n⟩
theorem Tryz.R_:Go.Proofs.LaysC.n172 Tryz.prog Tryz.aaU:={
 mixed:=by kernel_rfl
 f129:=Tryz.func173.trans (congrArg some (by kernel_rfl))
 f171:=Tryz.func150.trans (congrArg some (by kernel_rfl))
 f172:=Tryz.func99.trans (congrArg some (by kernel_rfl))
 f205:=Tryz.func149.trans (congrArg some (by kernel_rfl))
 f243:=Tryz.func161.trans (congrArg some (by kernel_rfl))
 f244:=Tryz.func115.trans (congrArg some (by kernel_rfl))
 f245:=Tryz.func116.trans (congrArg some (by kernel_rfl))
 f246:=Tryz.func164.trans (congrArg some (by kernel_rfl))
 f247:=Tryz.func130.trans (congrArg some (by kernel_rfl))
 f279:=Tryz.func131.trans (congrArg some (by kernel_rfl))
 f280:=Tryz.func132.trans (congrArg some (by kernel_rfl))
 f281:=Tryz.func133.trans (congrArg some (by kernel_rfl))
 f282:=Tryz.func134.trans (congrArg some (by kernel_rfl))
 f283:=Tryz.func166.trans (congrArg some (by kernel_rfl))
 f284:=Tryz.func167.trans (congrArg some (by kernel_rfl))
 f285:=Tryz.func168.trans (congrArg some (by kernel_rfl))
 f286:=Tryz.func169.trans (congrArg some (by kernel_rfl))
 f287:=Tryz.func147.trans (congrArg some (by kernel_rfl))
 f316:=Tryz.func148.trans (congrArg some (by kernel_rfl))
 f317:=Tryz.func172.trans (congrArg some (by kernel_rfl))
 f318:=Tryz.func174.trans (congrArg some (by kernel_rfl))
 f319:=Tryz.func175.trans (congrArg some (by kernel_rfl))
 f320:=Tryz.func176.trans (congrArg some (by kernel_rfl))
 f321:=Tryz.func159.trans (congrArg some (by kernel_rfl))
 f322:=Tryz.func160.trans (congrArg some (by kernel_rfl))
 f337:=Tryz.func179.trans (congrArg some (by kernel_rfl))
 f338:=Tryz.func180.trans (congrArg some (by kernel_rfl))
 t0:=Tryz.underlying0
 a0:=Tryz.isAgg0
 z0:=Tryz.sizeOf0
 v0:=Tryz.zeroValue0
 t2:=Tryz.underlying2
 a2:=Tryz.isAgg2
 z2:=Tryz.sizeOf2
 v2:=Tryz.zeroValue2
 t3:=Tryz.underlying3
 a3:=Tryz.isAgg3
 z3:=Tryz.sizeOf3
 v3:=Tryz.zeroValue3
 t4:=Tryz.underlying4
 a4:=Tryz.isAgg4
 z4:=Tryz.sizeOf4
 v4:=Tryz.zeroValue4
 t5:=Tryz.underlying5
 a5:=Tryz.isAgg5
 z5:=Tryz.sizeOf5
 v5:=Tryz.zeroValue5
 t9:=Tryz.underlying9
 a9:=Tryz.isAgg9
 z9:=Tryz.sizeOf9
 v9:=Tryz.zeroValue9
 t20:=Tryz.underlying20
 a20:=Tryz.isAgg20
 z20:=Tryz.sizeOf20
 v20:=Tryz.zeroValue20
 t21:=Tryz.underlying21
 a21:=Tryz.isAgg21
 z21:=Tryz.sizeOf21
 v21:=Tryz.zeroValue21
 t37:=Tryz.underlying81
 a37:=Tryz.isAgg81
 z37:=Tryz.sizeOf81
 v37:=Tryz.zeroValue81
 t46:=Tryz.underlying168
 a46:=Tryz.isAgg168
 z46:=Tryz.sizeOf168
 v46:=Tryz.zeroValue168
 t51:=Tryz.underlying158
 a51:=Tryz.isAgg158
 z51:=Tryz.sizeOf158
 v51:=Tryz.zeroValue158
 t53:=Tryz.underlying165
 a53:=Tryz.isAgg165
 z53:=Tryz.sizeOf165
 v53:=Tryz.zeroValue165
 t75:=Tryz.underlying126
 a75:=Tryz.isAgg126
 z75:=Tryz.sizeOf126
 v75:=Tryz.zeroValue126
 t76:=Tryz.underlying127
 a76:=Tryz.isAgg127
 z76:=Tryz.sizeOf127
 v76:=Tryz.zeroValue127
 t85:=Tryz.underlying150
 a85:=Tryz.isAgg150
 z85:=Tryz.sizeOf150
 v85:=Tryz.zeroValue150
 t127:=Tryz.underlying190
 a127:=Tryz.isAgg190
 z127:=Tryz.sizeOf190
 v127:=Tryz.zeroValue190
 t143:=Tryz.underlying191
 a143:=Tryz.isAgg191
 z143:=Tryz.sizeOf191
 v143:=Tryz.zeroValue191
 t145:=Tryz.underlying193
 a145:=Tryz.isAgg193
 z145:=Tryz.sizeOf193
 v145:=Tryz.zeroValue193
 t167:=Tryz.underlying149
 a167:=Tryz.isAgg149
 z167:=Tryz.sizeOf149
 v167:=Tryz.zeroValue149
 t168:=Tryz.underlying152
 a168:=Tryz.isAgg152
 z168:=Tryz.sizeOf152
 v168:=Tryz.zeroValue152
 t171:=Tryz.underlying201
 a171:=Tryz.isAgg201
 z171:=Tryz.sizeOf201
 v171:=Tryz.zeroValue201
 t173:=Tryz.underlying204
 a173:=Tryz.isAgg204
 z173:=Tryz.sizeOf204
 v173:=Tryz.zeroValue204
 t175:=Tryz.underlying166
 a175:=Tryz.isAgg166
 z175:=Tryz.sizeOf166
 v175:=Tryz.zeroValue166
 t210:=Tryz.underlying171
 a210:=Tryz.isAgg171
 z210:=Tryz.sizeOf171
 v210:=Tryz.zeroValue171
 t212:=Tryz.underlying208
 a212:=Tryz.isAgg208
 z212:=Tryz.sizeOf208
 v212:=Tryz.zeroValue208
 t213:=Tryz.underlying209
 a213:=Tryz.isAgg209
 z213:=Tryz.sizeOf209
 t232:=Tryz.underlying215
 a232:=Tryz.isAgg215
 z232:=Tryz.sizeOf215
 v232:=Tryz.zeroValue215
 t233:=Tryz.underlying216
 a233:=Tryz.isAgg216
 z233:=Tryz.sizeOf216
 v233:=Tryz.zeroValue216
 g15:=by kernel_rfl
 g16:=by kernel_rfl
 g17:=by kernel_rfl
 g18:=by kernel_rfl
 g19:=by kernel_rfl
 t80:=Tryz.underlying93
 a80:=Tryz.isAgg93
 z80:=Tryz.sizeOf93
 v80:=Tryz.zeroValue93
 i0:=by kernel_rfl
 i2:=by kernel_rfl
 i3:=by kernel_rfl
 i4:=by kernel_rfl
 i5:=by kernel_rfl
 i9:=by kernel_rfl
 i20:=by kernel_rfl
 i21:=by kernel_rfl
 i37:=by kernel_rfl
 i46:=by kernel_rfl
 i51:=by kernel_rfl
 i53:=by kernel_rfl
 i75:=by kernel_rfl
 i76:=by kernel_rfl
 i80:=by kernel_rfl
 i85:=by kernel_rfl
 i127:=by kernel_rfl
 i143:=by kernel_rfl
 i145:=by kernel_rfl
 i167:=by kernel_rfl
 i168:=by kernel_rfl
 i171:=by kernel_rfl
 i173:=by kernel_rfl
 i175:=by kernel_rfl
 i210:=by kernel_rfl
 i212:=by kernel_rfl
 i232:=by kernel_rfl
 i233:=by kernel_rfl
 m15:=by kernel_rfl
 m16:=by kernel_rfl
 m17:=by kernel_rfl
 m18:=by kernel_rfl
 m19:=by kernel_rfl
 c0:=by kernel_rfl
 c2:=by kernel_rfl
 c3:=by kernel_rfl
 c4:=by kernel_rfl
 c5:=by kernel_rfl
 c9:=by kernel_rfl
 c20:=by kernel_rfl
 c21:=by kernel_rfl
 c37:=by kernel_rfl
 c46:=by kernel_rfl
 c51:=by kernel_rfl
 c53:=by kernel_rfl
 c75:=by kernel_rfl
 c76:=by kernel_rfl
 c80:=by kernel_rfl
 c85:=by kernel_rfl
 c127:=by kernel_rfl
 c143:=by kernel_rfl
 c145:=by kernel_rfl
 c167:=by kernel_rfl
 c168:=by kernel_rfl
 c171:=by kernel_rfl
 c173:=by kernel_rfl
 c175:=by kernel_rfl
 c210:=by kernel_rfl
 c212:=by kernel_rfl
 c213:=by kernel_rfl
 c232:=by kernel_rfl
 c233:=by kernel_rfl}
open Go.RowKit in
theorem Tryz.strconv_Atoi_ok(s:ByteArray)(anR:s.size<=9223372036854775806)(v:Int)(h:Lib.atoiAll s.data.toList= .ok v)(w:World):
 Calls Tryz.prog 99 #[.string s] w λe b5=>e= .returned (.tuple #[.int .i64 v,.nilIface])/\(b5=w\/ ∃t,b5=Lib.bytesWorld w 5 t):=Any.strconv_Atoi_ok Tryz.R_ s anR v h w
open Go.RowKit in
theorem Tryz.strconv_Atoi_range(s:ByteArray)(anL:s.size<=281474976710656)(h:Lib.atoiAll s.data.toList= .range)(ev:Value)(w:World)(bw:w.cell? ⟨4,0,none⟩=some ev)(ph:ev= .nilIface\/ ∃Oz Ow,ev= .iface Oz Ow):
 Calls Tryz.prog 99 #[.string s] w λe b5=> ∃N,e= .returned (.tuple #[.int .i64 (Lib.atoiSat s.data.toList),.iface 152 (.pointer (some ⟨N,0,none⟩))])/\w.heap.size<=N/\b5.heap[N]? =some (.cells #[.string ⟨#[65,116,111,105]⟩,.string s,ev] 171 (0,0))/\Below w.heap.size w b5:=Any.strconv_Atoi_range Tryz.R_ s anL h ev w bw ph
def Tryz.abq:Go.Shelf.Ren:=⟨λ |157=>100|229=>117|199=>118|261=>135|311=>151|312=>152|n=>n,λ |9=>9|31=>48|3=>3|5=>5|4=>4|119=>139|0=>0|40=>141|152=>155|21=>21|154=>157|51=>158|141=>160|196=>176|193=>173|198=>179|49=>177|194=>174|201=>182|226=>194|46=>168|227=>195|n=>n,λ |0=>0|6=>2|n=>n⟩
theorem Tryz.TB:Go.Proofs.Lays.n157 Tryz.prog Tryz.abq:={
 mixed:=by kernel_rfl
 f157:=Tryz.func100.trans (congrArg some (by kernel_rfl))
 f199:=Tryz.func118.trans (congrArg some (by kernel_rfl))
 f229:=Tryz.func117.trans (congrArg some (by kernel_rfl))
 f261:=Tryz.func135.trans (congrArg some (by kernel_rfl))
 f311:=Tryz.func151.trans (congrArg some (by kernel_rfl))
 f312:=Tryz.func152.trans (congrArg some (by kernel_rfl))
 t0:=Tryz.underlying0
 a0:=Tryz.isAgg0
 z0:=Tryz.sizeOf0
 v0:=Tryz.zeroValue0
 t3:=Tryz.underlying3
 a3:=Tryz.isAgg3
 z3:=Tryz.sizeOf3
 v3:=Tryz.zeroValue3
 t4:=Tryz.underlying4
 a4:=Tryz.isAgg4
 z4:=Tryz.sizeOf4
 v4:=Tryz.zeroValue4
 t5:=Tryz.underlying5
 a5:=Tryz.isAgg5
 z5:=Tryz.sizeOf5
 v5:=Tryz.zeroValue5
 t9:=Tryz.underlying9
 a9:=Tryz.isAgg9
 z9:=Tryz.sizeOf9
 v9:=Tryz.zeroValue9
 t21:=Tryz.underlying21
 a21:=Tryz.isAgg21
 z21:=Tryz.sizeOf21
 v21:=Tryz.zeroValue21
 t31:=Tryz.underlying48
 a31:=Tryz.isAgg48
 z31:=Tryz.sizeOf48
 v31:=Tryz.zeroValue48
 t40:=Tryz.underlying141
 a40:=Tryz.isAgg141
 z40:=Tryz.sizeOf141
 v40:=Tryz.zeroValue141
 t46:=Tryz.underlying168
 a46:=Tryz.isAgg168
 z46:=Tryz.sizeOf168
 v46:=Tryz.zeroValue168
 t49:=Tryz.underlying177
 a49:=Tryz.isAgg177
 z49:=Tryz.sizeOf177
 v49:=Tryz.zeroValue177
 t51:=Tryz.underlying158
 a51:=Tryz.isAgg158
 z51:=Tryz.sizeOf158
 v51:=Tryz.zeroValue158
 t119:=Tryz.underlying139
 a119:=Tryz.isAgg139
 z119:=Tryz.sizeOf139
 t141:=Tryz.underlying160
 a141:=Tryz.isAgg160
 z141:=Tryz.sizeOf160
 v141:=Tryz.zeroValue160
 t152:=Tryz.underlying155
 a152:=Tryz.isAgg155
 z152:=Tryz.sizeOf155
 v152:=Tryz.zeroValue155
 t154:=Tryz.underlying157
 a154:=Tryz.isAgg157
 z154:=Tryz.sizeOf157
 v154:=Tryz.zeroValue157
 t193:=Tryz.underlying173
 a193:=Tryz.isAgg173
 z193:=Tryz.sizeOf173
 v193:=Tryz.zeroValue173
 t194:=Tryz.underlying174
 a194:=Tryz.isAgg174
 z194:=Tryz.sizeOf174
 v194:=Tryz.zeroValue174
 t196:=Tryz.underlying176
 a196:=Tryz.isAgg176
 z196:=Tryz.sizeOf176
 v196:=Tryz.zeroValue176
 t198:=Tryz.underlying179
 a198:=Tryz.isAgg179
 z198:=Tryz.sizeOf179
 v198:=Tryz.zeroValue179
 t201:=Tryz.underlying182
 a201:=Tryz.isAgg182
 z201:=Tryz.sizeOf182
 v201:=Tryz.zeroValue182
 t226:=Tryz.underlying194
 a226:=Tryz.isAgg194
 z226:=Tryz.sizeOf194
 v226:=Tryz.zeroValue194
 t227:=Tryz.underlying195
 a227:=Tryz.isAgg195
 z227:=Tryz.sizeOf195
 v227:=Tryz.zeroValue195
 g0:=by kernel_rfl
 g6:=by kernel_rfl}
open Go.RowKit Go.Lib in
theorem Tryz.strings_Fields(s:ByteArray)(w:World)(aO:s.size<4294967281)(air: ∀(j:Nat) b,s.data.toList[j]? =some b->b.toNat<128)(an2:Lib.TabIs Tryz.prog w "strings.asciiSpace" .u8 Lib.asciiSpaceTab):
 Calls Tryz.prog 100 #[.string s] w λe b5=>
  e= .returned (.slice (some ⟨w.heap.size,0,none⟩) (Lib.fields s.data.toList).length (Lib.fields s.data.toList).length)/\b5=w.alloc (.cells ((Lib.fields s.data.toList).map λl=>Value.string ⟨l.toArray⟩).toArray 9):=Any.strings_Fields Tryz.TB (by kernel_rfl) (by kernel_rfl) s w aO air an2
end Go.Proofs
namespace Go.Proofs.YtghmbpmaafnodaaGreatDoor
section
open Go.f7 Go.RowKit
set_option maxRecDepth 100000
theorem G1{f:Nat}{fn:Func}{c:Code}{xs:List Value}{w:World}{next:Value->World->Prop}(jp:P.funcs[f]? =some fn)(aS:fn.body=some c)(h:Calls P f xs.toArray w λe b5=> ∃x,e= .returned x/\next x b5):zN P (callFunc f xs.toArray) w next:=by
 have zE:(fn.name== "runtime.NumGoroutine")=false:=G8.names fn (Array.mem_of_getElem? jp);have oD:(callFunc f xs.toArray).run P w= .ok (.enter f xs.toArray) w:=by
  unfold callFunc;simp[jp,aS];intro bW;simp[bW] at zE
 unfold zN;rw[oD];simp only
 refine Calls.mono h λe b5 a7=> ?_
 obtain⟨x,rfl,af⟩:=a7;exact af
theorem adm{ρ:Env}{H:J}{w b5:World}(ce:Rel ρ H w)(ay:Below w.heap.size w b5):Step ρ H w ρ H b5:=
 ⟨ρ.le_refl,bL _,λ_ _=>rfl,ce.TA ay.block,ay.os,ay.tape,ay.output,ay.size,λb h _=>ay.block b h,λ_ h=> .inl h,λ_ _ _ h=>h⟩
theorem yK{H:J}{l:Nat}{b:dZ}(h:(H.push .dead).get l=some b)(ay:b≠ .dead):l≠H.next/\H.get l=some b:=by
 rw[J.yL] at h;split at h
 ·cases h;exact absurd rfl ay
 ·rename_i dK;exact⟨dK,h⟩
theorem afi{ρ:Env}{H:J}{w b5:World}(ce:Rel ρ H w)(ak:ρ H.next=none)(ay:Below w.heap.size w b5)(loc:Go.f7.Loc):Step ρ H w (ρ.iF H.next loc) (H.push .dead) b5:=by
 have hle:=Env.BY ak loc;have ln:=ce.TA ay.block;have j5: ∀l,(H.push .dead).rw l->l≠H.next/\H.rw l:=by
  rintro l (⟨e,s,aX⟩|⟨es,aX⟩)
  ·obtain⟨a,b⟩:=yK aX (by simp);exact⟨a,.inl ⟨e,s,b⟩⟩
  ·obtain⟨a,b⟩:=yK aX (by simp);exact⟨a,.inr ⟨es,b⟩⟩
 have fx: ∀l,(H.push .dead).live l->l≠H.next/\H.live l:=by
  rintro l (⟨r,e,s,aX⟩|⟨es,aX⟩)
  ·obtain⟨a,b⟩:=yK aX (by simp);exact⟨a,.inl ⟨r,e,s,b⟩⟩
  ·obtain⟨a,b⟩:=yK aX (by simp);exact⟨a,.inr ⟨es,b⟩⟩
 refine⟨hle,by simp,λl ax=>Env.l3 (by simp at ax;omega),⟨?_,?_,?_⟩,ay.os,ay.tape,ay.output,ay.size,λb h _=>ay.block b h,?_,?_⟩
 ·intro l ro esz els h;obtain⟨dK,aX⟩:=yK h (by simp);obtain⟨dB,U,aa⟩:=ln.row l ro esz els aX;exact⟨dB,hle _ _ U,aa.mono hle⟩
 ·intro l es h;obtain⟨dK,aX⟩:=yK h (by simp);obtain⟨dB,U,ents,clock,aa,ae,al⟩:=ln.map l es aX;exact⟨dB,hle _ _ U,ents,clock,aa,ae.mono hle,al.mono hle⟩
 ·intro l l' a b U aa dK aI bc;obtain⟨fw,gj⟩:=j5 l U;obtain⟨n2,e3⟩:=fx l' aa;rw[Env.l3 fw] at aI;rw[Env.l3 n2] at bc;exact ln.apart l l' a b gj e3 dK aI bc
 ·rintro b ⟨l,dB,U,aa,ae⟩;obtain⟨fw,gj⟩:=j5 l U;rw[Env.l3 fw] at aa;exact .inl ⟨l,dB,gj,aa,ae⟩
 ·intro l esz els h;exact(yK h (by simp)).2
theorem alG{H:J}(s:List UInt8)(c:Int):wP uU P 66 [.str s,.int .u8 c] H (.int .i64 (Lib.indexByte s c.toNat.toUInt8)) H:=by
 intro ρ w xs ce ak o0 aV next rO
 cases o0 with|cons _ _ _ _ U aa=>
 cases aa with|cons _ _ _ _ aa ae=>
 cases U;cases aa;cases ae;refine G1 (c:=di Tryz.f66) Tryz.func66 ad ?_;refine Calls.mono (Tryz.strings_IndexByte ⟨s.toArray⟩ c w) ?_;rintro e b5 ⟨rfl,rfl⟩;have bb:(⟨s.toArray⟩:ByteArray).data.toList=s:=by simp
 rw[bb];exact⟨_,rfl,rO _ _ ρ (.int _ _) (Step.refl ce)⟩
theorem ag2{H:J}(s:List UInt8)(aO:s.length<=281474976710656)(v:Int)(bw:Lib.atoiAll s= .ok v):wP uU P 99 [.str s] H (.tuple [.int .i64 v,.nilIface]) H:=by
 intro ρ w xs ce ak o0 aV next rO
 cases o0 with|cons _ _ _ _ U aa=>
 cases U;cases aa;have bb:(⟨s.toArray⟩:ByteArray).data.toList=s:=by simp
 have ct:(⟨s.toArray⟩:ByteArray).size=s.length:=by simp[ByteArray.size]
 refine G1 (c:=di Tryz.f99) Tryz.func99 ad ?_;refine Calls.mono (Tryz.strconv_Atoi_ok ⟨s.toArray⟩ (by rw[ct];omega) v (by rw[bb];exact bw) w) ?_;rintro e b5 ⟨rfl,hw⟩;have ay:Below w.heap.size w b5:=by
  rcases hw with rfl|⟨t,rfl⟩
  ·exact Below.refl _ _
  ·exact⟨rfl,rfl,rfl,by rw[Lib.bytesWorld_size];omega,λj bP=>Lib.bytesWorld_at_old w 5 t j bP⟩
 exact⟨_,rfl,rO _ _ ρ (.tuple [_,_] [_,_] (.cons _ _ _ _ (.int _ _) (.cons _ _ _ _ .nilIface .nil))) (adm ce ay)⟩
theorem V_{ρ:Env}{n m:Nat}(ak:ov uU ρ n m):ρ 0=some ⟨0,0,1,256⟩/\ρ 1=some ⟨4,0,1,1⟩:=⟨ak.le 0 _ rfl,ak.le 1 _ rfl⟩
theorem acn{H:J}(s:List UInt8)(aO:s.length<=281474976710656)(aX:H.get 1=some (.row true 1 xS))(bw:Lib.atoiAll s= .range):wP uU P 99 [.str s] H (.tuple [.int .i64 (Lib.atoiSat s),.iface 152 (.ptr H.next 0 0)]) (H.push .dead):=by
 intro ρ w xs ce ak o0 aV next rO
 cases o0 with|cons _ _ _ _ U aa=>
 cases U;cases aa;have bb:(⟨s.toArray⟩:ByteArray).data.toList=s:=by simp
 have ct:(⟨s.toArray⟩:ByteArray).size=s.length:=by simp[ByteArray.size]
 obtain⟨loc,ax,-,c,t,h4,aS,-,a7⟩:=ce.row 1 true 1 xS aX;rw[(V_ ak).2] at ax;cases ax;obtain⟨-,cx⟩:=a7 0 _ rfl;obtain⟨-,x,af,Ft⟩:=cx 0 _ rfl;have ph: ∃Oz Ow,x= .iface Oz Ow:=by cases Ft;exact⟨_,_,rfl⟩
 have LO:w.cell? ⟨4,0,none⟩=some x:=by
  simp[World.cell?,aS];simpa using af
 refine G1 (c:=di Tryz.f99) Tryz.func99 ad ?_;refine Calls.mono (Tryz.strconv_Atoi_range ⟨s.toArray⟩ (by rw[ct];omega) (by rw[bb];exact bw) x w LO (.inr ph)) ?_;rintro e b5 ⟨N,rfl,U,aa,ay⟩;have CU:ρ H.next=none:=ak.new _ (bL _) (by simp)
 refine⟨_,rfl,rO _ _ (ρ.iF H.next ⟨N,0,1,1⟩) (.tuple [_,_] [_,_] (.cons _ _ _ _ (by rw[bb];exact .int _ _) (.cons _ _ _ _ (.iface _ _ _ ?_) .nil))) (afi ce CU ay _)⟩;exact .ptr H.next 0 0 ⟨N,0,1,1⟩ (Env.np _ _ _)
theorem aid(c:Nat)(aS:c<256):sY[c]? =some [.int .u8 (if Lib.isSp (UInt8.ofNat c) then 1 else 0)]:=by
 simp[sY,Lib.asciiSpaceTab,aS]
theorem alH{H:J}(s:List UInt8)(aO:s.length<4294967281)(b1: ∀(j:Nat) b,s[j]? =some b->b.toNat<128)(aX:H.get 0=some (.row true 1 sY)):wP uU P 100 [.str s] H (.aM H.next 0 (Lib.fields s).length 1 (some (Lib.fields s).length)) (H.push (.row false 1 ((Lib.fields s).map λl=>[.str l]))):=by
 intro ρ w xs ce ak o0 aV next rO
 cases o0 with|cons _ _ _ _ U aa=>
 cases U;cases aa;have bb:(⟨s.toArray⟩:ByteArray).data.toList=s:=by simp
 have ct:(⟨s.toArray⟩:ByteArray).size=s.length:=by simp[ByteArray.size]
 obtain⟨loc,ax,-,c,t,h4,aS,-,a7⟩:=ce.row 0 true 1 sY aX;rw[(V_ ak).1] at ax;cases ax;have aH: ∀k:Nat,k<256->w.cell? ⟨0,k,none⟩=some (.int .u8 (if Lib.isSp (UInt8.ofNat k) then 1 else 0)):=λk ah=>by
  obtain⟨-,cx⟩:=a7 k _ (aid k ah);obtain⟨-,x,af,Ft⟩:=cx 0 _ rfl;cases Ft;simp[World.cell?,aS];simpa using af
 have CU:ρ H.next=none:=ak.new _ (bL _) (by simp)
 have core:=Any.strings_Fields_core Tryz.TB ad ⟨s.toArray⟩ w (by rw[ct];exact aO) (by rw[bb];exact b1) aH;rw[bb] at core;refine G1 (c:=di Tryz.f100) Tryz.func100 ad ?_;refine Calls.mono core ?_;rintro e b5 ⟨rfl,rfl⟩;refine⟨_,rfl,rO _ _ (ρ.iF H.next ⟨w.heap.size,0,1,(Lib.fields s).length⟩) ?_ (Kf ce CU _ rfl _ _ rfl ?_ (λes h=>by cases h))⟩
 ·exact .aM H.next 0 _ _ ⟨w.heap.size,0,1,(Lib.fields s).length⟩ _ _ (Env.np _ _ _) (bL _) (λk h=>by cases h;rfl) (λ_=>⟨rfl,by simp⟩)
 ·intro ro esz els h;cases h;refine⟨rfl,_,_,_,heap_alloc_new w _,λ_=>⟨by simp,λo _ h=>Z⟩,λi e he=> ?_⟩;rw[List.getElem?_map] at he;obtain⟨l,ax,rfl⟩:=Option.map_eq_some_iff.1 he;refine⟨rfl,λj v bw=> ?_⟩;rcases j with _|j
  ·cases bw;exact⟨rfl,_,by simp[ax],.str _⟩
  ·simp at bw
theorem aiG:rB uU P ao:=by
 intro g args H v H' h;unfold ao at h;split at h
 ·cases h;exact alG _ _
 ·split at h
  ·rename_i aS;cases h;exact alH _ aS.1 aS.2.1 aS.2.2
  ·cases h
 ·split at h
  ·rename_i aS;split at h
   ·rename_i v bw;cases h;exact ag2 _ aS.1 _ bw
   ·rename_i bw;cases h;exact acn _ aS.1 aS.2 bw
   ·cases h
  ·cases h
 ·cases h
end
section
open Go.f7
open Go.ChangeShapes Go.WideShapes Go.ChangeAt Go.RowKit
theorem own:ownKnob Tryz.prog.godebug=none:=ad
def H0:J:=((J.empty.push (.row true 1 sY)).push (.row true 1 xS)).push .dead
theorem Lm{l:Nat}{b:dZ}(h:H0.get l=some b):(l=0/\b= .row true 1 sY)\/(l=1/\b= .row true 1 xS)\/(l=2/\b= .dead):=by
 unfold H0 at h;rw[J.yL] at h;split at h
 ·rename_i ax;exact .inr (.inr ⟨ax,(Option.some.inj h).symm⟩)
 ·rw[J.yL] at h;split at h
  ·rename_i ax;exact .inr (.inl ⟨ax,(Option.some.inj h).symm⟩)
  ·rw[J.yL] at h;split at h
   ·rename_i ax;exact .inl ⟨ax,(Option.some.inj h).symm⟩
   ·rw[J.Gs] at h;cases h
def xR(b o:Nat):Env:=λl=>if l=0 then some ⟨0,0,1,256⟩ else if l=1 then some ⟨4,0,1,1⟩ else if l=2 then some ⟨b,o,1,1⟩ else none
theorem aoP:jv.ko H0:=
 ⟨(J.gy cl).trans ((J.gy cl).trans (J.ca J.empty (.row true 1 sY))),
  (J.gy cl).trans (J.ca (J.empty.push (.row true 1 sY)) (.row true 1 xS))⟩
theorem amX{W:World}(bC:Lib.TabIs Tryz.prog W "strings.asciiSpace" .u8 Lib.asciiSpaceTab){b o:Nat}(he:W.var? Tryz.prog "strconv.ErrRange" =some #[.iface 191 (.pointer (some ⟨b,o,none⟩))]):
  Rel (xR b o) H0 W/\(∀l,¬H0.rw l)/\(∀l,H0.next<=l->xR b o l=none)/\uU.le (xR b o):=by
 have g0:Tryz.prog.globalNamed "strings.asciiSpace" =some 0:=ad;have g4:Tryz.prog.globalNamed "strconv.ErrRange" =some 4:=ad;unfold Lib.TabIs World.var? at bC;unfold World.var? at he;rw[g0,Option.bind_some] at bC;rw[g4,Option.bind_some] at he;have ja: ∀l,¬H0.rw l:=by
  rintro l (⟨e,s,h⟩|⟨es,h⟩)<;>rcases Lm h with⟨_,h⟩|⟨_,h⟩|⟨_,h⟩<;>cases h
 refine⟨⟨?_,?_,λl l' _ _ h=>absurd h (ja l)⟩,ja,?_,?_⟩
 ·intro l ro esz els h;rcases Lm h with⟨rfl,h⟩|⟨rfl,h⟩|⟨_,h⟩
  ·cases h;split at bC
   ·rename_i cs t h4 ay;obtain rfl:=Option.some.inj bC;refine⟨_,rfl,rfl,_,_,_,ay,λh=>(by cases h),λi e be=> ?_⟩;simp only[sY,List.getElem?_map,Option.map_eq_some_iff] at be;obtain⟨z,ct,rfl⟩:=be;refine⟨rfl,λj v bw=> ?_⟩;rcases j with _|j
    ·cases bw;exact⟨rfl,.int .u8 z,by simp[ct],.int _ _⟩
    ·simp at bw
   ·cases bC
  ·cases h;split at he
   ·rename_i cs t h4 ay;obtain rfl:=Option.some.inj he;refine⟨_,rfl,rfl,_,_,_,ay,λh=>(by cases h),λi e be=> ?_⟩;rcases i with _|i
    ·cases be;refine⟨rfl,λj v bw=> ?_⟩;rcases j with _|j
     ·cases bw;exact⟨rfl,_,rfl,.iface _ _ _ (.ptr 2 0 0 ⟨b,o,1,1⟩ rfl)⟩
     ·simp at bw
    ·simp[xS] at be
   ·cases he
  ·cases h
 ·intro l es h;rcases Lm h with⟨_,h⟩|⟨_,h⟩|⟨_,h⟩<;>cases h
 ·intro l ax;have:3<=l:=ax;unfold xR;rw[if_neg Z,if_neg Z,if_neg Z]
 ·intro l loc h;unfold uU at h;split at h
  ·exact h
  ·exact h
  ·cases h
theorem afL:(Tryz.prog.globals[0]?).map (·.type)=some 139:=ad
theorem afK:(Tryz.prog.globals[4]?).map (·.type)=some 126:=ad
theorem anf:Tryz.prog.globalNamed "strings.asciiSpace" =some 0:=ad
theorem ane:Tryz.prog.globalNamed "strconv.ErrRange" =some 4:=ad
theorem agH:Tryz.prog.cellsOf 139=256:=ad
theorem aii:Tryz.prog.cellsOf 5=1:=ad
theorem aij:Tryz.prog.cellsOf 9=1:=ad
theorem afA:Tryz.prog.cellsOf 193=1:=ad
theorem star:("*errors.errorString" :String)= "*" ++ "errors.errorString" :=by decide+kernel
theorem afX(u:TypeId)(h:Tryz.prog.typeName? 3 u=some "*errors.errorString"):u=191:=
 typeName_ptr_named (nm:= "errors.errorString") (by rw[<-star];kernel_rfl) ad cl u (by rw[<-star];exact h)
theorem agn:Rows.laid_strings_asciiSpace (H:=Unit)=Lib.tabData .u8 Lib.asciiSpaceTab:=ad
theorem aim{W:World}(h:laidMetH Tryz.prog Rows.progParsesRow.laid W): ∃b o,Rel (xR b o) H0 W/\(∀l,¬H0.rw l)/\(∀l,H0.next<=l->xR b o l=none)/\uU.le (xR b o):=by
 have a6:laidMet Tryz.prog [("math/bits.deBruijn32tab",Rows.laid_math_bits_deBruijn32tab),("math/bits.deBruijn64tab",Rows.laid_math_bits_deBruijn64tab),("internal/strconv.uint64pow10",Rows.laid_internal_strconv_uint64pow10),("strconv.ErrRange",Rows.laid_strconv_ErrRange),("strconv.ErrSyntax",Rows.laid_strconv_ErrSyntax),("unicode.White_Space",Rows.laid_unicode_White_Space),("strings.asciiSpace",Rows.laid_strings_asciiSpace)] W:=h;have ae:=a6.tail.tail.tail;have aG:=ae.tail.tail.tail;rw[agn] at aG;have I_:Lib.TabIs Tryz.prog W "strings.asciiSpace" .u8 Lib.asciiSpaceTab:=
  Lib.tabIs_of_head anf afL Tryz.underlying139 Tryz.underlying5 aii agH aG
 obtain⟨a,s,bw,aS,-,-⟩:=laid_sentinel ae ane afK Tryz.underlying126 afX Tryz.underlying191 Tryz.underlying193 rfl rfl Tryz.underlying9 afA aij;obtain⟨b,o,sp⟩:=a;have apB:sp=none:=by
  unfold World.cell? at aS;split at aS
  ·cases sp with
   |none=>rfl
   |some x=>simp at aS
  ·cases aS
 subst apB;exact⟨b,o,amX I_ bw⟩
end
section
open Go.f7
open Go.ChangeShapes Go.WideShapes Go.ChangeAt Go.RowKit
theorem laidOut:laidOutB Tryz.prog=true:=ad
theorem ari:P.underlying 3=some (.int .i64):=ad
theorem aoh:P.underlying 4=some .bool:=ad
theorem X5:P.underlying 9=some .string:=ad
end
section
open Go.f7
open Go.ChangeShapes Go.WideShapes Go.ChangeAt Go.RowKit
open Go.ChangeMaps (open_string shut_string)
def aog:ByteArray:={data:= #[105,110,118,97,108,105,100,32,115,121,110,116,97,120]}
def aod:ByteArray:={data:= #[118,97,108,117,101,32,111,117,116,32,111,102,32,114,97,110,103,101]}
noncomputable def low:Nat:=(World.holding Tryz.prog default ⟨#[],#[],[]⟩).heap.size
def GL:DataW Unit->Array Value
 | .agg l=>(l.map λ | .lit (.int k z)=>Value.int k z|_=> .nilIface).toArray
 |_=> #[]
def zY(cs:Array Value):Obj->Obj
 | .cells _ t frozen=> .cells cs t frozen
 |o=>o
def ranges:Array Value:= #[.int .u16 9,.int .u16 13,.int .u16 1,.int .u16 32,.int .u16 133,.int .u16 101,.int .u16 160,.int .u16 5760,.int .u16 5600,.int .u16 8192,.int .u16 8202,.int .u16 1,.int .u16 8232,.int .u16 8233,.int .u16 1,.int .u16 8239,.int .u16 8287,.int .u16 48,.int .u16 12288,.int .u16 12288,.int .u16 1]
noncomputable def Ko(os:Os):World:=
 let w0:=World.holding Tryz.prog os ⟨#[.cells #[.string aog] 193,.cells #[.string aod] 193,.cells #[.slice (some ⟨low+3,0,none⟩) 7 7,.slice none 0 0,.int .i64 2] 176,.cells ranges 179],#[],[]⟩
 {w0 with heap:=((((((w0.heap.modify 3 (zY #[.iface 191 (.pointer (some ⟨low,0,none⟩))])).modify 4 (zY #[.iface 191 (.pointer (some ⟨low+1,0,none⟩))])).modify 5 (zY (GL Rows.laid_internal_strconv_uint64pow10))).modify 6 (zY (GL Rows.laid_math_bits_deBruijn32tab))).modify 7 (zY (GL Rows.laid_math_bits_deBruijn64tab))).modify 2 (zY #[.pointer (some ⟨low+2,0,none⟩)])).modify 0 (zY (GL Rows.laid_strings_asciiSpace))}
namespace Sn
set_option maxRecDepth 100000 in
theorem afQ(os:Os):laidMet Tryz.prog Rows.progSameRow.laid ((Ko os).forCall (λ_ _=>0) ⟨#[],#[.string ⟨#[]⟩,.string ⟨#[]⟩],[]⟩).memory:=
 laidMet_of_run' 8 (by kernel_rfl) (by kernel_rfl)
theorem reads(os:Os){H:Type}(enc:TypeId×Value->H): ∃places,DataW.whole enc Tryz.prog ((Ko os).forCall (λ_ _=>0) ⟨#[],#[.string ⟨#[]⟩,.string ⟨#[]⟩],[]⟩).memory Tryz.f5.params.toList Rows.progSameSpec.vars false (#[.string ⟨#[]⟩,.string ⟨#[]⟩]:Array Value).toList 8=some ([.lit (.string []),.lit (.string [])],[],places):=
 ⟨[],by kernel_rfl⟩
set_option maxRecDepth 100000 in
theorem afC(H:Type)(enc:TypeId×Value->H)(W:World)(base:Nat)(args:Array Value)(bU gs:List (DataW H))(before:List MemPlace)
  (EE: ∀(j:Nat) t v,Tryz.f5.params[j]? =some t->args[j]? =some v->Value.okWide Tryz.prog W .any base t v)
  (Jh:DataW.Whole enc Tryz.prog Tryz.f5.params.toList Rows.progSameSpec.vars false W args.toList bU gs before) (gA:laidMetH Tryz.prog Rows.progSameRow.laid W):
  Calls Tryz.prog 5 args W λe FW=> ∃v,e= .returned v/\Rows.progSameSpec.post enc Tryz.prog Tryz.f5 false true false false W args v FW:=by
 obtain⟨b,o,s1,s2,jH,qA⟩:=aim (show laidMetH Tryz.prog Rows.progParsesRow.laid W from gA);have aoZ:=Jh;obtain⟨p,q,aoT,aqk,rfl,uE,arH⟩:=Jh;have hG:DataW.TrodAll enc Tryz.prog W 0 (λ_=>true) true Tryz.f5.params.toList args.toList bU p:=aoT;have HM:Tryz.f5.params= #[9,9]:=by kernel_rfl
 rw[HM] at hG EE;obtain⟨v0,ar7,d0,arp,eh,A5,o0,rfl,rfl,a6,aqp⟩:=trodAll_cons hG;obtain⟨v1,ar8,d1,arq,aU,cE,rfl,rfl,rfl,U,gj⟩:=trodAll_cons aqp;obtain⟨rfl,rfl,rfl⟩:=trodAll_nil gj;obtain rfl:args= #[v0,v1]:=by cases args;simp_all
 obtain⟨rfl,rfl⟩:=trodVars_none aqk;obtain⟨a0,apH,-,-,w0⟩:=open_string (P:=P) X5 (EE 0 9 v0 rfl rfl) a6;obtain⟨bd,Ft,-,-,e8⟩:=open_string (P:=P) X5 (EE 1 9 v1 rfl rfl) U;subst apH;subst Ft;have anI:VZ uU P 5 [.string a0,.string bd] W:=by
  obtain⟨_,H',h,rfl,p⟩:=agh aoP a0.data.toList bd.data.toList;exact⟨xR b o,H0,[.str a0.data.toList,.str bd.data.toList],H',s1,s2,jH,qA,p.1,.cons _ _ _ _ (.str _) (.cons _ _ _ _ (.str _) .nil),afB (c:=di Tryz.f5) (M:=0) G8 (aio G8 aiG) Tryz.func5 (by kernel_rfl) (by kernel_rfl) (by kernel_rfl) (Eq.trans (amU (au P ao) 0 (.str a0.data.toList) (.str bd.data.toList) H0) h)⟩
 refine(afR (c:=di Tryz.f5) G8 Tryz.func5 (by kernel_rfl) anI).mono λe FW ⟨he,Yp⟩=> ?_
 subst he;obtain⟨gB,aps⟩:=O7 laidOut Yp (ts:=[9,9]) (λt bC=>by
  simp only[List.mem_cons,List.not_mem_nil,or_false] at bC;rcases bC with rfl|rfl<;>exact⟨by kernel_rfl,of_decide_eq_true (by kernel_rfl)⟩) hG
 exact⟨_,rfl,_,_,_,[],gB,[],aoZ,trodAll_mk1 (shut_bool (P:=P) aoh _),by rw[HM];exact aps,rfl,Yp.frame _,λh=>by cases h⟩
set_option maxRecDepth 100000 in
theorem lifted(os:Os)(started:os.Started)(H:Type)(enc:TypeId×Value->H)(F:Stop.Interp):
  ReturnsInHanded {} Tryz.checked os 5 .any ((OpenSpec.ofChange Rows.progSameSpec).preRow enc Tryz.prog Tryz.f5 Rows.progSameRow.domain false Rows.progSameRow.laid) (((OpenSpec.ofChange Rows.progSameSpec).at F).post enc Tryz.prog Tryz.f5 false true false false):=by
 obtain⟨places,af⟩:=reads os enc;refine returnsInHanded_of_row (C:=Tryz.checked) (s:=OpenSpec.ofChange Rows.progSameSpec) own started (by kernel_rfl) Tryz.func5
  (witness_row_atRef (enc:=enc) (C:=Tryz.checked) false (Ko os) #[.string ⟨#[]⟩,.string ⟨#[]⟩] rfl (by kernel_rfl) (by kernel_rfl) (by kernel_rfl)
   (OpenSpec.preRow_of_cond 8 af (by kernel_rfl) (λk ah=>by cases ah) (by kernel_rfl) (afQ os))) ?_
 intro W base args bU gs before EE Jh _ _ _ gA _ _;exact afC H enc W base args bU gs before EE Jh gA
theorem said:Rows.ProgSameSaid:=
 OpenClaim.holds_of_cond 5 Tryz.f5 rfl rfl rfl rfl rfl rfl rfl ⟨rfl,rfl,rfl,rfl,rfl⟩ rfl rfl rfl rfl rfl (by kernel_rfl) Tryz.func5 (by kernel_rfl)
  (of_decide_eq_true (by kernel_rfl)) (by unfold Func.isWrapper;first|(rw[if_pos (by decide+kernel)];kernel_rfl)|(rw[if_neg (by decide+kernel)];exact⟨rfl,rfl⟩))
  (λos started H enc _ F=>by rw[OpenClaim.pre_eq_preRow];exact lifted os started H enc F)
theorem plain(f:FuncId)(fn:Func)(ak:Tryz.pinned.checked.prog.funcNamed "runrig/runriglaw5.ProgSame" =some f)(jp:Tryz.pinned.checked.prog.funcs[f]? =some fn):
  true=Tryz.pinned.checked.prog.looks []/\ ∀(j:Nat) t,fn.params[j]? =some t->Tryz.pinned.checked.prog.wantsStandIn t=false:=by
 obtain rfl:f=5:=Option.some.inj ((show Tryz.prog.funcNamed "runrig/runriglaw5.ProgSame" =some 5 by kernel_rfl).symm.trans ak)|>.symm;obtain rfl:fn=Tryz.f5:=(Option.some.inj (Tryz.func5.symm.trans jp)).symm;refine⟨by kernel_rfl,λj t bC=> ?_⟩;have HM:Tryz.f5.params= #[9,9]:=by kernel_rfl
 rw[HM] at bC;have bC:=Array.mem_of_getElem? bC;simp only[List.mem_toArray,List.mem_cons,List.not_mem_nil,or_false] at bC;rcases bC with rfl|rfl
 ·exact(show Tryz.prog.wantsStandIn 9=false by kernel_rfl)
 ·exact(show Tryz.prog.wantsStandIn 9=false by kernel_rfl)
theorem am_:Rows.ProgSameCardSaid:=
 Claim7.holds_tied_plain_at .later [] _ _ _ _ said (λ_ h=>by cases h) (by kernel_rfl) (λ_ h=>by cases h) progSame_row_tie rfl ⟨rfl,rfl⟩ (by kernel_rfl) rfl plain (by kernel_rfl)
end Sn
theorem progSame_holds:Rows.ProgSameCardSaid:=Sn.am_
end
end Go.Proofs.YtghmbpmaafnodaaGreatDoor
