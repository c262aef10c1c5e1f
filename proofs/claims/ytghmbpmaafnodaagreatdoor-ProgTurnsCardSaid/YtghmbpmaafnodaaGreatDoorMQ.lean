/- ProgTurns returns true for every input. -/
import Derived.Shelf.Small.Strs
import Derived.Shelf.LaysC
import Derived.Shelf.Strconv.AtoiAll
import Derived.Shelf.Strings.Search1
import Derived.Shelf.Strings.Prefix
import Derived.Shelf.Strings.Fields
import Derived.Test.YtghmbpmaafnodaaGreatDoorCards
import Derived.Test.YtghmbpmaafnodaaGreatDoorTie
import Derived.Deep.DeepHandedRow
import Derived.Lib.LaidTab
import Derived.Stop.LaidErr
import Derived.Test.YtghmbpmaafnodaaGreatDoorMY
import Derived.ChangeSlices
import Derived.SizedLaws
import Derived.Deep.DeepWitnessRowRef
set_option linter.defProp false
open Option renaming some→I,none→u,map_eq_some_iff→bc,bind_some→de
open Bool renaming true→Y,false→X
open List renaming getElem?_map→cd,not_mem_nil→ef,mem_cons→fg
namespace Go.Proofs
open Go.Shelf
def Tryz.SX:Go.Shelf.Ren:=⟨λ |137=>66|217=>93|266=>112|n=>n,λ |9=>9|5=>5|3=>3|n=>n,λ |n=>n⟩
def Tryz.SW:Go.Proofs.Lays.n137 Tryz.prog Tryz.SX:={
 mixed:=by kernel_rfl
 f137:=Tryz.func66.trans (congrArg I (by kernel_rfl))
 f217:=Tryz.func93.trans (congrArg I (by kernel_rfl))
 f266:=Tryz.func112.trans (congrArg I (by kernel_rfl))
 t3:=Tryz.underlying3
 a3:=Tryz.isAgg3
 z3:=Tryz.sizeOf3
 v3:=Tryz.zeroValue3
 t5:=Tryz.underlying5
 a5:=Tryz.isAgg5
 z5:=Tryz.sizeOf5
 v5:=Tryz.zeroValue5
 t9:=Tryz.underlying9
 a9:=Tryz.isAgg9
 z9:=Tryz.sizeOf9
 v9:=Tryz.zeroValue9}
open Go.RowKit in
def Tryz.strings_IndexByte(s:ByteArray)(c:Int)(w:World):
 Calls Tryz.prog 66 #[.string s,.int .u8 c] w λe a=>e= .returned (.int .i64 (Lib.indexByte s.data.toList c.toNat.toUInt8))/\a=w:=Any.strings_IndexByte Tryz.SW s c w
def Tryz.SZ:Go.Shelf.Ren:=⟨λ |172=>99|244=>115|245=>116|247=>130|279=>131|280=>132|281=>133|282=>134|287=>147|316=>148|171=>150|205=>149|321=>159|322=>160|243=>161|246=>164|283=>166|284=>167|285=>168|286=>169|129=>173|317=>172|318=>174|319=>175|320=>176|337=>179|338=>180|n=>n,λ |9=>9|3=>3|75=>126|76=>127|4=>4|5=>5|167=>149|37=>81|0=>0|85=>150|2=>2|168=>152|53=>165|175=>166|46=>168|210=>171|127=>190|145=>193|143=>191|21=>21|171=>201|173=>204|212=>208|51=>158|20=>20|213=>209|232=>215|233=>216|80=>93|n=>n,λ |15=>3|16=>4|17=>5|18=>6|19=>7|n=>n⟩
def Tryz.Js:Go.Proofs.LaysC.n172 Tryz.prog Tryz.SZ:={
 mixed:=by kernel_rfl
 f129:=Tryz.func173.trans (congrArg I (by kernel_rfl))
 f171:=Tryz.func150.trans (congrArg I (by kernel_rfl))
 f172:=Tryz.func99.trans (congrArg I (by kernel_rfl))
 f205:=Tryz.func149.trans (congrArg I (by kernel_rfl))
 f243:=Tryz.func161.trans (congrArg I (by kernel_rfl))
 f244:=Tryz.func115.trans (congrArg I (by kernel_rfl))
 f245:=Tryz.func116.trans (congrArg I (by kernel_rfl))
 f246:=Tryz.func164.trans (congrArg I (by kernel_rfl))
 f247:=Tryz.func130.trans (congrArg I (by kernel_rfl))
 f279:=Tryz.func131.trans (congrArg I (by kernel_rfl))
 f280:=Tryz.func132.trans (congrArg I (by kernel_rfl))
 f281:=Tryz.func133.trans (congrArg I (by kernel_rfl))
 f282:=Tryz.func134.trans (congrArg I (by kernel_rfl))
 f283:=Tryz.func166.trans (congrArg I (by kernel_rfl))
 f284:=Tryz.func167.trans (congrArg I (by kernel_rfl))
 f285:=Tryz.func168.trans (congrArg I (by kernel_rfl))
 f286:=Tryz.func169.trans (congrArg I (by kernel_rfl))
 f287:=Tryz.func147.trans (congrArg I (by kernel_rfl))
 f316:=Tryz.func148.trans (congrArg I (by kernel_rfl))
 f317:=Tryz.func172.trans (congrArg I (by kernel_rfl))
 f318:=Tryz.func174.trans (congrArg I (by kernel_rfl))
 f319:=Tryz.func175.trans (congrArg I (by kernel_rfl))
 f320:=Tryz.func176.trans (congrArg I (by kernel_rfl))
 f321:=Tryz.func159.trans (congrArg I (by kernel_rfl))
 f322:=Tryz.func160.trans (congrArg I (by kernel_rfl))
 f337:=Tryz.func179.trans (congrArg I (by kernel_rfl))
 f338:=Tryz.func180.trans (congrArg I (by kernel_rfl))
 t0:=Tryz.underlying0
 a0:=Tryz.isAgg0
 z0:=Tryz.sizeOf0
 v0:=Tryz.zeroValue0
 t2:=Tryz.underlying2
 a2:=Tryz.isAgg2
 z2:=Tryz.sizeOf2
 v2:=Tryz.zeroValue2
 t3:=Tryz.underlying3
 a3:=Tryz.isAgg3
 z3:=Tryz.sizeOf3
 v3:=Tryz.zeroValue3
 t4:=Tryz.underlying4
 a4:=Tryz.isAgg4
 z4:=Tryz.sizeOf4
 v4:=Tryz.zeroValue4
 t5:=Tryz.underlying5
 a5:=Tryz.isAgg5
 z5:=Tryz.sizeOf5
 v5:=Tryz.zeroValue5
 t9:=Tryz.underlying9
 a9:=Tryz.isAgg9
 z9:=Tryz.sizeOf9
 v9:=Tryz.zeroValue9
 t20:=Tryz.underlying20
 a20:=Tryz.isAgg20
 z20:=Tryz.sizeOf20
 v20:=Tryz.zeroValue20
 t21:=Tryz.underlying21
 a21:=Tryz.isAgg21
 z21:=Tryz.sizeOf21
 v21:=Tryz.zeroValue21
 t37:=Tryz.underlying81
 a37:=Tryz.isAgg81
 z37:=Tryz.sizeOf81
 v37:=Tryz.zeroValue81
 t46:=Tryz.underlying168
 a46:=Tryz.isAgg168
 z46:=Tryz.sizeOf168
 v46:=Tryz.zeroValue168
 t51:=Tryz.underlying158
 a51:=Tryz.isAgg158
 z51:=Tryz.sizeOf158
 v51:=Tryz.zeroValue158
 t53:=Tryz.underlying165
 a53:=Tryz.isAgg165
 z53:=Tryz.sizeOf165
 v53:=Tryz.zeroValue165
 t75:=Tryz.underlying126
 a75:=Tryz.isAgg126
 z75:=Tryz.sizeOf126
 v75:=Tryz.zeroValue126
 t76:=Tryz.underlying127
 a76:=Tryz.isAgg127
 z76:=Tryz.sizeOf127
 v76:=Tryz.zeroValue127
 t85:=Tryz.underlying150
 a85:=Tryz.isAgg150
 z85:=Tryz.sizeOf150
 v85:=Tryz.zeroValue150
 t127:=Tryz.underlying190
 a127:=Tryz.isAgg190
 z127:=Tryz.sizeOf190
 v127:=Tryz.zeroValue190
 t143:=Tryz.underlying191
 a143:=Tryz.isAgg191
 z143:=Tryz.sizeOf191
 v143:=Tryz.zeroValue191
 t145:=Tryz.underlying193
 a145:=Tryz.isAgg193
 z145:=Tryz.sizeOf193
 v145:=Tryz.zeroValue193
 t167:=Tryz.underlying149
 a167:=Tryz.isAgg149
 z167:=Tryz.sizeOf149
 v167:=Tryz.zeroValue149
 t168:=Tryz.underlying152
 a168:=Tryz.isAgg152
 z168:=Tryz.sizeOf152
 v168:=Tryz.zeroValue152
 t171:=Tryz.underlying201
 a171:=Tryz.isAgg201
 z171:=Tryz.sizeOf201
 v171:=Tryz.zeroValue201
 t173:=Tryz.underlying204
 a173:=Tryz.isAgg204
 z173:=Tryz.sizeOf204
 v173:=Tryz.zeroValue204
 t175:=Tryz.underlying166
 a175:=Tryz.isAgg166
 z175:=Tryz.sizeOf166
 v175:=Tryz.zeroValue166
 t210:=Tryz.underlying171
 a210:=Tryz.isAgg171
 z210:=Tryz.sizeOf171
 v210:=Tryz.zeroValue171
 t212:=Tryz.underlying208
 a212:=Tryz.isAgg208
 z212:=Tryz.sizeOf208
 v212:=Tryz.zeroValue208
 t213:=Tryz.underlying209
 a213:=Tryz.isAgg209
 z213:=Tryz.sizeOf209
 t232:=Tryz.underlying215
 a232:=Tryz.isAgg215
 z232:=Tryz.sizeOf215
 v232:=Tryz.zeroValue215
 t233:=Tryz.underlying216
 a233:=Tryz.isAgg216
 z233:=Tryz.sizeOf216
 v233:=Tryz.zeroValue216
 g15:=by kernel_rfl
 g16:=by kernel_rfl
 g17:=by kernel_rfl
 g18:=by kernel_rfl
 g19:=by kernel_rfl
 t80:=Tryz.underlying93
 a80:=Tryz.isAgg93
 z80:=Tryz.sizeOf93
 v80:=Tryz.zeroValue93
 i0:=by kernel_rfl
 i2:=by kernel_rfl
 i3:=by kernel_rfl
 i4:=by kernel_rfl
 i5:=by kernel_rfl
 i9:=by kernel_rfl
 i20:=by kernel_rfl
 i21:=by kernel_rfl
 i37:=by kernel_rfl
 i46:=by kernel_rfl
 i51:=by kernel_rfl
 i53:=by kernel_rfl
 i75:=by kernel_rfl
 i76:=by kernel_rfl
 i80:=by kernel_rfl
 i85:=by kernel_rfl
 i127:=by kernel_rfl
 i143:=by kernel_rfl
 i145:=by kernel_rfl
 i167:=by kernel_rfl
 i168:=by kernel_rfl
 i171:=by kernel_rfl
 i173:=by kernel_rfl
 i175:=by kernel_rfl
 i210:=by kernel_rfl
 i212:=by kernel_rfl
 i232:=by kernel_rfl
 i233:=by kernel_rfl
 m15:=by kernel_rfl
 m16:=by kernel_rfl
 m17:=by kernel_rfl
 m18:=by kernel_rfl
 m19:=by kernel_rfl
 c0:=by kernel_rfl
 c2:=by kernel_rfl
 c3:=by kernel_rfl
 c4:=by kernel_rfl
 c5:=by kernel_rfl
 c9:=by kernel_rfl
 c20:=by kernel_rfl
 c21:=by kernel_rfl
 c37:=by kernel_rfl
 c46:=by kernel_rfl
 c51:=by kernel_rfl
 c53:=by kernel_rfl
 c75:=by kernel_rfl
 c76:=by kernel_rfl
 c80:=by kernel_rfl
 c85:=by kernel_rfl
 c127:=by kernel_rfl
 c143:=by kernel_rfl
 c145:=by kernel_rfl
 c167:=by kernel_rfl
 c168:=by kernel_rfl
 c171:=by kernel_rfl
 c173:=by kernel_rfl
 c175:=by kernel_rfl
 c210:=by kernel_rfl
 c212:=by kernel_rfl
 c213:=by kernel_rfl
 c232:=by kernel_rfl
 c233:=by kernel_rfl}
open Go.RowKit in
def Tryz.strconv_Atoi_ok(s:ByteArray)(c:s.size<=9223372036854775806)(v:Int)(h:Lib.atoiAll s.data.toList= .ok v)(w:World):
 Calls Tryz.prog 99 #[.string s] w λe a=>e= .returned (.tuple #[.int .i64 v,.nilIface])/\(a=w\/∃t,a=Lib.bytesWorld w 5 t):=Any.strconv_Atoi_ok Tryz.Js s c v h w
open Go.RowKit in
def Tryz.strconv_Atoi_range(s:ByteArray)(d:s.size<=281474976710656)(h:Lib.atoiAll s.data.toList= .range)(ev:Value)(w:World)(i:w.cell? ⟨4,0,u⟩=I ev)(c:ev= .nilIface\/∃k j,ev= .iface k j):
 Calls Tryz.prog 99 #[.string s] w λe a=>∃N,e= .returned (.tuple #[.int .i64 (Lib.atoiSat s.data.toList),.iface 152 (.pointer (I ⟨N,0,u⟩))])/\w.heap.size<=N/\a.heap[N]? =I (.cells #[.string ⟨#[65,116,111,105]⟩,.string s,ev] 171 (0,0))/\Below w.heap.size w a:=Any.strconv_Atoi_range Tryz.Js s d h ev w i c
def Tryz.SY:Go.Shelf.Ren:=⟨λ |157=>100|229=>117|199=>118|261=>135|311=>151|312=>152|n=>n,λ |9=>9|31=>48|3=>3|5=>5|4=>4|119=>139|0=>0|40=>141|152=>155|21=>21|154=>157|51=>158|141=>160|196=>176|193=>173|198=>179|49=>177|194=>174|201=>182|226=>194|46=>168|227=>195|n=>n,λ |0=>0|6=>2|n=>n⟩
def Tryz.Jr:Go.Proofs.Lays.n157 Tryz.prog Tryz.SY:={
 mixed:=by kernel_rfl
 f157:=Tryz.func100.trans (congrArg I (by kernel_rfl))
 f199:=Tryz.func118.trans (congrArg I (by kernel_rfl))
 f229:=Tryz.func117.trans (congrArg I (by kernel_rfl))
 f261:=Tryz.func135.trans (congrArg I (by kernel_rfl))
 f311:=Tryz.func151.trans (congrArg I (by kernel_rfl))
 f312:=Tryz.func152.trans (congrArg I (by kernel_rfl))
 t0:=Tryz.underlying0
 a0:=Tryz.isAgg0
 z0:=Tryz.sizeOf0
 v0:=Tryz.zeroValue0
 t3:=Tryz.underlying3
 a3:=Tryz.isAgg3
 z3:=Tryz.sizeOf3
 v3:=Tryz.zeroValue3
 t4:=Tryz.underlying4
 a4:=Tryz.isAgg4
 z4:=Tryz.sizeOf4
 v4:=Tryz.zeroValue4
 t5:=Tryz.underlying5
 a5:=Tryz.isAgg5
 z5:=Tryz.sizeOf5
 v5:=Tryz.zeroValue5
 t9:=Tryz.underlying9
 a9:=Tryz.isAgg9
 z9:=Tryz.sizeOf9
 v9:=Tryz.zeroValue9
 t21:=Tryz.underlying21
 a21:=Tryz.isAgg21
 z21:=Tryz.sizeOf21
 v21:=Tryz.zeroValue21
 t31:=Tryz.underlying48
 a31:=Tryz.isAgg48
 z31:=Tryz.sizeOf48
 v31:=Tryz.zeroValue48
 t40:=Tryz.underlying141
 a40:=Tryz.isAgg141
 z40:=Tryz.sizeOf141
 v40:=Tryz.zeroValue141
 t46:=Tryz.underlying168
 a46:=Tryz.isAgg168
 z46:=Tryz.sizeOf168
 v46:=Tryz.zeroValue168
 t49:=Tryz.underlying177
 a49:=Tryz.isAgg177
 z49:=Tryz.sizeOf177
 v49:=Tryz.zeroValue177
 t51:=Tryz.underlying158
 a51:=Tryz.isAgg158
 z51:=Tryz.sizeOf158
 v51:=Tryz.zeroValue158
 t119:=Tryz.underlying139
 a119:=Tryz.isAgg139
 z119:=Tryz.sizeOf139
 t141:=Tryz.underlying160
 a141:=Tryz.isAgg160
 z141:=Tryz.sizeOf160
 v141:=Tryz.zeroValue160
 t152:=Tryz.underlying155
 a152:=Tryz.isAgg155
 z152:=Tryz.sizeOf155
 v152:=Tryz.zeroValue155
 t154:=Tryz.underlying157
 a154:=Tryz.isAgg157
 z154:=Tryz.sizeOf157
 v154:=Tryz.zeroValue157
 t193:=Tryz.underlying173
 a193:=Tryz.isAgg173
 z193:=Tryz.sizeOf173
 v193:=Tryz.zeroValue173
 t194:=Tryz.underlying174
 a194:=Tryz.isAgg174
 z194:=Tryz.sizeOf174
 v194:=Tryz.zeroValue174
 t196:=Tryz.underlying176
 a196:=Tryz.isAgg176
 z196:=Tryz.sizeOf176
 v196:=Tryz.zeroValue176
 t198:=Tryz.underlying179
 a198:=Tryz.isAgg179
 z198:=Tryz.sizeOf179
 v198:=Tryz.zeroValue179
 t201:=Tryz.underlying182
 a201:=Tryz.isAgg182
 z201:=Tryz.sizeOf182
 v201:=Tryz.zeroValue182
 t226:=Tryz.underlying194
 a226:=Tryz.isAgg194
 z226:=Tryz.sizeOf194
 v226:=Tryz.zeroValue194
 t227:=Tryz.underlying195
 a227:=Tryz.isAgg195
 z227:=Tryz.sizeOf195
 v227:=Tryz.zeroValue195
 g0:=by kernel_rfl
 g6:=by kernel_rfl}
open Go.RowKit Go.Lib in
def Tryz.strings_Fields(s:ByteArray)(w:World)(au:s.size<4294967281)(a:∀(j:Nat) b,s.data.toList[j]? =I b->b.toNat<128)(c:Lib.TabIs Tryz.prog w "strings.asciiSpace" .u8 Lib.asciiSpaceTab):
 Calls Tryz.prog 100 #[.string s] w λe d=>
  e= .returned (.slice (I ⟨w.heap.size,0,u⟩) (Lib.fields s.data.toList).length (Lib.fields s.data.toList).length)/\d=w.alloc (.cells ((Lib.fields s.data.toList).map λl=>Value.string ⟨l.toArray⟩).toArray 9):=Any.strings_Fields Tryz.Jr (by kernel_rfl) (by kernel_rfl) s w au a c
end Go.Proofs
namespace Go.Proofs.YtghmbpmaafnodaaGreatDoor
section
open Go.bk Go.RowKit
set_option maxRecDepth 100000
def zi{f:Nat}{fn:Func}{c:Code}{xs:List Value}{w:World}{next:Value->World->Prop}(a:P.funcs[f]? =I fn)(i:fn.body=I c)(h:Calls P f xs.toArray w λe d=>∃x,e= .returned x/\next x d):oi P (callFunc f xs.toArray) w next:=by
 have k:(fn.name== "runtime.NumGoroutine")=false:=wn.names fn (Array.mem_of_getElem? a);have m:(callFunc f xs.toArray).run P w= .ok (.enter f xs.toArray) w:=by
  unfold callFunc;simp[a,i];intro j;simp[j]at k
 unfold oi;rw[m];simp only
 refine Calls.mono h λe d l=> ?_
 obtain⟨x,rfl,n⟩:=l;exact n
def abb{ρ:Env}{H:ad}{w c:World}(d:Rel ρ H w)(a:Below w.heap.size w c):Step ρ H w ρ H c:=
 ⟨ρ.le_refl,aV _,λ_ _=>rfl,d.Jd a.block,a.os,a.tape,a.output,a.size,λb h _=>a.block b h,λ_ h=> .inl h,λ_ _ _ h=>h⟩
def oE{H:ad}{l:Nat}{b:b_}(h:(H.push .dead).get l=I b)(a:b≠ .dead):l≠H.next/\H.get l=I b:=by
 rw[ad.k4]at h;split at h
 ·cases h;exact absurd rfl a
 ·rename_i c;exact⟨c,h⟩
def abd{ρ:Env}{H:ad}{w z:World}(B:Rel ρ H w)(C:ρ H.next=u)(j:Below w.heap.size w z)(y:Go.bk.Loc):Step ρ H w (ρ.eM H.next y) (H.push .dead) z:=by
 have k:=Env.lT C y;have o:=B.Jd j.block;have x:∀l,(H.push .dead).rw l->l≠H.next/\H.rw l:=by
  rintro l (⟨e,s,c⟩|⟨es,c⟩)
  ·obtain⟨a,b⟩:=oE c (by simp);exact⟨a,.inl ⟨e,s,b⟩⟩
  ·obtain⟨a,b⟩:=oE c (by simp);exact⟨a,.inr ⟨es,b⟩⟩
 have E:∀l,(H.push .dead).live l->l≠H.next/\H.live l:=by
  rintro l (⟨r,e,s,c⟩|⟨es,c⟩)
  ·obtain⟨a,b⟩:=oE c (by simp);exact⟨a,.inl ⟨r,e,s,b⟩⟩
  ·obtain⟨a,b⟩:=oE c (by simp);exact⟨a,.inr ⟨es,b⟩⟩
 refine⟨k,by simp,λl ak=>Env.hr (by simp at ak;omega),⟨?_,?_,?_⟩,j.os,j.tape,j.output,j.size,λb h _=>j.block b h,?_,?_⟩
 ·intro l ro esz els h;obtain⟨p,c⟩:=oE h (by simp);obtain⟨m,i,d⟩:=o.row l ro esz els c;exact⟨m,k _ _ i,d.mono k⟩
 ·intro l es h;obtain⟨p,c⟩:=oE h (by simp);obtain⟨m,i,ents,clock,d,n,A⟩:=o.map l es c;exact⟨m,k _ _ i,ents,clock,d,n.mono k,A.mono k⟩
 ·intro l l' a b i d p ap aE;obtain⟨q,v⟩:=x l i;obtain⟨n2,F⟩:=E l' d;rw[Env.hr q]at ap;rw[Env.hr n2]at aE;exact o.apart l l' a b v F p ap aE
 ·rintro b ⟨l,m,i,d,n⟩;obtain⟨q,v⟩:=x l i;rw[Env.hr q]at d;exact .inl ⟨l,m,v,d,n⟩
 ·intro l esz els h;exact(oE h (by simp)).2
def T_{H:ad}(s:List UInt8)(c:Int):mK kR P 66 [.str s,.int .u8 c] H (.int .i64 (Lib.indexByte s c.toNat.toUInt8)) H:=by
 intro ρ w xs i m j o next l
 cases j with|cons _ _ _ _ d a=>
 cases a with|cons _ _ _ _ a h=>
 cases d;cases a;cases h;refine zi (c:=n Tryz.f66) Tryz.func66 M ?_;refine Calls.mono (Tryz.strings_IndexByte ⟨s.toArray⟩ c w) ?_;rintro e p ⟨rfl,rfl⟩;have k:(⟨s.toArray⟩:ByteArray).data.toList=s:=by simp
 rw[k];exact⟨_,rfl,l _ _ ρ (.int _ _) (Step.refl i)⟩
def Ub{H:ad}(s:List UInt8)(au:s.length<=281474976710656)(v:Int)(p:Lib.atoiAll s= .ok v):mK kR P 99 [.str s] H (.tuple [.int .i64 v,.nilIface]) H:=by
 intro ρ w xs h z i A next o
 cases i with|cons _ _ _ _ a d=>
 cases a;cases d;have l:(⟨s.toArray⟩:ByteArray).data.toList=s:=by simp
 have x:(⟨s.toArray⟩:ByteArray).size=s.length:=by simp[ByteArray.size]
 refine zi (c:=n Tryz.f99) Tryz.func99 M ?_;refine Calls.mono (Tryz.strconv_Atoi_ok ⟨s.toArray⟩ (by rw[x];omega) v (by rw[l];exact p) w) ?_;rintro e y ⟨rfl,q⟩;have k:Below w.heap.size w y:=by
  rcases q with rfl|⟨t,rfl⟩
  ·exact Below.refl _ _
  ·exact⟨rfl,rfl,rfl,by rw[Lib.bytesWorld_size];omega,λj m=>Lib.bytesWorld_at_old w 5 t j m⟩
 exact⟨_,rfl,o _ _ ρ (.tuple [_,_] [_,_] (.cons _ _ _ _ (.int _ _) (.cons _ _ _ _ .nilIface .nil))) (abb h k)⟩
def F0{ρ:Env}{n m:Nat}(a:h8 kR ρ n m):ρ 0=I ⟨0,0,1,256⟩/\ρ 1=I ⟨4,0,1,1⟩:=⟨a.le 0 _ rfl,a.le 1 _ rfl⟩
def Uc{H:ad}(s:List UInt8)(au:s.length<=281474976710656)(v:H.get 1=I (.row Y 1 nq))(A:Lib.atoiAll s= .range):mK kR P 99 [.str s] H (.tuple [.int .i64 (Lib.atoiSat s),.iface 152 (.ptr H.next 0 0)]) (H.push .dead):=by
 intro ρ w xs h j k O next y
 cases k with|cons _ _ _ _ a d=>
 cases a;cases d;have i:(⟨s.toArray⟩:ByteArray).data.toList=s:=by simp
 have E:(⟨s.toArray⟩:ByteArray).size=s.length:=by simp[ByteArray.size]
 obtain⟨Q,ak,-,c,t,L,m,-,z⟩:=h.row 1 Y 1 nq v;rw[(F0 j).2]at ak;cases ak;obtain⟨-,G⟩:=z 0 _ rfl;obtain⟨-,x,C,B⟩:=G 0 _ rfl;have p:∃K F,x= .iface K F:=by cases B;exact⟨_,_,rfl⟩
 have o:w.cell? ⟨4,0,u⟩=I x:=by
  simp[World.cell?,m];simpa using C
 refine zi (c:=n Tryz.f99) Tryz.func99 M ?_;refine Calls.mono (Tryz.strconv_Atoi_range ⟨s.toArray⟩ (by rw[E];omega) (by rw[i];exact A) x w o (.inr p)) ?_;rintro e R ⟨N,rfl,a,d,l⟩;have q:ρ H.next=none:=j.new _ (aV _) (by simp)
 refine⟨_,rfl,y _ _ (ρ.eM H.next ⟨N,0,1,1⟩) (.tuple [_,_] [_,_] (.cons _ _ _ _ (by rw[i];exact .int _ _) (.cons _ _ _ _ (.iface _ _ _ ?_) .nil))) (abd h q l _)⟩;exact .ptr H.next 0 0 ⟨N,0,1,1⟩ (Env.hs _ _ _)
def abn(c:Nat)(a:c<256):kH[c]? =I [.int .u8 (if Lib.isSp (UInt8.ofNat c)then 1 else 0)]:=by
 simp[kH,Lib.asciiSpaceTab,a]
def Ua{H:ad}(s:List UInt8)(au:s.length<4294967281)(B:∀(j:Nat) b,s[j]? =I b->b.toNat<128)(G:H.get 0=I (.row Y 1 kH)):mK kR P 100 [.str s] H (.ax H.next 0 (Lib.fields s).length 1 (I (Lib.fields s).length)) (H.push (.row X 1 ((Lib.fields s).map λl=>[.str l]))):=by
 intro ρ w xs d q C V next L
 cases C with|cons _ _ _ _ z A=>
 cases z;cases A;have m:(⟨s.toArray⟩:ByteArray).data.toList=s:=by simp
 have R:(⟨s.toArray⟩:ByteArray).size=s.length:=by simp[ByteArray.size]
 obtain⟨W,ak,-,c,t,T,E,-,N⟩:=d.row 0 Y 1 kH G;rw[(F0 q).1]at ak;cases ak;have ar:∀k:Nat,k<256->w.cell? ⟨0,k,u⟩=I (.int .u8 (if Lib.isSp (UInt8.ofNat k)then 1 else 0)):=λk K=>by
  obtain⟨-,S⟩:=N k _ (abn k K);obtain⟨-,x,Q,O⟩:=S 0 _ rfl;cases O;simp[World.cell?,E];simpa using Q
 have F:ρ H.next=none:=q.new _ (aV _) (by simp)
 have a:=Any.strings_Fields_core Tryz.Jr M ⟨s.toArray⟩ w (by rw[R];exact au) (by rw[m];exact B) ar;rw[m]at a;refine zi (c:=n Tryz.f100) Tryz.func100 M ?_;refine Calls.mono a ?_;rintro e aa ⟨rfl,rfl⟩;refine⟨_,rfl,L _ _ (ρ.eM H.next ⟨w.heap.size,0,1,(Lib.fields s).length⟩) ?_ (B7 d F _ rfl _ _ rfl ?_ (λes h=>by cases h))⟩
 ·exact .ax H.next 0 _ _ ⟨w.heap.size,0,1,(Lib.fields s).length⟩ _ _ (Env.hs _ _ _) (aV _) (λk h=>by cases h;rfl) (λ_=>⟨rfl,by simp⟩)
 ·intro ro esz els h;cases h;refine⟨rfl,_,_,_,heap_alloc_new w _,λ_=>⟨by simp,λo _ h=>ae⟩,λi e p=> ?_⟩;rw[cd]at p;obtain⟨l,ak,rfl⟩:=bc.1 p;refine⟨rfl,λj v y=> ?_⟩;rcases j with _|j
  ·cases y;exact⟨rfl,_,by simp[ak],.str _⟩
  ·simp at y
def Ud:jH kR P aj:=by
 intro g args H v H' h;unfold aj at h;split at h
 ·cases h;exact T_ _ _
 ·split at h
  ·rename_i a;cases h;exact Ua _ a.1 a.2.1 a.2.2
  ·cases h
 ·split at h
  ·rename_i a;split at h
   ·rename_i v c;cases h;exact Ub _ a.1 _ c
   ·rename_i c;cases h;exact Uc _ a.1 a.2 c
   ·cases h
  ·cases h
 ·cases h
end
section
open Go.bk
open Go.ChangeShapes Go.WideShapes Go.ChangeAt Go.RowKit
def own:ownKnob Tryz.prog.godebug=none:=M
def H0:ad:=((ad.empty.push (.row Y 1 kH)).push (.row Y 1 nq)).push .dead
def zD{l:Nat}{b:b_}(h:H0.get l=I b):(l=0/\b= .row Y 1 kH)\/(l=1/\b= .row Y 1 nq)\/(l=2/\b= .dead):=by
 unfold H0 at h;rw[ad.k4]at h;split at h
 ·rename_i ak;exact .inr (.inr ⟨ak,(Option.some.inj h).symm⟩)
 ·rw[ad.k4]at h;split at h
  ·rename_i ak;exact .inr (.inl ⟨ak,(Option.some.inj h).symm⟩)
  ·rw[ad.k4]at h;split at h
   ·rename_i ak;exact .inl ⟨ak,(Option.some.inj h).symm⟩
   ·rw[ad.QY]at h;cases h
def o6(b o:Nat):Env:=λl=>if l=0 then I ⟨0,0,1,256⟩else if l=1 then I ⟨4,0,1,1⟩else if l=2 then I ⟨b,o,1,1⟩else u
def R6:fq.gd H0:=
 ⟨(ad.dv aC).trans ((ad.dv aC).trans (ad.a_ ad.empty (.row Y 1 kH))),
  (ad.dv aC).trans (ad.a_ (ad.empty.push (.row Y 1 kH)) (.row Y 1 nq))⟩
def aaH{W:World}(aq:Lib.TabIs Tryz.prog W "strings.asciiSpace" .u8 Lib.asciiSpaceTab){b o:Nat}(a:W.var? Tryz.prog "strconv.ErrRange" =I #[.iface 191 (.pointer (I ⟨b,o,u⟩))]):
  Rel (o6 b o) H0 W/\(∀l,¬H0.rw l)/\(∀l,H0.next<=l->o6 b o l=u)/\kR.le (o6 b o):=by
 have g0:Tryz.prog.globalNamed "strings.asciiSpace" =I 0:=M;have p:Tryz.prog.globalNamed "strconv.ErrRange" =I 4:=M;unfold Lib.TabIs World.var? at aq;unfold World.var? at a;rw[g0,de]at aq;rw[p,de]at a;have m:∀l,¬H0.rw l:=by
  rintro l (⟨e,s,h⟩|⟨es,h⟩)<;>rcases zD h with⟨_,h⟩|⟨_,h⟩|⟨_,h⟩<;>cases h
 refine⟨⟨?_,?_,λl l' _ _ h=>absurd h (m l)⟩,m,?_,?_⟩
 ·intro l ro esz els h;rcases zD h with⟨rfl,h⟩|⟨rfl,h⟩|⟨_,h⟩
  ·cases h;split at aq
   ·rename_i cs t n k;obtain rfl:=Option.some.inj aq;refine⟨_,rfl,rfl,_,_,_,k,λh=>(by cases h),λi e c=> ?_⟩;simp only[kH,cd,bc]at c;obtain⟨z,q,rfl⟩:=c;refine⟨rfl,λj v d=> ?_⟩;rcases j with _|j
    ·cases d;exact⟨rfl,.int .u8 z,by simp[q],.int _ _⟩
    ·simp at d
   ·cases aq
  ·cases h;split at a
   ·rename_i cs t n k;obtain rfl:=Option.some.inj a;refine⟨_,rfl,rfl,_,_,_,k,λh=>(by cases h),λi e c=> ?_⟩;rcases i with _|i
    ·cases c;refine⟨rfl,λj v d=> ?_⟩;rcases j with _|j
     ·cases d;exact⟨rfl,_,rfl,.iface _ _ _ (.ptr 2 0 0 ⟨b,o,1,1⟩ rfl)⟩
     ·simp at d
    ·simp[nq]at c
   ·cases a
  ·cases h
 ·intro l es h;rcases zD h with⟨_,h⟩|⟨_,h⟩|⟨_,h⟩<;>cases h
 ·intro l ak;have:3<=l:=ak;unfold o6;rw[if_neg ae,if_neg ae,if_neg ae]
 ·intro l w h;unfold kR at h;split at h
  ·exact h
  ·exact h
  ·cases h
def R5:(Tryz.prog.globals[0]?).map (·.type)=I 139:=M
def R3:(Tryz.prog.globals[4]?).map (·.type)=I 126:=M
def R4:Tryz.prog.globalNamed "strings.asciiSpace" =I 0:=M
def R2:Tryz.prog.globalNamed "strconv.ErrRange" =I 4:=M
def QE:Tryz.prog.cellsOf 139=256:=M
def QD:Tryz.prog.cellsOf 5=1:=M
def QF:Tryz.prog.cellsOf 9=1:=M
def QC:Tryz.prog.cellsOf 193=1:=M
def star:("*errors.errorString" :String)= "*" ++ "errors.errorString" :=by decide+kernel
def TE(a:TypeId)(h:Tryz.prog.typeName? 3 a=I "*errors.errorString"):a=191:=
 typeName_ptr_named (nm:= "errors.errorString") (by rw[<-star];kernel_rfl) M aC a (by rw[<-star];exact h)
def aa4:Rows.laid_strings_asciiSpace (H:=Unit)=Lib.tabData .u8 Lib.asciiSpaceTab:=M
def QZ{W:World}(h:laidMetH Tryz.prog Rows.progParsesRow.laid W):∃b o,Rel (o6 b o) H0 W/\(∀l,¬H0.rw l)/\(∀l,H0.next<=l->o6 b o l=u)/\kR.le (o6 b o):=by
 have j:laidMet Tryz.prog [("math/bits.deBruijn32tab",Rows.laid_math_bits_deBruijn32tab),("math/bits.deBruijn64tab",Rows.laid_math_bits_deBruijn64tab),("internal/strconv.uint64pow10",Rows.laid_internal_strconv_uint64pow10),("strconv.ErrRange",Rows.laid_strconv_ErrRange),("strconv.ErrSyntax",Rows.laid_strconv_ErrSyntax),("unicode.White_Space",Rows.laid_unicode_White_Space),("strings.asciiSpace",Rows.laid_strings_asciiSpace)] W:=h;have d:=j.tail.tail.tail;have e:=d.tail.tail.tail;rw[aa4]at e;have y9:Lib.TabIs Tryz.prog W "strings.asciiSpace" .u8 Lib.asciiSpaceTab:=
  Lib.tabIs_of_head R4 R5 Tryz.underlying139 Tryz.underlying5 QD QE e
 obtain⟨a,s,m,c,-,-⟩:=laid_sentinel d R2 R3 Tryz.underlying126 TE Tryz.underlying191 Tryz.underlying193 rfl rfl Tryz.underlying9 QC QF;obtain⟨b,o,i⟩:=a;have k:i=none:=by
  unfold World.cell? at c;split at c
  ·cases i with
   |none=>rfl
   |some x=>simp at c
  ·cases c
 subst k;exact⟨b,o,aaH y9 m⟩
end
section
open Go.bk
open Go.ChangeShapes Go.WideShapes Go.ChangeAt Go.RowKit
def laidOut:laidOutB Tryz.prog=true:=M
def abN:P.underlying 3=I (.int .i64):=M
def abO:P.underlying 4=I .bool:=M
def abP:P.underlying 9=I .string:=M
end
section
open Go.bk
open Go.ChangeShapes Go.WideShapes Go.ChangeAt Go.RowKit
def DL:P.underlying 35=I (.slice 3):=M
def QB:P.cellsOf 3=1:=M
set_option maxRecDepth 100000 in
def T9{H:Type}{enc:TypeId×Value->H}{W:World}{ρ:Env}{A:ad}(au:Seen ρ A W){r:Reach}{Q:Nat}{v:Value}{d:DataW H}{aj:List MemPlace}(ah:Value.okWide P W r Q 35 v)(h:DataW.Trod enc P W 0 (λ_=>Y) Y 35 v d aj):
  ∃(O:List Int) (E:Env) (s:ad) (N:aa),Seen E s W/\ρ.le E/\aw A s/\bz E N v/\mN s O N/\(O=[]\/∃x y,d= .slice x y/\x.length=O.length):=by
 obtain⟨a0,len,cap,rfl⟩:=okWide_slice (P:=P) DL ah;obtain⟨ak,T⟩:=h;rcases open_ints (P:=P) DL abN QB T with⟨o,_⟩|⟨a,l,c,q,o,_,ab,_,ai,M,G,_⟩
 ·simp[Value.cells]at o;obtain⟨rfl,rfl,rfl⟩:=o;exact⟨[],ρ,A,.ag,au,Env.le_refl _,.refl _,.ag,.inl ⟨.inl rfl,rfl⟩,.inl rfl⟩
 ·simp[Value.cells]at o;obtain⟨rfl,rfl,rfl⟩:=o;simp only[if_true]at ai;simp only[bS]at M;obtain⟨rfl,-⟩:=M;by_cases al:0<cap
  ·have n:=G 0 ae;have B:a.spot=none:=by
    have R:=World.cell?_spot n;simpa [Addr.add]using R
   obtain⟨p,C,w,F⟩:∃p C w,W.heap[a.block]? =I (.cells p C w):=by
    rw[Ed B]at n;unfold World.cell? at n;simp only at n;split at n
    ·exact⟨_,_,_,‹_›⟩
    ·cases n
   have S:∀i,i<cap->p[a.off+i]? =I (.int .i64 (q.getD i 0)):=by
    intro i V;have:=G i ae;rw[Ed B]at this;unfold World.cell? at this;simpa [F]using this
   have af:Go.bk.hc ρ W ⟨a.block,a.off,1,a.off+cap⟩ Y 1 (q.map λz=>[.int .i64 z]):=by
    refine⟨rfl,p,C,w,F,λh=>(by cases h),λi e K=> ?_⟩;simp only[cd,bc]at K;obtain⟨z,m,rfl⟩:=K;refine⟨rfl,λj v L=> ?_⟩;rcases j with _|j
    ·cases L;have V:i<q.length:=(List.getElem?_eq_some_iff.1 m).1;have:=S i ae;refine⟨rfl,_,?_,.int .i64 z⟩;simp only[Nat.mul_one,Nat.add_zero];rw[this];simp[m]
    ·simp at L
   refine⟨q.take len,_,_,.ax A.next 0 len 1 u,au.push af,au.lT _,aw.push _ _,?_,.inr ⟨A.next,u,Y,_,?_,ad.a_ _ _,λi z m=> ?_⟩,.inr ⟨_,_,rfl,by simp[lits]⟩⟩
   ·refine bz.ax (ρ:=ρ.eM A.next ⟨a.block,a.off,1,a.off+cap⟩) A.next 0 len u _ a cap (Env.hs _ _ _) ab (λk h=>by cases h) λ_=>⟨?_,by simp⟩
    obtain⟨aI,a2,a3⟩:=a;cases B;simp
   ·rw[List.length_take,Nat.min_eq_left ae]
   ·rw[List.getElem?_take]at m;split at m
    ·simp[m]
    ·cases m
  ·obtain rfl:cap=0:=ae;obtain rfl:len=0:=ae;refine⟨[],_,_,.ax A.next 0 0 1 u,au.blank ⟨0,0,1,0⟩,au.lT _,aw.push _ _,?_,.inl ⟨.inr ⟨_,_,_,rfl⟩,rfl⟩,.inl rfl⟩;exact bz.ax (ρ:=ρ.eM A.next ⟨0,0,1,0⟩) A.next 0 0 u _ a 0 (Env.hs _ _ _) (aV _) (λk h=>by cases h) λh=>absurd h ae
end
section
open Go.bk
open Go.ChangeShapes Go.WideShapes Go.ChangeAt Go.RowKit
open Go.ChangeMaps (open_string shut_string)
def abm:ByteArray:={data:= #[105,110,118,97,108,105,100,32,115,121,110,116,97,120]}
def U6:ByteArray:={data:= #[118,97,108,117,101,32,111,117,116,32,111,102,32,114,97,110,103,101]}
noncomputable def low:Nat:=(World.holding Tryz.prog default ⟨#[],#[],[]⟩).heap.size
def vM:DataW Unit->Array Value
 | .agg l=>(l.map λ | .lit (.int k z)=>Value.int k z|_=> .nilIface).toArray
 |_=> #[]
def oJ(cs:Array Value):Obj->Obj
 | .cells _ t frozen=> .cells cs t frozen
 |o=>o
def ranges:Array Value:= #[.int .u16 9,.int .u16 13,.int .u16 1,.int .u16 32,.int .u16 133,.int .u16 101,.int .u16 160,.int .u16 5760,.int .u16 5600,.int .u16 8192,.int .u16 8202,.int .u16 1,.int .u16 8232,.int .u16 8233,.int .u16 1,.int .u16 8239,.int .u16 8287,.int .u16 48,.int .u16 12288,.int .u16 12288,.int .u16 1]
noncomputable def Be(os:Os):World:=
 let w0:=World.holding Tryz.prog os ⟨#[.cells #[.string abm] 193,.cells #[.string U6] 193,.cells #[.slice (I ⟨low+3,0,u⟩) 7 7,.slice u 0 0,.int .i64 2] 176,.cells ranges 179],#[],[]⟩
 {w0 with heap:=((((((w0.heap.modify 3 (oJ #[.iface 191 (.pointer (I ⟨low,0,u⟩))])).modify 4 (oJ #[.iface 191 (.pointer (I ⟨low+1,0,u⟩))])).modify 5 (oJ (vM Rows.laid_internal_strconv_uint64pow10))).modify 6 (oJ (vM Rows.laid_math_bits_deBruijn32tab))).modify 7 (oJ (vM Rows.laid_math_bits_deBruijn64tab))).modify 2 (oJ #[.pointer (I ⟨low+2,0,u⟩)])).modify 0 (oJ (vM Rows.laid_strings_asciiSpace))}
namespace LD
set_option maxRecDepth 100000 in
def SU(os:Os):laidMet Tryz.prog Rows.progTurnsRow.laid ((Be os).forCall (λ_ _=>0) ⟨#[],#[.string ⟨#[]⟩,.slice u 0 0],[]⟩).memory:=
 laidMet_of_run' 8 (by kernel_rfl) (by kernel_rfl)
def reads(os:Os){H:Type}(enc:TypeId×Value->H):∃a,DataW.whole enc Tryz.prog ((Be os).forCall (λ_ _=>0) ⟨#[],#[.string ⟨#[]⟩,.slice u 0 0],[]⟩).memory Tryz.f4.params.toList Rows.progTurnsSpec.vars X (#[.string ⟨#[]⟩,.slice u 0 0]:Array Value).toList 8=I ([.lit (.string []),.nil],[],a):=
 ⟨[],by kernel_rfl⟩
set_option maxRecDepth 100000 in
def QO(H:Type)(enc:TypeId×Value->H)(W:World)(E:Nat)(args:Array Value)(a d:List (DataW H))(before:List MemPlace)
  (k:∀(j:Nat) t v,Tryz.f4.params[j]? =I t->args[j]? =I v->Value.okWide Tryz.prog W .any E t v)
  (z:DataW.Whole enc Tryz.prog Tryz.f4.params.toList Rows.progTurnsSpec.vars X W args.toList a d before) (ad:(DataW.weightsEach Tryz.prog (Tryz.f4.params.toList++(OpenSpec.ofChange Rows.progTurnsSpec).bare.plain.varTypes Tryz.prog) (a++d)).all (· <=reachBytes)=Y) (L:laidMetH Tryz.prog Rows.progTurnsRow.laid W):
  Calls Tryz.prog 4 args W λe s=>∃v,e= .returned v/\Rows.progTurnsSpec.post enc Tryz.prog Tryz.f4 X Y X X W args v s:=by
 obtain⟨b,o,s1,ak,am,ho⟩:=QZ (show laidMetH Tryz.prog Rows.progTurnsRow.laid W from L);have S:=z;obtain⟨p,q,K,R,rfl,au,aw⟩:=z;have B:(DataW.weightsEach Tryz.prog (Tryz.f4.params.toList++(OpenSpec.ofChange Rows.progTurnsSpec).bare.plain.varTypes Tryz.prog) (a++d)).all (· <=reachBytes)=true:=ad;have i:DataW.TrodAll enc Tryz.prog W 0 (λ_=>Y) Y Tryz.f4.params.toList args.toList a p:=K;have A:Tryz.f4.params= #[9,35]:=by kernel_rfl
 rw[A]at i k B;obtain⟨v0,aB,d0,ao,az,iH,ar,rfl,rfl,F,ah⟩:=trodAll_cons i;obtain⟨l,aC,d1,ap,aA,aX,rfl,rfl,rfl,G,ai⟩:=trodAll_cons ah;obtain⟨rfl,rfl,rfl⟩:=trodAll_nil ai;obtain rfl:args= #[v0,l]:=by cases args;simp_all
 obtain⟨rfl,rfl⟩:=trodVars_none R;obtain⟨a0,ae,-,-,w0⟩:=open_string (P:=P) abP (k 0 9 v0 rfl rfl) F;subst ae;have aa:D4 kR P 4 [.string a0,l] W:=by
  obtain⟨O,an,m,C,t1,t2,t3,t4,t5,t6⟩:=T9 ⟨s1,ak,am⟩ (k 1 35 l rfl rfl) G;have Q:O.length<=1125899906842624:=by
   rcases t6 with rfl|⟨x,y,rfl,ay⟩
   ·simp
   ·have q:=sized_slice B (j:=1) (t:=35) (e:=3) (elems:=x) (spare:=y) rfl rfl DL;have T:Tryz.prog.bytesOf 3=8:=by kernel_rfl
    rw[T]at q;simp only[reachBytes]at q;omega
  obtain⟨N,_,H',h,rfl,p⟩:=abz (R6.av t3) a0.data.toList t5 Q;exact⟨an,m,[.str a0.data.toList,C],H',t1.rel,t1.ro,t1.top,Env.le_trans ho t2,p.1,.cons _ _ _ _ (.str _) (.cons _ _ _ _ t4 .nil),QK (c:=n Tryz.f4) (M:=N) wn (Q_ wn Ud) Tryz.func4 (by kernel_rfl) (by kernel_rfl) (by kernel_rfl) (Eq.trans (Zs (al P aj) N (.str a0.data.toList) C m) h)⟩
 refine(SV (c:=n Tryz.f4) wn Tryz.func4 (by kernel_rfl) aa).mono λe s ⟨V,w⟩=> ?_
 subst V;obtain⟨af,ab⟩:=NV laidOut w (ts:=[9,35]) (λt aq=>by
  simp only[fg,ef,or_false]at aq;rcases aq with rfl|rfl<;>exact⟨by kernel_rfl,of_decide_eq_true (by kernel_rfl)⟩) i
 exact⟨_,rfl,_,_,_,[],af,[],S,trodAll_mk1 (shut_bool (P:=P) abO _),by rw[A];exact ab,rfl,w.frame _,λh=>by cases h⟩
set_option maxRecDepth 100000 in
def lifted(os:Os)(n:os.Started)(H:Type)(enc:TypeId×Value->H)(F:Stop.Interp):
  ReturnsInHanded {} Tryz.checked os 4 .any ((OpenSpec.ofChange Rows.progTurnsSpec).preRow enc Tryz.prog Tryz.f4 Rows.progTurnsRow.domain X Rows.progTurnsRow.laid) (((OpenSpec.ofChange Rows.progTurnsSpec).at F).post enc Tryz.prog Tryz.f4 X Y X X):=by
 obtain⟨o,m⟩:=reads os enc;refine returnsInHanded_of_row (C:=Tryz.checked) (s:=OpenSpec.ofChange Rows.progTurnsSpec) own n (by kernel_rfl) Tryz.func4
  (witness_row_atRef (enc:=enc) (C:=Tryz.checked) X (Be os) #[.string ⟨#[]⟩,.slice u 0 0] rfl (by kernel_rfl) (by kernel_rfl) (by kernel_rfl)
   (OpenSpec.preRow_of_cond 8 m (by kernel_rfl) (λk i=>by cases i) (by kernel_rfl) (SU os))) ?_
 intro W a args c d before l h _ _ j e _ _;exact QO H enc W a args c d before l h j e
def said:Rows.ProgTurnsSaid:=
 OpenClaim.holds_of_cond 4 Tryz.f4 rfl rfl rfl rfl rfl rfl rfl ⟨rfl,rfl,rfl,rfl,rfl⟩ rfl rfl rfl rfl rfl (by kernel_rfl) Tryz.func4 (by kernel_rfl)
  (of_decide_eq_true (by kernel_rfl)) (by unfold Func.isWrapper;first|(rw[if_pos (by decide+kernel)];kernel_rfl)|(rw[if_neg (by decide+kernel)];exact⟨rfl,rfl⟩))
  (λos a H enc _ F=>by rw[OpenClaim.pre_eq_preRow];exact lifted os a H enc F)
def plain(f:FuncId)(fn:Func)(a:Tryz.pinned.checked.prog.funcNamed "runrig/runriglaw5.ProgTurns" =I f)(c:Tryz.pinned.checked.prog.funcs[f]? =I fn):
  Y=Tryz.pinned.checked.prog.looks []/\∀(j:Nat) t,fn.params[j]? =I t->Tryz.pinned.checked.prog.wantsStandIn t=false:=by
 obtain rfl:f=4:=Option.some.inj ((show Tryz.prog.funcNamed "runrig/runriglaw5.ProgTurns" =I 4 by kernel_rfl).symm.trans a)|>.symm;obtain rfl:fn=Tryz.f4:=(Option.some.inj (Tryz.func4.symm.trans c)).symm;refine⟨by kernel_rfl,λj t aq=> ?_⟩;have d:Tryz.f4.params= #[9,35]:=by kernel_rfl
 rw[d]at aq;have aq:=Array.mem_of_getElem? aq;simp only[List.mem_toArray,fg,ef,or_false]at aq;rcases aq with rfl|rfl
 ·exact(show Tryz.prog.wantsStandIn 9=X by kernel_rfl)
 ·exact(show Tryz.prog.wantsStandIn 35=X by kernel_rfl)
def QA:Rows.ProgTurnsCardSaid:=
 Claim7.holds_tied_plain_at .later [] _ _ _ _ said (λ_ h=>by cases h) (by kernel_rfl) (λ_ h=>by cases h) progTurns_row_tie rfl ⟨rfl,rfl⟩ (by kernel_rfl) rfl plain (by kernel_rfl)
end LD
theorem progTurns_holds:Rows.ProgTurnsCardSaid:=LD.QA
