/-
  Texts of one proof, laid together: Lays Orc Start Rt ProgMany.
-/
import Derived.Shelf.Small.Strs
import Derived.Shelf.LaysC
import Derived.Shelf.Strconv.AtoiAll
import Derived.Shelf.Strings.Search1
import Derived.Shelf.Strings.Prefix
import Derived.Shelf.Strings.Fields
import Derived.Test.YtghmbpmaafnodaaGreatDoorProg
import Derived.Test.YtghmbpmaafnodaaGreatDoorMD
import Derived.Test.YtghmbpmaafnodaaGreatDoorME
import Derived.Test.YtghmbpmaafnodaaGreatDoorCards
import Derived.Test.YtghmbpmaafnodaaGreatDoorTie
import Derived.Test.YtghmbpmaafnodaaGreatDoorMS
import Derived.ProofKit
import Derived.OpenShut
import Derived.Deep.DeepHandedRow
import Derived.Lib.LaidTab
import Derived.Stop.LaidErr
import Derived.Test.YtghmbpmaafnodaaGreatDoorMY
import Derived.Deep.DeepWitnessRowRef
set_option linter.unusedVariables false
set_option linter.unusedSimpArgs false
namespace Go.Proofs
open Go.Shelf
def Tryz.lays137_ren : Go.Shelf.Ren := ⟨fun | 137 => 66 | 217 => 93 | 266 => 112 | n => n, fun | 9 => 9 | 5 => 5 | 3 => 3 | n => n, fun | n => n⟩
theorem Tryz.lays137 : Go.Proofs.Lays.n137 Tryz.prog Tryz.lays137_ren := {
 mixed := by kernel_rfl
 f137 := Tryz.func66.trans (congrArg some (by kernel_rfl))
 f217 := Tryz.func93.trans (congrArg some (by kernel_rfl))
 f266 := Tryz.func112.trans (congrArg some (by kernel_rfl))
 t3 := Tryz.underlying3
 a3 := Tryz.isAgg3
 z3 := Tryz.sizeOf3
 v3 := Tryz.zeroValue3
 t5 := Tryz.underlying5
 a5 := Tryz.isAgg5
 z5 := Tryz.sizeOf5
 v5 := Tryz.zeroValue5
 t9 := Tryz.underlying9
 a9 := Tryz.isAgg9
 z9 := Tryz.sizeOf9
 v9 := Tryz.zeroValue9 }
open Go.RowKit in
theorem Tryz.strings_IndexByte (s : ByteArray) (c : Int) (w : World) :
  Calls Tryz.prog 66 #[.string s, .int .u8 c] w fun e w' => e = .returned (.int .i64 (Lib.indexByte s.data.toList c.toNat.toUInt8)) ∧ w' = w := Any.strings_IndexByte Tryz.lays137 s c w
def Tryz.laysC172_ren : Go.Shelf.Ren := ⟨fun | 172 => 99 | 244 => 115 | 245 => 116 | 247 => 130 | 279 => 131 | 280 => 132 | 281 => 133 | 282 => 134 | 287 => 147 | 316 => 148 | 171 => 150 | 205 => 149 | 321 => 159 | 322 => 160 | 243 => 161 | 246 => 164 | 283 => 166 | 284 => 167 | 285 => 168 | 286 => 169 | 129 => 173 | 317 => 172 | 318 => 174 | 319 => 175 | 320 => 176 | 337 => 179 | 338 => 180 | n => n, fun | 9 => 9 | 3 => 3 | 75 => 126 | 76 => 127 | 4 => 4 | 5 => 5 | 167 => 149 | 37 => 81 | 0 => 0 | 85 => 150 | 2 => 2 | 168 => 152 | 53 => 165 | 175 => 166 | 46 => 168 | 210 => 171 | 127 => 190 | 145 => 193 | 143 => 191 | 21 => 21 | 171 => 201 | 173 => 204 | 212 => 208 | 51 => 158 | 20 => 20 | 213 => 209 | 232 => 215 | 233 => 216 | 80 => 93 | n => n, fun | 15 => 3 | 16 => 4 | 17 => 5 | 18 => 6 | 19 => 7 | n => n⟩
theorem Tryz.laysC172 : Go.Proofs.LaysC.n172 Tryz.prog Tryz.laysC172_ren := {
 mixed := by kernel_rfl
 f129 := Tryz.func173.trans (congrArg some (by kernel_rfl))
 f171 := Tryz.func150.trans (congrArg some (by kernel_rfl))
 f172 := Tryz.func99.trans (congrArg some (by kernel_rfl))
 f205 := Tryz.func149.trans (congrArg some (by kernel_rfl))
 f243 := Tryz.func161.trans (congrArg some (by kernel_rfl))
 f244 := Tryz.func115.trans (congrArg some (by kernel_rfl))
 f245 := Tryz.func116.trans (congrArg some (by kernel_rfl))
 f246 := Tryz.func164.trans (congrArg some (by kernel_rfl))
 f247 := Tryz.func130.trans (congrArg some (by kernel_rfl))
 f279 := Tryz.func131.trans (congrArg some (by kernel_rfl))
 f280 := Tryz.func132.trans (congrArg some (by kernel_rfl))
 f281 := Tryz.func133.trans (congrArg some (by kernel_rfl))
 f282 := Tryz.func134.trans (congrArg some (by kernel_rfl))
 f283 := Tryz.func166.trans (congrArg some (by kernel_rfl))
 f284 := Tryz.func167.trans (congrArg some (by kernel_rfl))
 f285 := Tryz.func168.trans (congrArg some (by kernel_rfl))
 f286 := Tryz.func169.trans (congrArg some (by kernel_rfl))
 f287 := Tryz.func147.trans (congrArg some (by kernel_rfl))
 f316 := Tryz.func148.trans (congrArg some (by kernel_rfl))
 f317 := Tryz.func172.trans (congrArg some (by kernel_rfl))
 f318 := Tryz.func174.trans (congrArg some (by kernel_rfl))
 f319 := Tryz.func175.trans (congrArg some (by kernel_rfl))
 f320 := Tryz.func176.trans (congrArg some (by kernel_rfl))
 f321 := Tryz.func159.trans (congrArg some (by kernel_rfl))
 f322 := Tryz.func160.trans (congrArg some (by kernel_rfl))
 f337 := Tryz.func179.trans (congrArg some (by kernel_rfl))
 f338 := Tryz.func180.trans (congrArg some (by kernel_rfl))
 t0 := Tryz.underlying0
 a0 := Tryz.isAgg0
 z0 := Tryz.sizeOf0
 v0 := Tryz.zeroValue0
 t2 := Tryz.underlying2
 a2 := Tryz.isAgg2
 z2 := Tryz.sizeOf2
 v2 := Tryz.zeroValue2
 t3 := Tryz.underlying3
 a3 := Tryz.isAgg3
 z3 := Tryz.sizeOf3
 v3 := Tryz.zeroValue3
 t4 := Tryz.underlying4
 a4 := Tryz.isAgg4
 z4 := Tryz.sizeOf4
 v4 := Tryz.zeroValue4
 t5 := Tryz.underlying5
 a5 := Tryz.isAgg5
 z5 := Tryz.sizeOf5
 v5 := Tryz.zeroValue5
 t9 := Tryz.underlying9
 a9 := Tryz.isAgg9
 z9 := Tryz.sizeOf9
 v9 := Tryz.zeroValue9
 t20 := Tryz.underlying20
 a20 := Tryz.isAgg20
 z20 := Tryz.sizeOf20
 v20 := Tryz.zeroValue20
 t21 := Tryz.underlying21
 a21 := Tryz.isAgg21
 z21 := Tryz.sizeOf21
 v21 := Tryz.zeroValue21
 t37 := Tryz.underlying81
 a37 := Tryz.isAgg81
 z37 := Tryz.sizeOf81
 v37 := Tryz.zeroValue81
 t46 := Tryz.underlying168
 a46 := Tryz.isAgg168
 z46 := Tryz.sizeOf168
 v46 := Tryz.zeroValue168
 t51 := Tryz.underlying158
 a51 := Tryz.isAgg158
 z51 := Tryz.sizeOf158
 v51 := Tryz.zeroValue158
 t53 := Tryz.underlying165
 a53 := Tryz.isAgg165
 z53 := Tryz.sizeOf165
 v53 := Tryz.zeroValue165
 t75 := Tryz.underlying126
 a75 := Tryz.isAgg126
 z75 := Tryz.sizeOf126
 v75 := Tryz.zeroValue126
 t76 := Tryz.underlying127
 a76 := Tryz.isAgg127
 z76 := Tryz.sizeOf127
 v76 := Tryz.zeroValue127
 t85 := Tryz.underlying150
 a85 := Tryz.isAgg150
 z85 := Tryz.sizeOf150
 v85 := Tryz.zeroValue150
 t127 := Tryz.underlying190
 a127 := Tryz.isAgg190
 z127 := Tryz.sizeOf190
 v127 := Tryz.zeroValue190
 t143 := Tryz.underlying191
 a143 := Tryz.isAgg191
 z143 := Tryz.sizeOf191
 v143 := Tryz.zeroValue191
 t145 := Tryz.underlying193
 a145 := Tryz.isAgg193
 z145 := Tryz.sizeOf193
 v145 := Tryz.zeroValue193
 t167 := Tryz.underlying149
 a167 := Tryz.isAgg149
 z167 := Tryz.sizeOf149
 v167 := Tryz.zeroValue149
 t168 := Tryz.underlying152
 a168 := Tryz.isAgg152
 z168 := Tryz.sizeOf152
 v168 := Tryz.zeroValue152
 t171 := Tryz.underlying201
 a171 := Tryz.isAgg201
 z171 := Tryz.sizeOf201
 v171 := Tryz.zeroValue201
 t173 := Tryz.underlying204
 a173 := Tryz.isAgg204
 z173 := Tryz.sizeOf204
 v173 := Tryz.zeroValue204
 t175 := Tryz.underlying166
 a175 := Tryz.isAgg166
 z175 := Tryz.sizeOf166
 v175 := Tryz.zeroValue166
 t210 := Tryz.underlying171
 a210 := Tryz.isAgg171
 z210 := Tryz.sizeOf171
 v210 := Tryz.zeroValue171
 t212 := Tryz.underlying208
 a212 := Tryz.isAgg208
 z212 := Tryz.sizeOf208
 v212 := Tryz.zeroValue208
 t213 := Tryz.underlying209
 a213 := Tryz.isAgg209
 z213 := Tryz.sizeOf209
 t232 := Tryz.underlying215
 a232 := Tryz.isAgg215
 z232 := Tryz.sizeOf215
 v232 := Tryz.zeroValue215
 t233 := Tryz.underlying216
 a233 := Tryz.isAgg216
 z233 := Tryz.sizeOf216
 v233 := Tryz.zeroValue216
 g15 := by kernel_rfl
 g16 := by kernel_rfl
 g17 := by kernel_rfl
 g18 := by kernel_rfl
 g19 := by kernel_rfl
 t80 := Tryz.underlying93
 a80 := Tryz.isAgg93
 z80 := Tryz.sizeOf93
 v80 := Tryz.zeroValue93
 i0 := by kernel_rfl
 i2 := by kernel_rfl
 i3 := by kernel_rfl
 i4 := by kernel_rfl
 i5 := by kernel_rfl
 i9 := by kernel_rfl
 i20 := by kernel_rfl
 i21 := by kernel_rfl
 i37 := by kernel_rfl
 i46 := by kernel_rfl
 i51 := by kernel_rfl
 i53 := by kernel_rfl
 i75 := by kernel_rfl
 i76 := by kernel_rfl
 i80 := by kernel_rfl
 i85 := by kernel_rfl
 i127 := by kernel_rfl
 i143 := by kernel_rfl
 i145 := by kernel_rfl
 i167 := by kernel_rfl
 i168 := by kernel_rfl
 i171 := by kernel_rfl
 i173 := by kernel_rfl
 i175 := by kernel_rfl
 i210 := by kernel_rfl
 i212 := by kernel_rfl
 i232 := by kernel_rfl
 i233 := by kernel_rfl
 m15 := by kernel_rfl
 m16 := by kernel_rfl
 m17 := by kernel_rfl
 m18 := by kernel_rfl
 m19 := by kernel_rfl
 c0 := by kernel_rfl
 c2 := by kernel_rfl
 c3 := by kernel_rfl
 c4 := by kernel_rfl
 c5 := by kernel_rfl
 c9 := by kernel_rfl
 c20 := by kernel_rfl
 c21 := by kernel_rfl
 c37 := by kernel_rfl
 c46 := by kernel_rfl
 c51 := by kernel_rfl
 c53 := by kernel_rfl
 c75 := by kernel_rfl
 c76 := by kernel_rfl
 c80 := by kernel_rfl
 c85 := by kernel_rfl
 c127 := by kernel_rfl
 c143 := by kernel_rfl
 c145 := by kernel_rfl
 c167 := by kernel_rfl
 c168 := by kernel_rfl
 c171 := by kernel_rfl
 c173 := by kernel_rfl
 c175 := by kernel_rfl
 c210 := by kernel_rfl
 c212 := by kernel_rfl
 c213 := by kernel_rfl
 c232 := by kernel_rfl
 c233 := by kernel_rfl }
open Go.RowKit in
theorem Tryz.strconv_Atoi_ok (s : ByteArray) (hmax : s.size ≤ 9223372036854775806) (v : Int) (h : Lib.atoiAll s.data.toList = .ok v) (w : World) :
  Calls Tryz.prog 99 #[.string s] w fun e w' => e = .returned (.tuple #[.int .i64 v, .nilIface]) ∧ (w' = w ∨ ∃ t, w' = Lib.bytesWorld w 5 t) := Any.strconv_Atoi_ok Tryz.laysC172 s hmax v h w
open Go.RowKit in
theorem Tryz.strconv_Atoi_range (s : ByteArray) (hlim : s.size ≤ 281474976710656) (h : Lib.atoiAll s.data.toList = .range) (ev : Value) (w : World) (hv : w.cell? ⟨4, 0, none⟩ = some ev) (hev : ev = .nilIface ∨ ∃ te pe, ev = .iface te pe) :
  Calls Tryz.prog 99 #[.string s] w fun e w' => ∃ N, e = .returned (.tuple #[.int .i64 (Lib.atoiSat s.data.toList), .iface 152 (.pointer (some ⟨N, 0, none⟩))]) ∧ w.heap.size ≤ N ∧ w'.heap[N]? = some (.cells #[.string ⟨#[65, 116, 111, 105]⟩, .string s, ev] 171 (0, 0)) ∧ Below w.heap.size w w' := Any.strconv_Atoi_range Tryz.laysC172 s hlim h ev w hv hev
def Tryz.lays157_ren : Go.Shelf.Ren := ⟨fun | 157 => 100 | 229 => 117 | 199 => 118 | 261 => 135 | 311 => 151 | 312 => 152 | n => n, fun | 9 => 9 | 31 => 48 | 3 => 3 | 5 => 5 | 4 => 4 | 119 => 139 | 0 => 0 | 40 => 141 | 152 => 155 | 21 => 21 | 154 => 157 | 51 => 158 | 141 => 160 | 196 => 176 | 193 => 173 | 198 => 179 | 49 => 177 | 194 => 174 | 201 => 182 | 226 => 194 | 46 => 168 | 227 => 195 | n => n, fun | 0 => 0 | 6 => 2 | n => n⟩
theorem Tryz.lays157 : Go.Proofs.Lays.n157 Tryz.prog Tryz.lays157_ren := {
 mixed := by kernel_rfl
 f157 := Tryz.func100.trans (congrArg some (by kernel_rfl))
 f199 := Tryz.func118.trans (congrArg some (by kernel_rfl))
 f229 := Tryz.func117.trans (congrArg some (by kernel_rfl))
 f261 := Tryz.func135.trans (congrArg some (by kernel_rfl))
 f311 := Tryz.func151.trans (congrArg some (by kernel_rfl))
 f312 := Tryz.func152.trans (congrArg some (by kernel_rfl))
 t0 := Tryz.underlying0
 a0 := Tryz.isAgg0
 z0 := Tryz.sizeOf0
 v0 := Tryz.zeroValue0
 t3 := Tryz.underlying3
 a3 := Tryz.isAgg3
 z3 := Tryz.sizeOf3
 v3 := Tryz.zeroValue3
 t4 := Tryz.underlying4
 a4 := Tryz.isAgg4
 z4 := Tryz.sizeOf4
 v4 := Tryz.zeroValue4
 t5 := Tryz.underlying5
 a5 := Tryz.isAgg5
 z5 := Tryz.sizeOf5
 v5 := Tryz.zeroValue5
 t9 := Tryz.underlying9
 a9 := Tryz.isAgg9
 z9 := Tryz.sizeOf9
 v9 := Tryz.zeroValue9
 t21 := Tryz.underlying21
 a21 := Tryz.isAgg21
 z21 := Tryz.sizeOf21
 v21 := Tryz.zeroValue21
 t31 := Tryz.underlying48
 a31 := Tryz.isAgg48
 z31 := Tryz.sizeOf48
 v31 := Tryz.zeroValue48
 t40 := Tryz.underlying141
 a40 := Tryz.isAgg141
 z40 := Tryz.sizeOf141
 v40 := Tryz.zeroValue141
 t46 := Tryz.underlying168
 a46 := Tryz.isAgg168
 z46 := Tryz.sizeOf168
 v46 := Tryz.zeroValue168
 t49 := Tryz.underlying177
 a49 := Tryz.isAgg177
 z49 := Tryz.sizeOf177
 v49 := Tryz.zeroValue177
 t51 := Tryz.underlying158
 a51 := Tryz.isAgg158
 z51 := Tryz.sizeOf158
 v51 := Tryz.zeroValue158
 t119 := Tryz.underlying139
 a119 := Tryz.isAgg139
 z119 := Tryz.sizeOf139
 t141 := Tryz.underlying160
 a141 := Tryz.isAgg160
 z141 := Tryz.sizeOf160
 v141 := Tryz.zeroValue160
 t152 := Tryz.underlying155
 a152 := Tryz.isAgg155
 z152 := Tryz.sizeOf155
 v152 := Tryz.zeroValue155
 t154 := Tryz.underlying157
 a154 := Tryz.isAgg157
 z154 := Tryz.sizeOf157
 v154 := Tryz.zeroValue157
 t193 := Tryz.underlying173
 a193 := Tryz.isAgg173
 z193 := Tryz.sizeOf173
 v193 := Tryz.zeroValue173
 t194 := Tryz.underlying174
 a194 := Tryz.isAgg174
 z194 := Tryz.sizeOf174
 v194 := Tryz.zeroValue174
 t196 := Tryz.underlying176
 a196 := Tryz.isAgg176
 z196 := Tryz.sizeOf176
 v196 := Tryz.zeroValue176
 t198 := Tryz.underlying179
 a198 := Tryz.isAgg179
 z198 := Tryz.sizeOf179
 v198 := Tryz.zeroValue179
 t201 := Tryz.underlying182
 a201 := Tryz.isAgg182
 z201 := Tryz.sizeOf182
 v201 := Tryz.zeroValue182
 t226 := Tryz.underlying194
 a226 := Tryz.isAgg194
 z226 := Tryz.sizeOf194
 v226 := Tryz.zeroValue194
 t227 := Tryz.underlying195
 a227 := Tryz.isAgg195
 z227 := Tryz.sizeOf195
 v227 := Tryz.zeroValue195
 g0 := by kernel_rfl
 g6 := by kernel_rfl }
open Go.RowKit Go.Lib in
theorem Tryz.strings_Fields (s : ByteArray) (w : World) (hs : s.size < 4294967281) (hascii : ∀ (j : Nat) b, s.data.toList[j]? = some b → b.toNat < 128) (htab : Lib.TabIs Tryz.prog w "strings.asciiSpace" .u8 Lib.asciiSpaceTab) :
  Calls Tryz.prog 100 #[.string s] w fun e w' =>
   e = .returned (.slice (some ⟨w.heap.size, 0, none⟩) (Lib.fields s.data.toList).length (Lib.fields s.data.toList).length) ∧ w' = w.alloc (.cells ((Lib.fields s.data.toList).map fun l => Value.string ⟨l.toArray⟩).toArray 9) := Any.strings_Fields Tryz.lays157 (by kernel_rfl) (by kernel_rfl) s w hs hascii htab
end Go.Proofs

namespace Go.Proofs.YtghmbpmaafnodaaGreatDoor
open Go.Ev Go.RowKit
set_option maxRecDepth 100000
theorem upon_of {f : Nat} {fn : Func} {c : Code} {xs : List Value} {w : World} {next : Value → World → Prop} (hfn : P.funcs[f]? = some fn) (hc : fn.body = some c) (h : Calls P f xs.toArray w fun e w' => ∃ x, e = .returned x ∧ next x w') : Upon P (callFunc f xs.toArray) w next := by
 have hname : (fn.name == "runtime.NumGoroutine") = false := progOk.names fn (Array.mem_of_getElem? hfn)
 have hrun : (callFunc f xs.toArray).run P w = .ok (.enter f xs.toArray) w := by
  unfold callFunc
  simp [hfn, hc]
  intro hh
  simp [hh] at hname
 unfold Upon
 rw [hrun]
 simp only
 refine Calls.mono h fun e w' hr => ?_
 obtain ⟨x, rfl, hx⟩ := hr
 exact hx
theorem step_below {ρ : Env} {H : AHeap} {w w' : World} (hR : Rel ρ H w) (hb : Below w.heap.size w w') : Step ρ H w ρ H w' :=
 ⟨ρ.le_refl, Nat.le_refl _, fun _ _ => rfl, hR.keepAll hb.block, hb.os, hb.tape, hb.output, hb.size, fun b h _ => hb.block b h, fun _ h => .inl h, fun _ _ _ h => h⟩
theorem get_dead {H : AHeap} {l : Nat} {b : ABlk} (h : (H.push .dead).get l = some b) (hb : b ≠ .dead) : l ≠ H.next ∧ H.get l = some b := by
 rw [AHeap.get_push] at h
 split at h
 ·cases h; exact absurd rfl hb
 ·rename_i hne; exact ⟨hne, h⟩
theorem step_dead {ρ : Env} {H : AHeap} {w w' : World} (hR : Rel ρ H w) (hf : ρ H.next = none) (hb : Below w.heap.size w w') (loc : Go.Ev.Loc) : Step ρ H w (ρ.upd H.next loc) (H.push .dead) w' := by
 have hle := Env.le_upd hf loc
 have hR' := hR.keepAll hb.block
 have hrw : ∀ l, (H.push .dead).rw l → l ≠ H.next ∧ H.rw l := by
  rintro l (⟨e, s, hg⟩ | ⟨es, hg⟩)
  ·obtain ⟨a, b⟩ := get_dead hg (by simp); exact ⟨a, .inl ⟨e, s, b⟩⟩
  ·obtain ⟨a, b⟩ := get_dead hg (by simp); exact ⟨a, .inr ⟨es, b⟩⟩
 have hlv : ∀ l, (H.push .dead).live l → l ≠ H.next ∧ H.live l := by
  rintro l (⟨r, e, s, hg⟩ | ⟨es, hg⟩)
  ·obtain ⟨a, b⟩ := get_dead hg (by simp); exact ⟨a, .inl ⟨r, e, s, b⟩⟩
  ·obtain ⟨a, b⟩ := get_dead hg (by simp); exact ⟨a, .inr ⟨es, b⟩⟩
 refine ⟨hle, by simp, fun l hl => Env.upd_other (by simp at hl; omega), ⟨?_, ?_, ?_⟩, hb.os, hb.tape, hb.output, hb.size, fun b h _ => hb.block b h, ?_, ?_⟩
 ·intro l ro esz els h
  obtain ⟨hne, hg⟩ := get_dead h (by simp)
  obtain ⟨loc', h1, h2⟩ := hR'.row l ro esz els hg
  exact ⟨loc', hle _ _ h1, h2.mono hle⟩
 ·intro l es h
  obtain ⟨hne, hg⟩ := get_dead h (by simp)
  obtain ⟨loc', h1, ents, clock, h2, h3, h4⟩ := hR'.map l es hg
  exact ⟨loc', hle _ _ h1, ents, clock, h2, h3.mono hle, h4.mono hle⟩
 ·intro l l' a b h1 h2 hne e1 e2
  obtain ⟨n1, r1⟩ := hrw l h1
  obtain ⟨n2, r2⟩ := hlv l' h2
  rw [Env.upd_other n1] at e1
  rw [Env.upd_other n2] at e2
  exact hR'.apart l l' a b r1 r2 hne e1 e2
 ·rintro b ⟨l, loc', h1, h2, h3⟩
  obtain ⟨n1, r1⟩ := hrw l h1
  rw [Env.upd_other n1] at h2
  exact .inl ⟨l, loc', r1, h2, h3⟩
 ·intro l esz els h
  exact (get_dead h (by simp)).2
theorem orc30 {H : AHeap} (s : List UInt8) (c : Int) : CallOk1 E0 P 66 [.str s, .int .u8 c] H (.int .i64 (Lib.indexByte s c.toNat.toUInt8)) H := by
 intro ρ w xs hR hf hargs hn next hnext
 cases hargs with | cons _ _ _ _ h1 h2 =>
 cases h2 with | cons _ _ _ _ h2 h3 =>
 cases h1; cases h2; cases h3
 refine upon_of (c := bodyOf Tryz.f66) Tryz.func66 (by kernel_rfl) ?_
 refine Calls.mono (Tryz.strings_IndexByte ⟨s.toArray⟩ c w) ?_
 rintro e w' ⟨rfl, rfl⟩
 have hd : (⟨s.toArray⟩ : ByteArray).data.toList = s := by simp
 rw [hd]
 exact ⟨_, rfl, hnext _ _ ρ (.int _ _) (Step.refl hR)⟩
theorem orc43ok {H : AHeap} (s : List UInt8) (hs : s.length ≤ 281474976710656) (v : Int) (hv : Lib.atoiAll s = .ok v) : CallOk1 E0 P 99 [.str s] H (.tuple [.int .i64 v, .nilIface]) H := by
 intro ρ w xs hR hf hargs hn next hnext
 cases hargs with | cons _ _ _ _ h1 h2 =>
 cases h1; cases h2
 have hd : (⟨s.toArray⟩ : ByteArray).data.toList = s := by simp
 have hz : (⟨s.toArray⟩ : ByteArray).size = s.length := by simp [ByteArray.size]
 refine upon_of (c := bodyOf Tryz.f99) Tryz.func99 (by kernel_rfl) ?_
 refine Calls.mono (Tryz.strconv_Atoi_ok ⟨s.toArray⟩ (by rw [hz]; omega) v (by rw [hd]; exact hv) w) ?_
 rintro e w' ⟨rfl, hw⟩
 have hb : Below w.heap.size w w' := by
  rcases hw with rfl | ⟨t, rfl⟩
  ·exact Below.refl _ _
  ·exact ⟨rfl, rfl, rfl, by rw [Lib.bytesWorld_size]; omega, fun j hj => Lib.bytesWorld_at_old w 5 t j hj⟩
 exact ⟨_, rfl, hnext _ _ ρ (.tuple [_, _] [_, _] (.cons _ _ _ _ (.int _ _) (.cons _ _ _ _ .nilIface .nil))) (step_below hR hb)⟩
theorem e0_at {ρ : Env} {n m : Nat} (hf : Fresh E0 ρ n m) : ρ 0 = some ⟨0, 0, 1, 256⟩ ∧ ρ 1 = some ⟨4, 0, 1, 1⟩ := ⟨hf.le 0 _ rfl, hf.le 1 _ rfl⟩
theorem orc43range {H : AHeap} (s : List UInt8) (hs : s.length ≤ 281474976710656) (hg : H.get 1 = some (.row true 1 row1)) (hv : Lib.atoiAll s = .range) : CallOk1 E0 P 99 [.str s] H (.tuple [.int .i64 (Lib.atoiSat s), .iface 152 (.ptr H.next 0 0)]) (H.push .dead) := by
 intro ρ w xs hR hf hargs hn next hnext
 cases hargs with | cons _ _ _ _ h1 h2 =>
 cases h1; cases h2
 have hd : (⟨s.toArray⟩ : ByteArray).data.toList = s := by simp
 have hz : (⟨s.toArray⟩ : ByteArray).size = s.length := by simp [ByteArray.size]
 obtain ⟨loc, hl, -, c, t, fz, hc, -, hr⟩ := hR.row 1 true 1 row1 hg
 rw [(e0_at hf).2] at hl
 cases hl
 obtain ⟨-, q2⟩ := hr 0 _ rfl
 obtain ⟨-, x, hx, hv1⟩ := q2 0 _ rfl
 have hev : ∃ te pe, x = .iface te pe := by cases hv1; exact ⟨_, _, rfl⟩
 have hcell : w.cell? ⟨4, 0, none⟩ = some x := by
  simp [World.cell?, hc]
  simpa using hx
 refine upon_of (c := bodyOf Tryz.f99) Tryz.func99 (by kernel_rfl) ?_
 refine Calls.mono (Tryz.strconv_Atoi_range ⟨s.toArray⟩ (by rw [hz]; omega) (by rw [hd]; exact hv) x w hcell (.inr hev)) ?_
 rintro e w' ⟨N, rfl, h1, h2, hb⟩
 have hfr : ρ H.next = none := hf.new _ (Nat.le_refl _) (by simp)
 refine ⟨_, rfl, hnext _ _ (ρ.upd H.next ⟨N, 0, 1, 1⟩) (.tuple [_, _] [_, _] (.cons _ _ _ _ (by rw [hd]; exact .int _ _) (.cons _ _ _ _ (.iface _ _ _ ?_) .nil))) (step_dead hR hfr hb _)⟩
 exact .ptr H.next 0 0 ⟨N, 0, 1, 1⟩ (Env.upd_same _ _ _)
theorem tab0_at (c : Nat) (hc : c < 256) : tab0[c]? = some [.int .u8 (if Lib.isSp (UInt8.ofNat c) then 1 else 0)] := by
 simp [tab0, Lib.asciiSpaceTab, hc]
theorem orc40 {H : AHeap} (s : List UInt8) (hs : s.length < 4294967281) (ha : ∀ (j : Nat) b, s[j]? = some b → b.toNat < 128) (hg : H.get 0 = some (.row true 1 tab0)) : CallOk1 E0 P 100 [.str s] H (.sl H.next 0 (Lib.fields s).length 1 (some (Lib.fields s).length)) (H.push (.row false 1 ((Lib.fields s).map fun l => [.str l]))) := by
 intro ρ w xs hR hf hargs hn next hnext
 cases hargs with | cons _ _ _ _ h1 h2 =>
 cases h1; cases h2
 have hd : (⟨s.toArray⟩ : ByteArray).data.toList = s := by simp
 have hz : (⟨s.toArray⟩ : ByteArray).size = s.length := by simp [ByteArray.size]
 obtain ⟨loc, hl, -, c, t, fz, hc, -, hr⟩ := hR.row 0 true 1 tab0 hg
 rw [(e0_at hf).1] at hl
 cases hl
 have hT : ∀ k : Nat, k < 256 → w.cell? ⟨0, k, none⟩ = some (.int .u8 (if Lib.isSp (UInt8.ofNat k) then 1 else 0)) := fun k hk => by
  obtain ⟨-, q2⟩ := hr k _ (tab0_at k hk)
  obtain ⟨-, x, hx, hv1⟩ := q2 0 _ rfl
  cases hv1
  simp [World.cell?, hc]
  simpa using hx
 have hfr : ρ H.next = none := hf.new _ (Nat.le_refl _) (by simp)
 have core := Any.strings_Fields_core Tryz.lays157 (by kernel_rfl) ⟨s.toArray⟩ w (by rw [hz]; exact hs) (by rw [hd]; exact ha) hT
 rw [hd] at core
 refine upon_of (c := bodyOf Tryz.f100) Tryz.func100 (by kernel_rfl) ?_
 refine Calls.mono core ?_
 rintro e w' ⟨rfl, rfl⟩
 refine ⟨_, rfl, hnext _ _ (ρ.upd H.next ⟨w.heap.size, 0, 1, (Lib.fields s).length⟩) ?_ (push_sound hR hfr _ rfl _ _ rfl ?_ (fun es h => by cases h))⟩
 ·exact .sl H.next 0 _ _ ⟨w.heap.size, 0, 1, (Lib.fields s).length⟩ _ _ (Env.upd_same _ _ _) (Nat.le_refl _) (fun k h => by cases h; rfl) (fun _ => ⟨rfl, by simp⟩)
 ·intro ro esz els h
  cases h
  refine ⟨rfl, _, _, _, heap_alloc_new w _, fun _ => ⟨by simp, fun o _ h => by omega⟩, fun i e he => ?_⟩
  rw [List.getElem?_map] at he
  obtain ⟨l, hl, rfl⟩ := Option.map_eq_some_iff.1 he
  refine ⟨rfl, fun j v hv => ?_⟩
  rcases j with _ | j
  ·cases hv
   exact ⟨rfl, _, by simp [hl], .str _⟩
  ·simp at hv
theorem orc_ok : CallOk E0 P orc := by
 intro g args H v H' h
 unfold orc at h
 split at h
 ·cases h; exact orc30 _ _
 ·split at h
  ·rename_i hc
   cases h
   exact orc40 _ hc.1 hc.2.1 hc.2.2
  ·cases h
 ·split at h
  ·rename_i hc
   split at h
   ·rename_i v hv
    cases h; exact orc43ok _ hc.1 _ hv
   ·rename_i hv
    cases h; exact orc43range _ hc.1 hc.2 hv
   ·cases h
  ·cases h
 ·cases h
end Go.Proofs.YtghmbpmaafnodaaGreatDoor
namespace Go.Proofs.YtghmbpmaafnodaaGreatDoor
open Go.Ev
open Go.ChangeShapes Go.WideShapes Go.ChangeAt Go.RowKit
theorem own : ownKnob Tryz.prog.godebug = none := by kernel_rfl
def H0 : AHeap := ((AHeap.empty.push (.row true 1 tab0)).push (.row true 1 row1)).push .dead
theorem H0_get {l : Nat} {b : ABlk} (h : H0.get l = some b) : (l = 0 ∧ b = .row true 1 tab0) ∨ (l = 1 ∧ b = .row true 1 row1) ∨ (l = 2 ∧ b = .dead) := by
 unfold H0 at h
 rw [AHeap.get_push] at h
 split at h
 ·rename_i hl; exact .inr (.inr ⟨hl, (Option.some.inj h).symm⟩)
 ·rw [AHeap.get_push] at h
  split at h
  ·rename_i hl; exact .inr (.inl ⟨hl, (Option.some.inj h).symm⟩)
  ·rw [AHeap.get_push] at h
   split at h
   ·rename_i hl; exact .inl ⟨hl, (Option.some.inj h).symm⟩
   ·rw [AHeap.empty_get] at h; cases h
def rho0 (b o : Nat) : Env := fun l => if l = 0 then some ⟨0, 0, 1, 256⟩ else if l = 1 then some ⟨4, 0, 1, 1⟩ else if l = 2 then some ⟨b, o, 1, 1⟩ else none
theorem gl0 : Lp.Gl H0 :=
 ⟨(AHeap.get_push_other (by decide)).trans ((AHeap.get_push_other (by decide)).trans (AHeap.get_push_same AHeap.empty (.row true 1 tab0))),
  (AHeap.get_push_other (by decide)).trans (AHeap.get_push_same (AHeap.empty.push (.row true 1 tab0)) (.row true 1 row1))⟩
theorem seen0 {W : World} (ht : Lib.TabIs Tryz.prog W "strings.asciiSpace" .u8 Lib.asciiSpaceTab) {b o : Nat} (he : W.var? Tryz.prog "strconv.ErrRange" = some #[.iface 191 (.pointer (some ⟨b, o, none⟩))]) :
  Rel (rho0 b o) H0 W ∧ (∀ l, ¬ H0.rw l) ∧ (∀ l, H0.next ≤ l → rho0 b o l = none) ∧ E0.le (rho0 b o) := by
 have g0 : Tryz.prog.globalNamed "strings.asciiSpace" = some 0 := by kernel_rfl
 have g4 : Tryz.prog.globalNamed "strconv.ErrRange" = some 4 := by kernel_rfl
 unfold Lib.TabIs World.var? at ht
 unfold World.var? at he
 rw [g0, Option.bind_some] at ht
 rw [g4, Option.bind_some] at he
 have hno : ∀ l, ¬ H0.rw l := by
  rintro l (⟨e, s, h⟩ | ⟨es, h⟩) <;> rcases H0_get h with ⟨_, h⟩ | ⟨_, h⟩ | ⟨_, h⟩ <;> cases h
 refine ⟨⟨?_, ?_, fun l l' _ _ h => absurd h (hno l)⟩, hno, ?_, ?_⟩
 ·intro l ro esz els h
  rcases H0_get h with ⟨rfl, h⟩ | ⟨rfl, h⟩ | ⟨_, h⟩
  ·cases h
   split at ht
   ·rename_i cs t fz hb
    obtain rfl := Option.some.inj ht
    refine ⟨_, rfl, rfl, _, _, _, hb, fun h => (by cases h), fun i e hi => ?_⟩
    simp only [tab0, List.getElem?_map, Option.map_eq_some_iff] at hi
    obtain ⟨z, hz, rfl⟩ := hi
    refine ⟨rfl, fun j v hv => ?_⟩
    rcases j with _ | j
    ·cases hv
     exact ⟨rfl, .int .u8 z, by simp [hz], .int _ _⟩
    ·simp at hv
   ·cases ht
  ·cases h
   split at he
   ·rename_i cs t fz hb
    obtain rfl := Option.some.inj he
    refine ⟨_, rfl, rfl, _, _, _, hb, fun h => (by cases h), fun i e hi => ?_⟩
    rcases i with _ | i
    ·cases hi
     refine ⟨rfl, fun j v hv => ?_⟩
     rcases j with _ | j
     ·cases hv
      exact ⟨rfl, _, rfl, .iface _ _ _ (.ptr 2 0 0 ⟨b, o, 1, 1⟩ rfl)⟩
     ·simp at hv
    ·simp [row1] at hi
   ·cases he
  ·cases h
 ·intro l es h
  rcases H0_get h with ⟨_, h⟩ | ⟨_, h⟩ | ⟨_, h⟩ <;> cases h
 ·intro l hl
  have : 3 ≤ l := hl
  unfold rho0
  rw [if_neg (by omega), if_neg (by omega), if_neg (by omega)]
 ·intro l loc h
  unfold E0 at h
  split at h
  ·exact h
  ·exact h
  ·cases h
theorem gTabType : (Tryz.prog.globals[0]?).map (·.type) = some 139 := by kernel_rfl
theorem gRngType : (Tryz.prog.globals[4]?).map (·.type) = some 126 := by kernel_rfl
theorem gTab : Tryz.prog.globalNamed "strings.asciiSpace" = some 0 := by kernel_rfl
theorem gRng : Tryz.prog.globalNamed "strconv.ErrRange" = some 4 := by kernel_rfl
theorem cells60 : Tryz.prog.cellsOf 139 = 256 := by kernel_rfl
theorem cells5 : Tryz.prog.cellsOf 5 = 1 := by kernel_rfl
theorem cells9 : Tryz.prog.cellsOf 9 = 1 := by kernel_rfl
theorem cells102 : Tryz.prog.cellsOf 193 = 1 := by kernel_rfl
theorem star : ("*errors.errorString" : String) = "*" ++ "errors.errorString" := by decide +kernel
theorem names100 (u : TypeId) (h : Tryz.prog.typeName? 3 u = some "*errors.errorString") : u = 191 :=
 typeName_ptr_named (nm := "errors.errorString") (by rw [← star]; kernel_rfl) (by kernel_rfl) (by decide) u (by rw [← star]; exact h)
theorem spaceTab : Rows.laid_strings_asciiSpace (H := Unit) = Lib.tabData .u8 Lib.asciiSpaceTab := by kernel_rfl
theorem env_of {W : World} (h : laidMetH Tryz.prog Rows.progParsesRow.laid W) : ∃ b o, Rel (rho0 b o) H0 W ∧ (∀ l, ¬ H0.rw l) ∧ (∀ l, H0.next ≤ l → rho0 b o l = none) ∧ E0.le (rho0 b o) := by
 have h0 : laidMet Tryz.prog [("math/bits.deBruijn32tab", Rows.laid_math_bits_deBruijn32tab), ("math/bits.deBruijn64tab", Rows.laid_math_bits_deBruijn64tab), ("internal/strconv.uint64pow10", Rows.laid_internal_strconv_uint64pow10), ("strconv.ErrRange", Rows.laid_strconv_ErrRange), ("strconv.ErrSyntax", Rows.laid_strconv_ErrSyntax), ("unicode.White_Space", Rows.laid_unicode_White_Space), ("strings.asciiSpace", Rows.laid_strings_asciiSpace)] W := h
 have h3 := h0.tail.tail.tail
 have h6 := h3.tail.tail.tail
 rw [spaceTab] at h6
 have tab : Lib.TabIs Tryz.prog W "strings.asciiSpace" .u8 Lib.asciiSpaceTab :=
  Lib.tabIs_of_head gTab gTabType Tryz.underlying139 Tryz.underlying5 cells5 cells60 h6
 obtain ⟨a, s, hv, hc, -, -⟩ := laid_sentinel h3 gRng gRngType Tryz.underlying126 names100 Tryz.underlying191 Tryz.underlying193 rfl rfl Tryz.underlying9 cells102 cells9
 obtain ⟨b, o, sp⟩ := a
 have hsp : sp = none := by
  unfold World.cell? at hc
  split at hc
  ·cases sp with
   | none => rfl
   | some x => simp at hc
  ·cases hc
 subst hsp
 exact ⟨b, o, seen0 tab hv⟩
end Go.Proofs.YtghmbpmaafnodaaGreatDoor

namespace Go.Proofs.YtghmbpmaafnodaaGreatDoor
open Go.Ev
open Go.ChangeShapes Go.WideShapes Go.ChangeAt Go.RowKit
theorem laidOut : laidOutB Tryz.prog = true := by kernel_rfl
theorem und3 : P.underlying 3 = some (.int .i64) := by kernel_rfl
theorem und4 : P.underlying 4 = some .bool := by kernel_rfl
theorem und9 : P.underlying 9 = some .string := by kernel_rfl
end Go.Proofs.YtghmbpmaafnodaaGreatDoor

namespace Go.Proofs.YtghmbpmaafnodaaGreatDoor
open Go.Ev
open Go.ChangeShapes Go.WideShapes Go.ChangeAt Go.RowKit
open Go.ChangeMaps (open_string shut_string)
def synS : ByteArray := { data := #[105, 110, 118, 97, 108, 105, 100, 32, 115, 121, 110, 116, 97, 120] }
def rngS : ByteArray := { data := #[118, 97, 108, 117, 101, 32, 111, 117, 116, 32, 111, 102, 32, 114, 97, 110, 103, 101] }
noncomputable def low : Nat := (World.holding Tryz.prog default ⟨#[], #[], []⟩).heap.size
def litCells : DataW Unit → Array Value
 | .agg l => (l.map fun | .lit (.int k z) => Value.int k z | _ => .nilIface).toArray
 | _ => #[]
def lays (cs : Array Value) : Obj → Obj
 | .cells _ t frozen => .cells cs t frozen
 | o => o
def ranges : Array Value := #[.int .u16 9, .int .u16 13, .int .u16 1, .int .u16 32, .int .u16 133, .int .u16 101, .int .u16 160, .int .u16 5760, .int .u16 5600, .int .u16 8192, .int .u16 8202, .int .u16 1, .int .u16 8232, .int .u16 8233, .int .u16 1, .int .u16 8239, .int .u16 8287, .int .u16 48, .int .u16 12288, .int .u16 12288, .int .u16 1]
noncomputable def laidWorld (os : Os) : World :=
 let w0 := World.holding Tryz.prog os ⟨#[.cells #[.string synS] 193, .cells #[.string rngS] 193, .cells #[.slice (some ⟨low + 3, 0, none⟩) 7 7, .slice none 0 0, .int .i64 2] 176, .cells ranges 179], #[], []⟩
 { w0 with heap := ((((((w0.heap.modify 3 (lays #[.iface 191 (.pointer (some ⟨low, 0, none⟩))])).modify 4 (lays #[.iface 191 (.pointer (some ⟨low + 1, 0, none⟩))])).modify 5 (lays (litCells Rows.laid_internal_strconv_uint64pow10))).modify 6 (lays (litCells Rows.laid_math_bits_deBruijn32tab))).modify 7 (lays (litCells Rows.laid_math_bits_deBruijn64tab))).modify 2 (lays #[.pointer (some ⟨low + 2, 0, none⟩)])).modify 0 (lays (litCells Rows.laid_strings_asciiSpace)) }
namespace progMany
set_option maxRecDepth 100000 in
theorem laid_met (os : Os) : laidMet Tryz.prog Rows.progManyRow.laid ((laidWorld os).forCall (fun _ _ => 0) ⟨#[], #[.int .i64 0, .int .i64 0], []⟩).memory :=
 laidMet_of_run' 8 (by kernel_rfl) (by kernel_rfl)
theorem reads (os : Os) {H : Type} (enc : TypeId × Value → H) : ∃ places, DataW.whole enc Tryz.prog ((laidWorld os).forCall (fun _ _ => 0) ⟨#[], #[.int .i64 0, .int .i64 0], []⟩).memory Tryz.f6.params.toList Rows.progManySpec.vars false (#[.int .i64 0, .int .i64 0] : Array Value).toList 8 = some ([.lit (.int .i64 0), .lit (.int .i64 0)], [], places) :=
 ⟨[], by kernel_rfl⟩
set_option maxRecDepth 100000 in
theorem contract (H : Type) (enc : TypeId × Value → H) (W : World) (base : Nat) (args : Array Value) (ds gs : List (DataW H)) (before : List MemPlace)
  (hval : ∀ (j : Nat) t v, Tryz.f6.params[j]? = some t → args[j]? = some v → Value.okWide Tryz.prog W .any base t v)
  (hW : DataW.Whole enc Tryz.prog Tryz.f6.params.toList Rows.progManySpec.vars false W args.toList ds gs before) (hL : laidMetH Tryz.prog Rows.progManyRow.laid W) :
  Calls Tryz.prog 6 args W fun e W' => ∃ v, e = .returned v ∧ Rows.progManySpec.post enc Tryz.prog Tryz.f6 false true false false W args v W' := by
 obtain ⟨b, o, s1, s2, s3, s4⟩ := env_of (show laidMetH Tryz.prog Rows.progParsesRow.laid W from hL)
 have hW' := hW
 obtain ⟨p, q, hA0, hV, rfl, hfz, hnd⟩ := hW
 have hA : DataW.TrodAll enc Tryz.prog W 0 (fun _ => true) true Tryz.f6.params.toList args.toList ds p := hA0
 have hpar : Tryz.f6.params = #[3, 3] := by kernel_rfl
 rw [hpar] at hA hval
 obtain ⟨v0, vs0, d0, ds0, p0, q0, hargs, rfl, rfl, h0, r0⟩ := trodAll_cons hA
 obtain ⟨v1, vs1, d1, ds1, p1, q1, rfl, rfl, rfl, h1, r1⟩ := trodAll_cons r0
 obtain ⟨rfl, rfl, rfl⟩ := trodAll_nil r1
 obtain rfl : args = #[v0, v1] := by cases args; simp_all
 obtain ⟨rfl, rfl⟩ := trodVars_none hV
 obtain ⟨a0, hv0, -, -, w0⟩ := open_int (P := P) und3 (hval 0 3 v0 rfl rfl) h0
 obtain ⟨a1, hv1, -, -, w1⟩ := open_int (P := P) und3 (hval 1 3 v1 rfl rfl) h1
 subst hv0
 subst hv1
 have hlaw : LawOk E0 P 6 [.int .i64 a0, .int .i64 a1] W := by
  obtain ⟨_, H', h, rfl, p⟩ := many_run gl0 a0 a1
  exact ⟨rho0 b o, H0, [.int .i64 a0, .int .i64 a1], H', s1, s2, s3, s4, p.1, .cons _ _ _ _ (.int _ _) (.cons _ _ _ _ (.int _ _) .nil), code_ok1 (c := bodyOf Tryz.f6) (M := 0) progOk (evw_ok progOk orc_ok) Tryz.func6 (by kernel_rfl) (by kernel_rfl) (by kernel_rfl) (Eq.trans (s6_eq (evw P orc) 0 (.int .i64 a0) (.int .i64 a1) H0) h)⟩
 refine (law_walk (c := bodyOf Tryz.f6) progOk Tryz.func6 (by kernel_rfl) hlaw).mono fun e W' ⟨he, bel⟩ => ?_
 subst he
 obtain ⟨pa, hpa⟩ := trodAll_below laidOut bel (ts := [3, 3]) (fun t ht => by
  simp only [List.mem_cons, List.not_mem_nil, or_false] at ht
  rcases ht with rfl | rfl <;> exact ⟨by kernel_rfl, of_decide_eq_true (by kernel_rfl)⟩) hA
 exact ⟨_, rfl, _, _, _, [], pa, [], hW', trodAll_mk1 (shut_bool (P := P) und4 _), by rw [hpar]; exact hpa, rfl, bel.frame _, fun h => by cases h⟩
set_option maxRecDepth 100000 in
theorem lifted (os : Os) (started : os.Started) (H : Type) (enc : TypeId × Value → H) (F : Stop.Interp) :
  ReturnsInHanded {} Tryz.checked os 6 .any ((OpenSpec.ofChange Rows.progManySpec).preRow enc Tryz.prog Tryz.f6 Rows.progManyRow.domain false Rows.progManyRow.laid) (((OpenSpec.ofChange Rows.progManySpec).at F).post enc Tryz.prog Tryz.f6 false true false false) := by
 obtain ⟨places, hx⟩ := reads os enc
 refine returnsInHanded_of_row (C := Tryz.checked) (s := OpenSpec.ofChange Rows.progManySpec) own started (by kernel_rfl) Tryz.func6
  (witness_row_atRef (enc := enc) (C := Tryz.checked) false (laidWorld os) #[.int .i64 0, .int .i64 0] rfl (by kernel_rfl) (by kernel_rfl) (by kernel_rfl)
   (OpenSpec.preRow_of_cond 8 hx (by kernel_rfl) (fun k hk => by cases hk) (by kernel_rfl) (laid_met os))) ?_
 intro W base args ds gs before hval hW _ _ _ hL _ _
 exact contract H enc W base args ds gs before hval hW hL
theorem said : Rows.ProgManySaid :=
 OpenClaim.holds_of_cond 6 Tryz.f6 rfl rfl rfl rfl rfl rfl rfl ⟨rfl, rfl, rfl, rfl, rfl⟩ rfl rfl rfl rfl rfl (by kernel_rfl) Tryz.func6 (by kernel_rfl)
  (of_decide_eq_true (by kernel_rfl)) (by unfold Func.isWrapper; first | (rw [if_pos (by decide +kernel)]; kernel_rfl) | (rw [if_neg (by decide +kernel)]; exact ⟨rfl, rfl⟩))
  (fun os started H enc _ F => by rw [OpenClaim.pre_eq_preRow]; exact lifted os started H enc F)
theorem plain (f : FuncId) (fn : Func) (hf : Tryz.pinned.checked.prog.funcNamed "runrig/runriglaw5.ProgMany" = some f) (hfn : Tryz.pinned.checked.prog.funcs[f]? = some fn) :
  true = Tryz.pinned.checked.prog.looks [] ∧ ∀ (j : Nat) t, fn.params[j]? = some t → Tryz.pinned.checked.prog.wantsStandIn t = false := by
 obtain rfl : f = 6 := Option.some.inj ((show Tryz.prog.funcNamed "runrig/runriglaw5.ProgMany" = some 6 by kernel_rfl).symm.trans hf) |>.symm
 obtain rfl : fn = Tryz.f6 := (Option.some.inj (Tryz.func6.symm.trans hfn)).symm
 refine ⟨by kernel_rfl, fun j t ht => ?_⟩
 have hpar : Tryz.f6.params = #[3, 3] := by kernel_rfl
 rw [hpar] at ht
 have ht := Array.mem_of_getElem? ht
 simp only [List.mem_toArray, List.mem_cons, List.not_mem_nil, or_false] at ht
 rcases ht with rfl | rfl
 ·exact (show Tryz.prog.wantsStandIn 3 = false by kernel_rfl)
 ·exact (show Tryz.prog.wantsStandIn 3 = false by kernel_rfl)
theorem card : Rows.ProgManyCardSaid :=
 Claim7.holds_tied_plain_at .later [] _ _ _ _ said (fun _ h => by cases h) (by kernel_rfl) (fun _ h => by cases h) progMany_row_tie rfl ⟨rfl, rfl⟩ (by kernel_rfl) rfl plain (by kernel_rfl)
end progMany
theorem progMany_holds : Rows.ProgManyCardSaid := progMany.card
end Go.Proofs.YtghmbpmaafnodaaGreatDoor

