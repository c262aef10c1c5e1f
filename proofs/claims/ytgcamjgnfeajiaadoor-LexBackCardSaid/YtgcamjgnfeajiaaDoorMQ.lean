/-
  Texts of one proof, laid together: Lays Orc Start Rt LexBack.
-/
import Derived.Shelf.Small.Strs
import Derived.Shelf.LaysC
import Derived.Shelf.Strconv.AtoiAll
import Derived.Shelf.Strings.Search1
import Derived.Shelf.Strings.Prefix
import Derived.Shelf.Strings.Fields
import Derived.Test.YtgcamjgnfeajiaaDoorProg
import Derived.Test.YtgcamjgnfeajiaaDoorMD
import Derived.Test.YtgcamjgnfeajiaaDoorME
import Derived.Test.YtgcamjgnfeajiaaDoorCards
import Derived.Test.YtgcamjgnfeajiaaDoorTie
import Derived.Test.YtgcamjgnfeajiaaDoorMG
import Derived.ProofKit
import Derived.OpenShut
import Derived.Deep.DeepHandedRow
import Derived.Lib.LaidTab
import Derived.Stop.LaidErr
import Derived.Test.YtgcamjgnfeajiaaDoorMP
import Derived.Deep.DeepWitnessRowRef
set_option linter.unusedVariables false
set_option linter.unusedSimpArgs false
namespace Go.Proofs
open Go.Shelf
def Tryd.lays137_ren : Go.Shelf.Ren := ⟨fun | 137 => 30 | 217 => 41 | 266 => 46 | n => n, fun | 9 => 9 | 5 => 5 | 3 => 3 | n => n, fun | n => n⟩
theorem Tryd.lays137 : Go.Proofs.Lays.n137 Tryd.prog Tryd.lays137_ren := {
 mixed := by kernel_rfl
 f137 := Tryd.func30.trans (congrArg some (by kernel_rfl))
 f217 := Tryd.func41.trans (congrArg some (by kernel_rfl))
 f266 := Tryd.func46.trans (congrArg some (by kernel_rfl))
 t3 := Tryd.underlying3
 a3 := Tryd.isAgg3
 z3 := Tryd.sizeOf3
 v3 := Tryd.zeroValue3
 t5 := Tryd.underlying5
 a5 := Tryd.isAgg5
 z5 := Tryd.sizeOf5
 v5 := Tryd.zeroValue5
 t9 := Tryd.underlying9
 a9 := Tryd.isAgg9
 z9 := Tryd.sizeOf9
 v9 := Tryd.zeroValue9 }
open Go.RowKit in
theorem Tryd.strings_IndexByte (s : ByteArray) (c : Int) (w : World) :
  Calls Tryd.prog 30 #[.string s, .int .u8 c] w fun e w' => e = .returned (.int .i64 (Lib.indexByte s.data.toList c.toNat.toUInt8)) ∧ w' = w := Any.strings_IndexByte Tryd.lays137 s c w
def Tryd.laysC172_ren : Go.Shelf.Ren := ⟨fun | 172 => 43 | 244 => 47 | 245 => 48 | 247 => 50 | 279 => 51 | 280 => 52 | 281 => 53 | 282 => 54 | 287 => 57 | 316 => 58 | 171 => 60 | 205 => 59 | 321 => 61 | 322 => 62 | 243 => 63 | 246 => 64 | 283 => 65 | 284 => 66 | 285 => 67 | 286 => 68 | 129 => 70 | 317 => 69 | 318 => 71 | 319 => 72 | 320 => 73 | 337 => 74 | 338 => 75 | n => n, fun | 9 => 9 | 3 => 3 | 75 => 57 | 76 => 58 | 4 => 4 | 5 => 5 | 167 => 70 | 37 => 47 | 0 => 0 | 85 => 71 | 2 => 2 | 168 => 73 | 53 => 87 | 175 => 88 | 46 => 90 | 210 => 93 | 127 => 99 | 145 => 102 | 143 => 100 | 21 => 21 | 171 => 104 | 173 => 107 | 212 => 111 | 51 => 67 | 20 => 20 | 213 => 112 | 232 => 115 | 233 => 116 | 80 => 117 | n => n, fun | 15 => 3 | 16 => 4 | 17 => 5 | 18 => 6 | 19 => 7 | n => n⟩
theorem Tryd.laysC172 : Go.Proofs.LaysC.n172 Tryd.prog Tryd.laysC172_ren := {
 mixed := by kernel_rfl
 f129 := Tryd.func70.trans (congrArg some (by kernel_rfl))
 f171 := Tryd.func60.trans (congrArg some (by kernel_rfl))
 f172 := Tryd.func43.trans (congrArg some (by kernel_rfl))
 f205 := Tryd.func59.trans (congrArg some (by kernel_rfl))
 f243 := Tryd.func63.trans (congrArg some (by kernel_rfl))
 f244 := Tryd.func47.trans (congrArg some (by kernel_rfl))
 f245 := Tryd.func48.trans (congrArg some (by kernel_rfl))
 f246 := Tryd.func64.trans (congrArg some (by kernel_rfl))
 f247 := Tryd.func50.trans (congrArg some (by kernel_rfl))
 f279 := Tryd.func51.trans (congrArg some (by kernel_rfl))
 f280 := Tryd.func52.trans (congrArg some (by kernel_rfl))
 f281 := Tryd.func53.trans (congrArg some (by kernel_rfl))
 f282 := Tryd.func54.trans (congrArg some (by kernel_rfl))
 f283 := Tryd.func65.trans (congrArg some (by kernel_rfl))
 f284 := Tryd.func66.trans (congrArg some (by kernel_rfl))
 f285 := Tryd.func67.trans (congrArg some (by kernel_rfl))
 f286 := Tryd.func68.trans (congrArg some (by kernel_rfl))
 f287 := Tryd.func57.trans (congrArg some (by kernel_rfl))
 f316 := Tryd.func58.trans (congrArg some (by kernel_rfl))
 f317 := Tryd.func69.trans (congrArg some (by kernel_rfl))
 f318 := Tryd.func71.trans (congrArg some (by kernel_rfl))
 f319 := Tryd.func72.trans (congrArg some (by kernel_rfl))
 f320 := Tryd.func73.trans (congrArg some (by kernel_rfl))
 f321 := Tryd.func61.trans (congrArg some (by kernel_rfl))
 f322 := Tryd.func62.trans (congrArg some (by kernel_rfl))
 f337 := Tryd.func74.trans (congrArg some (by kernel_rfl))
 f338 := Tryd.func75.trans (congrArg some (by kernel_rfl))
 t0 := Tryd.underlying0
 a0 := Tryd.isAgg0
 z0 := Tryd.sizeOf0
 v0 := Tryd.zeroValue0
 t2 := Tryd.underlying2
 a2 := Tryd.isAgg2
 z2 := Tryd.sizeOf2
 v2 := Tryd.zeroValue2
 t3 := Tryd.underlying3
 a3 := Tryd.isAgg3
 z3 := Tryd.sizeOf3
 v3 := Tryd.zeroValue3
 t4 := Tryd.underlying4
 a4 := Tryd.isAgg4
 z4 := Tryd.sizeOf4
 v4 := Tryd.zeroValue4
 t5 := Tryd.underlying5
 a5 := Tryd.isAgg5
 z5 := Tryd.sizeOf5
 v5 := Tryd.zeroValue5
 t9 := Tryd.underlying9
 a9 := Tryd.isAgg9
 z9 := Tryd.sizeOf9
 v9 := Tryd.zeroValue9
 t20 := Tryd.underlying20
 a20 := Tryd.isAgg20
 z20 := Tryd.sizeOf20
 v20 := Tryd.zeroValue20
 t21 := Tryd.underlying21
 a21 := Tryd.isAgg21
 z21 := Tryd.sizeOf21
 v21 := Tryd.zeroValue21
 t37 := Tryd.underlying47
 a37 := Tryd.isAgg47
 z37 := Tryd.sizeOf47
 v37 := Tryd.zeroValue47
 t46 := Tryd.underlying90
 a46 := Tryd.isAgg90
 z46 := Tryd.sizeOf90
 v46 := Tryd.zeroValue90
 t51 := Tryd.underlying67
 a51 := Tryd.isAgg67
 z51 := Tryd.sizeOf67
 v51 := Tryd.zeroValue67
 t53 := Tryd.underlying87
 a53 := Tryd.isAgg87
 z53 := Tryd.sizeOf87
 v53 := Tryd.zeroValue87
 t75 := Tryd.underlying57
 a75 := Tryd.isAgg57
 z75 := Tryd.sizeOf57
 v75 := Tryd.zeroValue57
 t76 := Tryd.underlying58
 a76 := Tryd.isAgg58
 z76 := Tryd.sizeOf58
 v76 := Tryd.zeroValue58
 t85 := Tryd.underlying71
 a85 := Tryd.isAgg71
 z85 := Tryd.sizeOf71
 v85 := Tryd.zeroValue71
 t127 := Tryd.underlying99
 a127 := Tryd.isAgg99
 z127 := Tryd.sizeOf99
 v127 := Tryd.zeroValue99
 t143 := Tryd.underlying100
 a143 := Tryd.isAgg100
 z143 := Tryd.sizeOf100
 v143 := Tryd.zeroValue100
 t145 := Tryd.underlying102
 a145 := Tryd.isAgg102
 z145 := Tryd.sizeOf102
 v145 := Tryd.zeroValue102
 t167 := Tryd.underlying70
 a167 := Tryd.isAgg70
 z167 := Tryd.sizeOf70
 v167 := Tryd.zeroValue70
 t168 := Tryd.underlying73
 a168 := Tryd.isAgg73
 z168 := Tryd.sizeOf73
 v168 := Tryd.zeroValue73
 t171 := Tryd.underlying104
 a171 := Tryd.isAgg104
 z171 := Tryd.sizeOf104
 v171 := Tryd.zeroValue104
 t173 := Tryd.underlying107
 a173 := Tryd.isAgg107
 z173 := Tryd.sizeOf107
 v173 := Tryd.zeroValue107
 t175 := Tryd.underlying88
 a175 := Tryd.isAgg88
 z175 := Tryd.sizeOf88
 v175 := Tryd.zeroValue88
 t210 := Tryd.underlying93
 a210 := Tryd.isAgg93
 z210 := Tryd.sizeOf93
 v210 := Tryd.zeroValue93
 t212 := Tryd.underlying111
 a212 := Tryd.isAgg111
 z212 := Tryd.sizeOf111
 v212 := Tryd.zeroValue111
 t213 := Tryd.underlying112
 a213 := Tryd.isAgg112
 z213 := Tryd.sizeOf112
 t232 := Tryd.underlying115
 a232 := Tryd.isAgg115
 z232 := Tryd.sizeOf115
 v232 := Tryd.zeroValue115
 t233 := Tryd.underlying116
 a233 := Tryd.isAgg116
 z233 := Tryd.sizeOf116
 v233 := Tryd.zeroValue116
 g15 := by kernel_rfl
 g16 := by kernel_rfl
 g17 := by kernel_rfl
 g18 := by kernel_rfl
 g19 := by kernel_rfl
 t80 := Tryd.underlying117
 a80 := Tryd.isAgg117
 z80 := Tryd.sizeOf117
 v80 := Tryd.zeroValue117
 i0 := by kernel_rfl
 i2 := by kernel_rfl
 i3 := by kernel_rfl
 i4 := by kernel_rfl
 i5 := by kernel_rfl
 i9 := by kernel_rfl
 i20 := by kernel_rfl
 i21 := by kernel_rfl
 i37 := by kernel_rfl
 i46 := by kernel_rfl
 i51 := by kernel_rfl
 i53 := by kernel_rfl
 i75 := by kernel_rfl
 i76 := by kernel_rfl
 i80 := by kernel_rfl
 i85 := by kernel_rfl
 i127 := by kernel_rfl
 i143 := by kernel_rfl
 i145 := by kernel_rfl
 i167 := by kernel_rfl
 i168 := by kernel_rfl
 i171 := by kernel_rfl
 i173 := by kernel_rfl
 i175 := by kernel_rfl
 i210 := by kernel_rfl
 i212 := by kernel_rfl
 i232 := by kernel_rfl
 i233 := by kernel_rfl
 m15 := by kernel_rfl
 m16 := by kernel_rfl
 m17 := by kernel_rfl
 m18 := by kernel_rfl
 m19 := by kernel_rfl
 c0 := by kernel_rfl
 c2 := by kernel_rfl
 c3 := by kernel_rfl
 c4 := by kernel_rfl
 c5 := by kernel_rfl
 c9 := by kernel_rfl
 c20 := by kernel_rfl
 c21 := by kernel_rfl
 c37 := by kernel_rfl
 c46 := by kernel_rfl
 c51 := by kernel_rfl
 c53 := by kernel_rfl
 c75 := by kernel_rfl
 c76 := by kernel_rfl
 c80 := by kernel_rfl
 c85 := by kernel_rfl
 c127 := by kernel_rfl
 c143 := by kernel_rfl
 c145 := by kernel_rfl
 c167 := by kernel_rfl
 c168 := by kernel_rfl
 c171 := by kernel_rfl
 c173 := by kernel_rfl
 c175 := by kernel_rfl
 c210 := by kernel_rfl
 c212 := by kernel_rfl
 c213 := by kernel_rfl
 c232 := by kernel_rfl
 c233 := by kernel_rfl }
open Go.RowKit in
theorem Tryd.strconv_Atoi_ok (s : ByteArray) (hmax : s.size ≤ 9223372036854775806) (v : Int) (h : Lib.atoiAll s.data.toList = .ok v) (w : World) :
  Calls Tryd.prog 43 #[.string s] w fun e w' => e = .returned (.tuple #[.int .i64 v, .nilIface]) ∧ (w' = w ∨ ∃ t, w' = Lib.bytesWorld w 5 t) := Any.strconv_Atoi_ok Tryd.laysC172 s hmax v h w
open Go.RowKit in
theorem Tryd.strconv_Atoi_range (s : ByteArray) (hlim : s.size ≤ 281474976710656) (h : Lib.atoiAll s.data.toList = .range) (ev : Value) (w : World) (hv : w.cell? ⟨4, 0, none⟩ = some ev) (hev : ev = .nilIface ∨ ∃ te pe, ev = .iface te pe) :
  Calls Tryd.prog 43 #[.string s] w fun e w' => ∃ N, e = .returned (.tuple #[.int .i64 (Lib.atoiSat s.data.toList), .iface 73 (.pointer (some ⟨N, 0, none⟩))]) ∧ w.heap.size ≤ N ∧ w'.heap[N]? = some (.cells #[.string ⟨#[65, 116, 111, 105]⟩, .string s, ev] 93 (0, 0)) ∧ Below w.heap.size w w' := Any.strconv_Atoi_range Tryd.laysC172 s hlim h ev w hv hev
def Tryd.lays157_ren : Go.Shelf.Ren := ⟨fun | 157 => 40 | 229 => 44 | 199 => 45 | 261 => 49 | 311 => 55 | 312 => 56 | n => n, fun | 9 => 9 | 31 => 31 | 3 => 3 | 5 => 5 | 4 => 4 | 119 => 60 | 0 => 0 | 40 => 62 | 152 => 64 | 21 => 21 | 154 => 66 | 51 => 67 | 141 => 69 | 196 => 79 | 193 => 76 | 198 => 82 | 49 => 80 | 194 => 77 | 201 => 85 | 226 => 96 | 46 => 90 | 227 => 97 | n => n, fun | 0 => 0 | 6 => 1 | n => n⟩
theorem Tryd.lays157 : Go.Proofs.Lays.n157 Tryd.prog Tryd.lays157_ren := {
 mixed := by kernel_rfl
 f157 := Tryd.func40.trans (congrArg some (by kernel_rfl))
 f199 := Tryd.func45.trans (congrArg some (by kernel_rfl))
 f229 := Tryd.func44.trans (congrArg some (by kernel_rfl))
 f261 := Tryd.func49.trans (congrArg some (by kernel_rfl))
 f311 := Tryd.func55.trans (congrArg some (by kernel_rfl))
 f312 := Tryd.func56.trans (congrArg some (by kernel_rfl))
 t0 := Tryd.underlying0
 a0 := Tryd.isAgg0
 z0 := Tryd.sizeOf0
 v0 := Tryd.zeroValue0
 t3 := Tryd.underlying3
 a3 := Tryd.isAgg3
 z3 := Tryd.sizeOf3
 v3 := Tryd.zeroValue3
 t4 := Tryd.underlying4
 a4 := Tryd.isAgg4
 z4 := Tryd.sizeOf4
 v4 := Tryd.zeroValue4
 t5 := Tryd.underlying5
 a5 := Tryd.isAgg5
 z5 := Tryd.sizeOf5
 v5 := Tryd.zeroValue5
 t9 := Tryd.underlying9
 a9 := Tryd.isAgg9
 z9 := Tryd.sizeOf9
 v9 := Tryd.zeroValue9
 t21 := Tryd.underlying21
 a21 := Tryd.isAgg21
 z21 := Tryd.sizeOf21
 v21 := Tryd.zeroValue21
 t31 := Tryd.underlying31
 a31 := Tryd.isAgg31
 z31 := Tryd.sizeOf31
 v31 := Tryd.zeroValue31
 t40 := Tryd.underlying62
 a40 := Tryd.isAgg62
 z40 := Tryd.sizeOf62
 v40 := Tryd.zeroValue62
 t46 := Tryd.underlying90
 a46 := Tryd.isAgg90
 z46 := Tryd.sizeOf90
 v46 := Tryd.zeroValue90
 t49 := Tryd.underlying80
 a49 := Tryd.isAgg80
 z49 := Tryd.sizeOf80
 v49 := Tryd.zeroValue80
 t51 := Tryd.underlying67
 a51 := Tryd.isAgg67
 z51 := Tryd.sizeOf67
 v51 := Tryd.zeroValue67
 t119 := Tryd.underlying60
 a119 := Tryd.isAgg60
 z119 := Tryd.sizeOf60
 t141 := Tryd.underlying69
 a141 := Tryd.isAgg69
 z141 := Tryd.sizeOf69
 v141 := Tryd.zeroValue69
 t152 := Tryd.underlying64
 a152 := Tryd.isAgg64
 z152 := Tryd.sizeOf64
 v152 := Tryd.zeroValue64
 t154 := Tryd.underlying66
 a154 := Tryd.isAgg66
 z154 := Tryd.sizeOf66
 v154 := Tryd.zeroValue66
 t193 := Tryd.underlying76
 a193 := Tryd.isAgg76
 z193 := Tryd.sizeOf76
 v193 := Tryd.zeroValue76
 t194 := Tryd.underlying77
 a194 := Tryd.isAgg77
 z194 := Tryd.sizeOf77
 v194 := Tryd.zeroValue77
 t196 := Tryd.underlying79
 a196 := Tryd.isAgg79
 z196 := Tryd.sizeOf79
 v196 := Tryd.zeroValue79
 t198 := Tryd.underlying82
 a198 := Tryd.isAgg82
 z198 := Tryd.sizeOf82
 v198 := Tryd.zeroValue82
 t201 := Tryd.underlying85
 a201 := Tryd.isAgg85
 z201 := Tryd.sizeOf85
 v201 := Tryd.zeroValue85
 t226 := Tryd.underlying96
 a226 := Tryd.isAgg96
 z226 := Tryd.sizeOf96
 v226 := Tryd.zeroValue96
 t227 := Tryd.underlying97
 a227 := Tryd.isAgg97
 z227 := Tryd.sizeOf97
 v227 := Tryd.zeroValue97
 g0 := by kernel_rfl
 g6 := by kernel_rfl }
open Go.RowKit Go.Lib in
theorem Tryd.strings_Fields (s : ByteArray) (w : World) (hs : s.size < 4294967281) (hascii : ∀ (j : Nat) b, s.data.toList[j]? = some b → b.toNat < 128) (htab : Lib.TabIs Tryd.prog w "strings.asciiSpace" .u8 Lib.asciiSpaceTab) :
  Calls Tryd.prog 40 #[.string s] w fun e w' =>
   e = .returned (.slice (some ⟨w.heap.size, 0, none⟩) (Lib.fields s.data.toList).length (Lib.fields s.data.toList).length) ∧ w' = w.alloc (.cells ((Lib.fields s.data.toList).map fun l => Value.string ⟨l.toArray⟩).toArray 9) := Any.strings_Fields Tryd.lays157 (by kernel_rfl) (by kernel_rfl) s w hs hascii htab
end Go.Proofs

namespace Go.Proofs.YtgcamjgnfeajiaaDoor
open Go.Ev Go.RowKit
theorem upon_of {f : Nat} {fn : Func} {c : Code} {xs : List Value} {w : World} {next : Value → World → Prop} (hfn : P.funcs[f]? = some fn) (hc : fn.body = some c) (h : Calls P f xs.toArray w fun e w' => ∃ x, e = .returned x ∧ next x w') : Upon P (callFunc f xs.toArray) w next := by
 have hname : (fn.name == "runtime.NumGoroutine") = false := progOk.names fn (Array.mem_of_getElem? hfn)
 have hrun : (callFunc f xs.toArray).run P w = .ok (.enter f xs.toArray) w := by
  unfold callFunc
  simp [hfn, hc]
  intro hh
  simp [hh] at hname
 unfold Upon
 rw [hrun]
 simp only
 refine Calls.mono h fun e w' hr => ?_
 obtain ⟨x, rfl, hx⟩ := hr
 exact hx
theorem step_below {ρ : Env} {H : AHeap} {w w' : World} (hR : Rel ρ H w) (hb : Below w.heap.size w w') : Step ρ H w ρ H w' :=
 ⟨ρ.le_refl, Nat.le_refl _, fun _ _ => rfl, hR.keepAll hb.block, hb.os, hb.tape, hb.output, hb.size, fun b h _ => hb.block b h, fun _ h => .inl h, fun _ _ _ h => h⟩
theorem get_dead {H : AHeap} {l : Nat} {b : ABlk} (h : (H.push .dead).get l = some b) (hb : b ≠ .dead) : l ≠ H.next ∧ H.get l = some b := by
 rw [AHeap.get_push] at h
 split at h
 ·cases h; exact absurd rfl hb
 ·rename_i hne; exact ⟨hne, h⟩
theorem step_dead {ρ : Env} {H : AHeap} {w w' : World} (hR : Rel ρ H w) (hf : ρ H.next = none) (hb : Below w.heap.size w w') (loc : Go.Ev.Loc) : Step ρ H w (ρ.upd H.next loc) (H.push .dead) w' := by
 have hle := Env.le_upd hf loc
 have hR' := hR.keepAll hb.block
 have hrw : ∀ l, (H.push .dead).rw l → l ≠ H.next ∧ H.rw l := by
  rintro l (⟨e, s, hg⟩ | ⟨es, hg⟩)
  ·obtain ⟨a, b⟩ := get_dead hg (by simp); exact ⟨a, .inl ⟨e, s, b⟩⟩
  ·obtain ⟨a, b⟩ := get_dead hg (by simp); exact ⟨a, .inr ⟨es, b⟩⟩
 have hlv : ∀ l, (H.push .dead).live l → l ≠ H.next ∧ H.live l := by
  rintro l (⟨r, e, s, hg⟩ | ⟨es, hg⟩)
  ·obtain ⟨a, b⟩ := get_dead hg (by simp); exact ⟨a, .inl ⟨r, e, s, b⟩⟩
  ·obtain ⟨a, b⟩ := get_dead hg (by simp); exact ⟨a, .inr ⟨es, b⟩⟩
 refine ⟨hle, by simp, fun l hl => Env.upd_other (by simp at hl; omega), ⟨?_, ?_, ?_⟩, hb.os, hb.tape, hb.output, hb.size, fun b h _ => hb.block b h, ?_, ?_⟩
 ·intro l ro esz els h
  obtain ⟨hne, hg⟩ := get_dead h (by simp)
  obtain ⟨loc', h1, h2⟩ := hR'.row l ro esz els hg
  exact ⟨loc', hle _ _ h1, h2.mono hle⟩
 ·intro l es h
  obtain ⟨hne, hg⟩ := get_dead h (by simp)
  obtain ⟨loc', h1, ents, clock, h2, h3, h4⟩ := hR'.map l es hg
  exact ⟨loc', hle _ _ h1, ents, clock, h2, h3.mono hle, h4.mono hle⟩
 ·intro l l' a b h1 h2 hne e1 e2
  obtain ⟨n1, r1⟩ := hrw l h1
  obtain ⟨n2, r2⟩ := hlv l' h2
  rw [Env.upd_other n1] at e1
  rw [Env.upd_other n2] at e2
  exact hR'.apart l l' a b r1 r2 hne e1 e2
 ·rintro b ⟨l, loc', h1, h2, h3⟩
  obtain ⟨n1, r1⟩ := hrw l h1
  rw [Env.upd_other n1] at h2
  exact .inl ⟨l, loc', r1, h2, h3⟩
 ·intro l esz els h
  exact (get_dead h (by simp)).2
theorem orc30 {H : AHeap} (s : List UInt8) (c : Int) : CallOk1 E0 P 30 [.str s, .int .u8 c] H (.int .i64 (Lib.indexByte s c.toNat.toUInt8)) H := by
 intro ρ w xs hR hf hargs hn next hnext
 cases hargs with | cons _ _ _ _ h1 h2 =>
 cases h2 with | cons _ _ _ _ h2 h3 =>
 cases h1; cases h2; cases h3
 refine upon_of (c := bodyOf Tryd.f30) Tryd.func30 (by kernel_rfl) ?_
 refine Calls.mono (Tryd.strings_IndexByte ⟨s.toArray⟩ c w) ?_
 rintro e w' ⟨rfl, rfl⟩
 have hd : (⟨s.toArray⟩ : ByteArray).data.toList = s := by simp
 rw [hd]
 exact ⟨_, rfl, hnext _ _ ρ (.int _ _) (Step.refl hR)⟩
theorem orc43ok {H : AHeap} (s : List UInt8) (hs : s.length ≤ 281474976710656) (v : Int) (hv : Lib.atoiAll s = .ok v) : CallOk1 E0 P 43 [.str s] H (.tuple [.int .i64 v, .nilIface]) H := by
 intro ρ w xs hR hf hargs hn next hnext
 cases hargs with | cons _ _ _ _ h1 h2 =>
 cases h1; cases h2
 have hd : (⟨s.toArray⟩ : ByteArray).data.toList = s := by simp
 have hz : (⟨s.toArray⟩ : ByteArray).size = s.length := by simp [ByteArray.size]
 refine upon_of (c := bodyOf Tryd.f43) Tryd.func43 (by kernel_rfl) ?_
 refine Calls.mono (Tryd.strconv_Atoi_ok ⟨s.toArray⟩ (by rw [hz]; omega) v (by rw [hd]; exact hv) w) ?_
 rintro e w' ⟨rfl, hw⟩
 have hb : Below w.heap.size w w' := by
  rcases hw with rfl | ⟨t, rfl⟩
  ·exact Below.refl _ _
  ·exact ⟨rfl, rfl, rfl, by rw [Lib.bytesWorld_size]; omega, fun j hj => Lib.bytesWorld_at_old w 5 t j hj⟩
 exact ⟨_, rfl, hnext _ _ ρ (.tuple [_, _] [_, _] (.cons _ _ _ _ (.int _ _) (.cons _ _ _ _ .nilIface .nil))) (step_below hR hb)⟩
theorem e0_at {ρ : Env} {n m : Nat} (hf : Fresh E0 ρ n m) : ρ 0 = some ⟨0, 0, 1, 256⟩ ∧ ρ 1 = some ⟨4, 0, 1, 1⟩ := ⟨hf.le 0 _ rfl, hf.le 1 _ rfl⟩
theorem orc43range {H : AHeap} (s : List UInt8) (hs : s.length ≤ 281474976710656) (hg : H.get 1 = some (.row true 1 row1)) (hv : Lib.atoiAll s = .range) : CallOk1 E0 P 43 [.str s] H (.tuple [.int .i64 (Lib.atoiSat s), .iface 73 (.ptr H.next 0 0)]) (H.push .dead) := by
 intro ρ w xs hR hf hargs hn next hnext
 cases hargs with | cons _ _ _ _ h1 h2 =>
 cases h1; cases h2
 have hd : (⟨s.toArray⟩ : ByteArray).data.toList = s := by simp
 have hz : (⟨s.toArray⟩ : ByteArray).size = s.length := by simp [ByteArray.size]
 obtain ⟨loc, hl, -, c, t, fz, hc, -, hr⟩ := hR.row 1 true 1 row1 hg
 rw [(e0_at hf).2] at hl
 cases hl
 obtain ⟨-, q2⟩ := hr 0 _ rfl
 obtain ⟨-, x, hx, hv1⟩ := q2 0 _ rfl
 have hev : ∃ te pe, x = .iface te pe := by cases hv1; exact ⟨_, _, rfl⟩
 have hcell : w.cell? ⟨4, 0, none⟩ = some x := by
  simp [World.cell?, hc]
  simpa using hx
 refine upon_of (c := bodyOf Tryd.f43) Tryd.func43 (by kernel_rfl) ?_
 refine Calls.mono (Tryd.strconv_Atoi_range ⟨s.toArray⟩ (by rw [hz]; omega) (by rw [hd]; exact hv) x w hcell (.inr hev)) ?_
 rintro e w' ⟨N, rfl, h1, h2, hb⟩
 have hfr : ρ H.next = none := hf.new _ (Nat.le_refl _) (by simp)
 refine ⟨_, rfl, hnext _ _ (ρ.upd H.next ⟨N, 0, 1, 1⟩) (.tuple [_, _] [_, _] (.cons _ _ _ _ (by rw [hd]; exact .int _ _) (.cons _ _ _ _ (.iface _ _ _ ?_) .nil))) (step_dead hR hfr hb _)⟩
 exact .ptr H.next 0 0 ⟨N, 0, 1, 1⟩ (Env.upd_same _ _ _)
theorem tab0_at (c : Nat) (hc : c < 256) : tab0[c]? = some [.int .u8 (if Lib.isSp (UInt8.ofNat c) then 1 else 0)] := by
 simp [tab0, Lib.asciiSpaceTab, hc]
theorem orc40 {H : AHeap} (s : List UInt8) (hs : s.length < 4294967281) (ha : ∀ (j : Nat) b, s[j]? = some b → b.toNat < 128) (hg : H.get 0 = some (.row true 1 tab0)) : CallOk1 E0 P 40 [.str s] H (.sl H.next 0 (Lib.fields s).length 1 (some (Lib.fields s).length)) (H.push (.row false 1 ((Lib.fields s).map fun l => [.str l]))) := by
 intro ρ w xs hR hf hargs hn next hnext
 cases hargs with | cons _ _ _ _ h1 h2 =>
 cases h1; cases h2
 have hd : (⟨s.toArray⟩ : ByteArray).data.toList = s := by simp
 have hz : (⟨s.toArray⟩ : ByteArray).size = s.length := by simp [ByteArray.size]
 obtain ⟨loc, hl, -, c, t, fz, hc, -, hr⟩ := hR.row 0 true 1 tab0 hg
 rw [(e0_at hf).1] at hl
 cases hl
 have hT : ∀ k : Nat, k < 256 → w.cell? ⟨0, k, none⟩ = some (.int .u8 (if Lib.isSp (UInt8.ofNat k) then 1 else 0)) := fun k hk => by
  obtain ⟨-, q2⟩ := hr k _ (tab0_at k hk)
  obtain ⟨-, x, hx, hv1⟩ := q2 0 _ rfl
  cases hv1
  simp [World.cell?, hc]
  simpa using hx
 have hfr : ρ H.next = none := hf.new _ (Nat.le_refl _) (by simp)
 have core := Any.strings_Fields_core Tryd.lays157 (by kernel_rfl) ⟨s.toArray⟩ w (by rw [hz]; exact hs) (by rw [hd]; exact ha) hT
 rw [hd] at core
 refine upon_of (c := bodyOf Tryd.f40) Tryd.func40 (by kernel_rfl) ?_
 refine Calls.mono core ?_
 rintro e w' ⟨rfl, rfl⟩
 refine ⟨_, rfl, hnext _ _ (ρ.upd H.next ⟨w.heap.size, 0, 1, (Lib.fields s).length⟩) ?_ (push_sound hR hfr _ rfl _ _ rfl ?_ (fun es h => by cases h))⟩
 ·exact .sl H.next 0 _ _ ⟨w.heap.size, 0, 1, (Lib.fields s).length⟩ _ _ (Env.upd_same _ _ _) (Nat.le_refl _) (fun k h => by cases h; rfl) (fun _ => ⟨rfl, by simp⟩)
 ·intro ro esz els h
  cases h
  refine ⟨rfl, _, _, _, heap_alloc_new w _, fun _ => ⟨by simp, fun o _ h => by omega⟩, fun i e he => ?_⟩
  rw [List.getElem?_map] at he
  obtain ⟨l, hl, rfl⟩ := Option.map_eq_some_iff.1 he
  refine ⟨rfl, fun j v hv => ?_⟩
  rcases j with _ | j
  ·cases hv
   exact ⟨rfl, _, by simp [hl], .str _⟩
  ·simp at hv
theorem orc_ok : CallOk E0 P orc := by
 intro g args H v H' h
 unfold orc at h
 split at h
 ·cases h; exact orc30 _ _
 ·split at h
  ·rename_i hc
   cases h
   exact orc40 _ hc.1 hc.2.1 hc.2.2
  ·cases h
 ·split at h
  ·rename_i hc
   split at h
   ·rename_i v hv
    cases h; exact orc43ok _ hc.1 _ hv
   ·rename_i hv
    cases h; exact orc43range _ hc.1 hc.2 hv
   ·cases h
  ·cases h
 ·cases h
end Go.Proofs.YtgcamjgnfeajiaaDoor

namespace Go.Proofs.YtgcamjgnfeajiaaDoor
open Go.Ev
open Go.ChangeShapes Go.WideShapes Go.ChangeAt Go.RowKit
theorem own : ownKnob Tryd.prog.godebug = none := by kernel_rfl
def H0 : AHeap := ((AHeap.empty.push (.row true 1 tab0)).push (.row true 1 row1)).push .dead
theorem H0_get {l : Nat} {b : ABlk} (h : H0.get l = some b) : (l = 0 ∧ b = .row true 1 tab0) ∨ (l = 1 ∧ b = .row true 1 row1) ∨ (l = 2 ∧ b = .dead) := by
 unfold H0 at h
 rw [AHeap.get_push] at h
 split at h
 ·rename_i hl; exact .inr (.inr ⟨hl, (Option.some.inj h).symm⟩)
 ·rw [AHeap.get_push] at h
  split at h
  ·rename_i hl; exact .inr (.inl ⟨hl, (Option.some.inj h).symm⟩)
  ·rw [AHeap.get_push] at h
   split at h
   ·rename_i hl; exact .inl ⟨hl, (Option.some.inj h).symm⟩
   ·rw [AHeap.empty_get] at h; cases h
def rho0 (b o : Nat) : Env := fun l => if l = 0 then some ⟨0, 0, 1, 256⟩ else if l = 1 then some ⟨4, 0, 1, 1⟩ else if l = 2 then some ⟨b, o, 1, 1⟩ else none
theorem gl0 : Gl H0 :=
 ⟨(AHeap.get_push_other (by decide)).trans ((AHeap.get_push_other (by decide)).trans (AHeap.get_push_same AHeap.empty (.row true 1 tab0))),
  (AHeap.get_push_other (by decide)).trans (AHeap.get_push_same (AHeap.empty.push (.row true 1 tab0)) (.row true 1 row1))⟩
theorem seen0 {W : World} (ht : Lib.TabIs Tryd.prog W "strings.asciiSpace" .u8 Lib.asciiSpaceTab) {b o : Nat} (he : W.var? Tryd.prog "strconv.ErrRange" = some #[.iface 100 (.pointer (some ⟨b, o, none⟩))]) :
  Rel (rho0 b o) H0 W ∧ (∀ l, ¬ H0.rw l) ∧ (∀ l, H0.next ≤ l → rho0 b o l = none) ∧ E0.le (rho0 b o) := by
 have g0 : Tryd.prog.globalNamed "strings.asciiSpace" = some 0 := by kernel_rfl
 have g4 : Tryd.prog.globalNamed "strconv.ErrRange" = some 4 := by kernel_rfl
 unfold Lib.TabIs World.var? at ht
 unfold World.var? at he
 rw [g0, Option.bind_some] at ht
 rw [g4, Option.bind_some] at he
 have hno : ∀ l, ¬ H0.rw l := by
  rintro l (⟨e, s, h⟩ | ⟨es, h⟩) <;> rcases H0_get h with ⟨_, h⟩ | ⟨_, h⟩ | ⟨_, h⟩ <;> cases h
 refine ⟨⟨?_, ?_, fun l l' _ _ h => absurd h (hno l)⟩, hno, ?_, ?_⟩
 ·intro l ro esz els h
  rcases H0_get h with ⟨rfl, h⟩ | ⟨rfl, h⟩ | ⟨_, h⟩
  ·cases h
   split at ht
   ·rename_i cs t fz hb
    obtain rfl := Option.some.inj ht
    refine ⟨_, rfl, rfl, _, _, _, hb, fun h => (by cases h), fun i e hi => ?_⟩
    simp only [tab0, List.getElem?_map, Option.map_eq_some_iff] at hi
    obtain ⟨z, hz, rfl⟩ := hi
    refine ⟨rfl, fun j v hv => ?_⟩
    rcases j with _ | j
    ·cases hv
     exact ⟨rfl, .int .u8 z, by simp [hz], .int _ _⟩
    ·simp at hv
   ·cases ht
  ·cases h
   split at he
   ·rename_i cs t fz hb
    obtain rfl := Option.some.inj he
    refine ⟨_, rfl, rfl, _, _, _, hb, fun h => (by cases h), fun i e hi => ?_⟩
    rcases i with _ | i
    ·cases hi
     refine ⟨rfl, fun j v hv => ?_⟩
     rcases j with _ | j
     ·cases hv
      exact ⟨rfl, _, rfl, .iface _ _ _ (.ptr 2 0 0 ⟨b, o, 1, 1⟩ rfl)⟩
     ·simp at hv
    ·simp [row1] at hi
   ·cases he
  ·cases h
 ·intro l es h
  rcases H0_get h with ⟨_, h⟩ | ⟨_, h⟩ | ⟨_, h⟩ <;> cases h
 ·intro l hl
  have : 3 ≤ l := hl
  unfold rho0
  rw [if_neg (by omega), if_neg (by omega), if_neg (by omega)]
 ·intro l loc h
  unfold E0 at h
  split at h
  ·exact h
  ·exact h
  ·cases h
theorem gTabType : (Tryd.prog.globals[0]?).map (·.type) = some 60 := by kernel_rfl
theorem gRngType : (Tryd.prog.globals[4]?).map (·.type) = some 57 := by kernel_rfl
theorem gTab : Tryd.prog.globalNamed "strings.asciiSpace" = some 0 := by kernel_rfl
theorem gRng : Tryd.prog.globalNamed "strconv.ErrRange" = some 4 := by kernel_rfl
theorem cells60 : Tryd.prog.cellsOf 60 = 256 := by kernel_rfl
theorem cells5 : Tryd.prog.cellsOf 5 = 1 := by kernel_rfl
theorem cells9 : Tryd.prog.cellsOf 9 = 1 := by kernel_rfl
theorem cells102 : Tryd.prog.cellsOf 102 = 1 := by kernel_rfl
theorem star : ("*errors.errorString" : String) = "*" ++ "errors.errorString" := by decide +kernel
theorem names100 (u : TypeId) (h : Tryd.prog.typeName? 3 u = some "*errors.errorString") : u = 100 :=
 typeName_ptr_named (nm := "errors.errorString") (by rw [← star]; kernel_rfl) (by kernel_rfl) (by decide) u (by rw [← star]; exact h)
theorem spaceTab : Rows.laid_strings_asciiSpace (H := Unit) = Lib.tabData .u8 Lib.asciiSpaceTab := by kernel_rfl
theorem env_of {W : World} (h : laidMetH Tryd.prog Rows.lexTokensRow.laid W) : ∃ b o, Rel (rho0 b o) H0 W ∧ (∀ l, ¬ H0.rw l) ∧ (∀ l, H0.next ≤ l → rho0 b o l = none) ∧ E0.le (rho0 b o) := by
 have h0 : laidMet Tryd.prog [("math/bits.deBruijn32tab", Rows.laid_math_bits_deBruijn32tab), ("math/bits.deBruijn64tab", Rows.laid_math_bits_deBruijn64tab), ("internal/strconv.uint64pow10", Rows.laid_internal_strconv_uint64pow10), ("strconv.ErrRange", Rows.laid_strconv_ErrRange), ("strconv.ErrSyntax", Rows.laid_strconv_ErrSyntax), ("unicode.White_Space", Rows.laid_unicode_White_Space), ("strings.asciiSpace", Rows.laid_strings_asciiSpace)] W := h
 have h3 := h0.tail.tail.tail
 have h6 := h3.tail.tail.tail
 rw [spaceTab] at h6
 have tab : Lib.TabIs Tryd.prog W "strings.asciiSpace" .u8 Lib.asciiSpaceTab :=
  Lib.tabIs_of_head gTab gTabType Tryd.underlying60 Tryd.underlying5 cells5 cells60 h6
 obtain ⟨a, s, hv, hc, -, -⟩ := laid_sentinel h3 gRng gRngType Tryd.underlying57 names100 Tryd.underlying100 Tryd.underlying102 rfl rfl Tryd.underlying9 cells102 cells9
 obtain ⟨b, o, sp⟩ := a
 have hsp : sp = none := by
  unfold World.cell? at hc
  split at hc
  ·cases sp with
   | none => rfl
   | some x => simp at hc
  ·cases hc
 subst hsp
 exact ⟨b, o, seen0 tab hv⟩
end Go.Proofs.YtgcamjgnfeajiaaDoor

namespace Go.Proofs.YtgcamjgnfeajiaaDoor
open Go.Ev
open Go.ChangeShapes Go.WideShapes Go.ChangeAt Go.RowKit
theorem laidOut : laidOutB Tryd.prog = true := by kernel_rfl
theorem und3 : P.underlying 3 = some (.int .i64) := by kernel_rfl
theorem und4 : P.underlying 4 = some .bool := by kernel_rfl
theorem und9 : P.underlying 9 = some .string := by kernel_rfl
end Go.Proofs.YtgcamjgnfeajiaaDoor

namespace Go.Proofs.YtgcamjgnfeajiaaDoor
open Go.Ev
open Go.ChangeShapes Go.WideShapes Go.ChangeAt Go.RowKit
open Go.ChangeMaps (open_string shut_string)
def synS : ByteArray := { data := #[105, 110, 118, 97, 108, 105, 100, 32, 115, 121, 110, 116, 97, 120] }
def rngS : ByteArray := { data := #[118, 97, 108, 117, 101, 32, 111, 117, 116, 32, 111, 102, 32, 114, 97, 110, 103, 101] }
noncomputable def low : Nat := (World.holding Tryd.prog default ⟨#[], #[], []⟩).heap.size
def litCells : DataW Unit → Array Value
 | .agg l => (l.map fun | .lit (.int k z) => Value.int k z | _ => .nilIface).toArray
 | _ => #[]
def lays (cs : Array Value) : Obj → Obj
 | .cells _ t frozen => .cells cs t frozen
 | o => o
def ranges : Array Value := #[.int .u16 9, .int .u16 13, .int .u16 1, .int .u16 32, .int .u16 133, .int .u16 101, .int .u16 160, .int .u16 5760, .int .u16 5600, .int .u16 8192, .int .u16 8202, .int .u16 1, .int .u16 8232, .int .u16 8233, .int .u16 1, .int .u16 8239, .int .u16 8287, .int .u16 48, .int .u16 12288, .int .u16 12288, .int .u16 1]
noncomputable def laidWorld (os : Os) : World :=
 let w0 := World.holding Tryd.prog os ⟨#[.cells #[.string synS] 102, .cells #[.string rngS] 102, .cells #[.slice (some ⟨low + 3, 0, none⟩) 7 7, .slice none 0 0, .int .i64 2] 79, .cells ranges 82], #[], []⟩
 { w0 with heap := ((((((w0.heap.modify 3 (lays #[.iface 100 (.pointer (some ⟨low, 0, none⟩))])).modify 4 (lays #[.iface 100 (.pointer (some ⟨low + 1, 0, none⟩))])).modify 5 (lays (litCells Rows.laid_internal_strconv_uint64pow10))).modify 6 (lays (litCells Rows.laid_math_bits_deBruijn32tab))).modify 7 (lays (litCells Rows.laid_math_bits_deBruijn64tab))).modify 1 (lays #[.pointer (some ⟨low + 2, 0, none⟩)])).modify 0 (lays (litCells Rows.laid_strings_asciiSpace)) }
namespace lexBack
set_option maxRecDepth 100000 in
theorem laid_met (os : Os) : laidMet Tryd.prog Rows.lexBackRow.laid ((laidWorld os).forCall (fun _ _ => 0) ⟨#[], #[.string ⟨#[]⟩, .int .i64 0], []⟩).memory :=
 laidMet_of_run' 8 (by kernel_rfl) (by kernel_rfl)
theorem reads (os : Os) {H : Type} (enc : TypeId × Value → H) : ∃ places, DataW.whole enc Tryd.prog ((laidWorld os).forCall (fun _ _ => 0) ⟨#[], #[.string ⟨#[]⟩, .int .i64 0], []⟩).memory Tryd.f5.params.toList Rows.lexBackSpec.vars false (#[.string ⟨#[]⟩, .int .i64 0] : Array Value).toList 8 = some ([.lit (.string []), .lit (.int .i64 0)], [], places) :=
 ⟨[], by kernel_rfl⟩
set_option maxRecDepth 100000 in
theorem contract (H : Type) (enc : TypeId × Value → H) (W : World) (base : Nat) (args : Array Value) (ds gs : List (DataW H)) (before : List MemPlace)
  (hval : ∀ (j : Nat) t v, Tryd.f5.params[j]? = some t → args[j]? = some v → Value.okWide Tryd.prog W .any base t v)
  (hW : DataW.Whole enc Tryd.prog Tryd.f5.params.toList Rows.lexBackSpec.vars false W args.toList ds gs before) (hL : laidMetH Tryd.prog Rows.lexBackRow.laid W) :
  Calls Tryd.prog 5 args W fun e W' => ∃ v, e = .returned v ∧ Rows.lexBackSpec.post enc Tryd.prog Tryd.f5 false true false false W args v W' := by
 obtain ⟨b, o, s1, s2, s3, s4⟩ := env_of (show laidMetH Tryd.prog Rows.lexTokensRow.laid W from hL)
 have hW' := hW
 obtain ⟨p, q, hA0, hV, rfl, hfz, hnd⟩ := hW
 have hA : DataW.TrodAll enc Tryd.prog W 0 (fun _ => true) true Tryd.f5.params.toList args.toList ds p := hA0
 have hpar : Tryd.f5.params = #[9, 3] := by kernel_rfl
 rw [hpar] at hA hval
 obtain ⟨v0, vs0, d0, ds0, p0, q0, hargs, rfl, rfl, h0, r0⟩ := trodAll_cons hA
 obtain ⟨v1, vs1, d1, ds1, p1, q1, rfl, rfl, rfl, h1, r1⟩ := trodAll_cons r0
 obtain ⟨rfl, rfl, rfl⟩ := trodAll_nil r1
 obtain rfl : args = #[v0, v1] := by cases args; simp_all
 obtain ⟨rfl, rfl⟩ := trodVars_none hV
 obtain ⟨a0, hv0, -, -, w0⟩ := open_string (P := P) und9 (hval 0 9 v0 rfl rfl) h0
 obtain ⟨a1, hv1, -, -, w1⟩ := open_int (P := P) und3 (hval 1 3 v1 rfl rfl) h1
 subst hv0
 subst hv1
 have hlaw : LawOk E0 P 5 [.string a0, .int .i64 a1] W := by
  obtain ⟨_, H', h, rfl, p⟩ := back_run gl0 a0.data.toList a1
  exact ⟨rho0 b o, H0, [.str a0.data.toList, .int .i64 a1], H', s1, s2, s3, s4, p.1, .cons _ _ _ _ (.str _) (.cons _ _ _ _ (.int _ _) .nil), code_ok1 (c := bodyOf Tryd.f5) (M := 3000) progOk (evw_ok progOk orc_ok) Tryd.func5 (by kernel_rfl) (by kernel_rfl) (by kernel_rfl) (Eq.trans (s5_eq (evw P orc) 3000 (.str a0.data.toList) (.int .i64 a1) H0) h)⟩
 refine (law_walk (c := bodyOf Tryd.f5) progOk Tryd.func5 (by kernel_rfl) hlaw).mono fun e W' ⟨he, bel⟩ => ?_
 subst he
 obtain ⟨pa, hpa⟩ := trodAll_below laidOut bel (ts := [9, 3]) (fun t ht => by
  simp only [List.mem_cons, List.not_mem_nil, or_false] at ht
  rcases ht with rfl | rfl <;> exact ⟨by kernel_rfl, of_decide_eq_true (by kernel_rfl)⟩) hA
 exact ⟨_, rfl, _, _, _, [], pa, [], hW', trodAll_mk1 (shut_bool (P := P) und4 _), by rw [hpar]; exact hpa, rfl, bel.frame _, fun h => by cases h⟩
set_option maxRecDepth 100000 in
theorem lifted (os : Os) (started : os.Started) (H : Type) (enc : TypeId × Value → H) (F : Stop.Interp) :
  ReturnsInHanded {} Tryd.checked os 5 .any ((OpenSpec.ofChange Rows.lexBackSpec).preRow enc Tryd.prog Tryd.f5 Rows.lexBackRow.domain false Rows.lexBackRow.laid) (((OpenSpec.ofChange Rows.lexBackSpec).at F).post enc Tryd.prog Tryd.f5 false true false false) := by
 obtain ⟨places, hx⟩ := reads os enc
 refine returnsInHanded_of_row (C := Tryd.checked) (s := OpenSpec.ofChange Rows.lexBackSpec) own started (by kernel_rfl) Tryd.func5
  (witness_row_atRef (enc := enc) (C := Tryd.checked) false (laidWorld os) #[.string ⟨#[]⟩, .int .i64 0] rfl (by kernel_rfl) (by kernel_rfl) (by kernel_rfl)
   (OpenSpec.preRow_of_cond 8 hx (by kernel_rfl) (fun k hk => by cases hk) (by kernel_rfl) (laid_met os))) ?_
 intro W base args ds gs before hval hW _ _ _ hL _ _
 exact contract H enc W base args ds gs before hval hW hL
theorem said : Rows.LexBackSaid :=
 OpenClaim.holds_of_cond 5 Tryd.f5 rfl rfl rfl rfl rfl rfl rfl ⟨rfl, rfl, rfl, rfl, rfl⟩ rfl rfl rfl rfl rfl (by kernel_rfl) Tryd.func5 (by kernel_rfl)
  (of_decide_eq_true (by kernel_rfl)) (by unfold Func.isWrapper; first | (rw [if_pos (by decide +kernel)]; kernel_rfl) | (rw [if_neg (by decide +kernel)]; exact ⟨rfl, rfl⟩))
  (fun os started H enc _ F => by rw [OpenClaim.pre_eq_preRow]; exact lifted os started H enc F)
theorem plain (f : FuncId) (fn : Func) (hf : Tryd.pinned.checked.prog.funcNamed "runrig/runriglaw2.LexBack" = some f) (hfn : Tryd.pinned.checked.prog.funcs[f]? = some fn) :
  true = Tryd.pinned.checked.prog.looks [] ∧ ∀ (j : Nat) t, fn.params[j]? = some t → Tryd.pinned.checked.prog.wantsStandIn t = false := by
 obtain rfl : f = 5 := Option.some.inj ((show Tryd.prog.funcNamed "runrig/runriglaw2.LexBack" = some 5 by kernel_rfl).symm.trans hf) |>.symm
 obtain rfl : fn = Tryd.f5 := (Option.some.inj (Tryd.func5.symm.trans hfn)).symm
 refine ⟨by kernel_rfl, fun j t ht => ?_⟩
 have hpar : Tryd.f5.params = #[9, 3] := by kernel_rfl
 rw [hpar] at ht
 have ht := Array.mem_of_getElem? ht
 simp only [List.mem_toArray, List.mem_cons, List.not_mem_nil, or_false] at ht
 rcases ht with rfl | rfl
 ·exact (show Tryd.prog.wantsStandIn 9 = false by kernel_rfl)
 ·exact (show Tryd.prog.wantsStandIn 3 = false by kernel_rfl)
theorem card : Rows.LexBackCardSaid :=
 Claim7.holds_tied_plain_at .later [] _ _ _ _ said (fun _ h => by cases h) (by kernel_rfl) (fun _ h => by cases h) lexBack_row_tie rfl ⟨rfl, rfl⟩ (by kernel_rfl) rfl plain (by kernel_rfl)
end lexBack
theorem lexBack_holds : Rows.LexBackCardSaid := lexBack.card
end Go.Proofs.YtgcamjgnfeajiaaDoor

