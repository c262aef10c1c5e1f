/-
  What the rows over num ask of a start, and one start that fits: the library's tables and sentinels as the program's text lays them.
-/
import Derived.Test.YtppndjnklhcbkaaDoorCards
import Derived.Test.YtppndjnklhcbkaaDoorTie
import Derived.Test.YtppndjnklhcbkaaDoorLaws
import Derived.ProofKit
import Derived.OpenShut
import Derived.Deep.DeepHandedRow
import Derived.Lib.LaidTab
import Derived.Stop.LaidErr
namespace Go.Proofs.YtppndjnklhcbkaaDoor
open Go.ChangeShapes Go.WideShapes Go.ChangeAt Go.RowKit

theorem own : ownKnob Tryd.prog.godebug = none := by kernel_rfl
theorem gTabType : (Tryd.prog.globals[2]?).map (·.type) = some 60 := by kernel_rfl
theorem gSynType : (Tryd.prog.globals[0]?).map (·.type) = some 34 := by kernel_rfl
theorem gRngType : (Tryd.prog.globals[1]?).map (·.type) = some 34 := by kernel_rfl
theorem cells60 : Tryd.prog.cellsOf 60 = 20 := by kernel_rfl
theorem cells47 : Tryd.prog.cellsOf 47 = 1 := by kernel_rfl
theorem cells69 : Tryd.prog.cellsOf 69 = 1 := by kernel_rfl
theorem cells9 : Tryd.prog.cellsOf 9 = 1 := by kernel_rfl
theorem star : ("*errors.errorString" : String) = "*" ++ "errors.errorString" := by decide +kernel
theorem names67 (u : TypeId) (h : Tryd.prog.typeName? 3 u = some "*errors.errorString") : u = 67 :=
  typeName_ptr_named (nm := "errors.errorString") (by rw [← star]; kernel_rfl) (by kernel_rfl) (by decide) u (by rw [← star]; exact h)
theorem powTab : Rows.laid_internal_strconv_uint64pow10 (H := Unit) = Lib.tabData .u64 Lib.pow10Tab := by
  unfold Rows.laid_internal_strconv_uint64pow10 Lib.tabData; congr 1

/-- What a row's list gives. -/
theorem env_of {W : World} (h : laidMetH Tryd.prog Rows.numBinsRow.laid W) : Env W := by
  have h0 : laidMet Tryd.prog [("math/bits.deBruijn32tab", Rows.laid_math_bits_deBruijn32tab), ("math/bits.deBruijn64tab", Rows.laid_math_bits_deBruijn64tab), ("internal/strconv.uint64pow10", Rows.laid_internal_strconv_uint64pow10), ("strconv.ErrRange", Rows.laid_strconv_ErrRange), ("strconv.ErrSyntax", Rows.laid_strconv_ErrSyntax)] W := h
  have h2 := h0.tail.tail
  have h3 := h2.tail
  have h4 := h3.tail
  rw [powTab] at h2
  have tab : Lib.TabIs Tryd.prog W "internal/strconv.uint64pow10" .u64 Lib.pow10Tab :=
    Lib.tabIs_of_head gTab gTabType Tryd.underlying60 Tryd.underlying47 cells47 cells60 h2
  obtain ⟨a0, s0, hv0, -, -, -⟩ := laid_sentinel h3 gRng gRngType Tryd.underlying34 names67 Tryd.underlying67 Tryd.underlying69 rfl rfl Tryd.underlying9 cells69 cells9
  obtain ⟨a1, s1, hv1, -, -, -⟩ := laid_sentinel h4 gSyn gSynType Tryd.underlying34 names67 Tryd.underlying67 Tryd.underlying69 rfl rfl Tryd.underlying9 cells69 cells9
  refine ⟨?_, tab, ⟨_, _, hv1⟩, ⟨_, _, hv0⟩⟩
  unfold Lib.TabIs World.var? at tab
  simp only [gTab, Option.bind_some] at tab
  rcases Nat.lt_or_ge 2 W.heap.size with h' | h'
  · omega
  · simp [Array.getElem?_eq_none h'] at tab

/-! ### One start that fits -/
def synS : ByteArray := { data := #[105, 110, 118, 97, 108, 105, 100, 32, 115, 121, 110, 116, 97, 120] }
def rngS : ByteArray := { data := #[118, 97, 108, 117, 101, 32, 111, 117, 116, 32, 111, 102, 32, 114, 97, 110, 103, 101] }
noncomputable def low : Nat := (World.holding Tryd.prog default ⟨#[], #[], []⟩).heap.size
def litCells : DataW Unit → Array Value
  | .agg l => (l.map fun | .lit (.int k z) => Value.int k z | _ => .nilIface).toArray
  | _ => #[]
def lays (cs : Array Value) : Obj → Obj
  | .cells _ t frozen => .cells cs t frozen
  | o => o
noncomputable def laidWorld (os : Os) : World :=
  let w0 := World.holding Tryd.prog os ⟨#[.cells #[.string synS] 69, .cells #[.string rngS] 69], #[], []⟩
  { w0 with heap := ((((w0.heap.modify 0 (lays #[.iface 67 (.pointer (some ⟨low, 0, none⟩))])).modify 1 (lays #[.iface 67 (.pointer (some ⟨low + 1, 0, none⟩))])).modify 2 (lays (litCells Rows.laid_internal_strconv_uint64pow10))).modify 3 (lays (litCells Rows.laid_math_bits_deBruijn32tab))).modify 4 (lays (litCells Rows.laid_math_bits_deBruijn64tab)) }

theorem in64_of {n : Int} (h : (Lit.int .i64 n).wf = true) : In64 n := by
  have e1 : IntKind.i64.min = -9223372036854775808 := rfl
  have e2 : IntKind.i64.max = 9223372036854775807 := rfl
  simp [Lit.wf, e1, e2] at h
  exact h

end Go.Proofs.YtppndjnklhcbkaaDoor
