/- What the library's variables hold, out of the row's condition; a world that meets it. For this program. -/
import Derived.Test.YthhohplddgklgaaDoorCards
import Derived.Test.YthhohplddgklgaaDoorKind2
import Derived.Lib.LaidTab
import Derived.Stop.LaidErr
import Derived.LaidMore
import Derived.MakeChecks
namespace Go.Proofs.YthhohplddgklgaaDoor.Door
open Go Go.RowKit
def list : List (String × DataW Unit) := [("math/bits.deBruijn32tab", Rows.laid_math_bits_deBruijn32tab), ("math/bits.deBruijn64tab", Rows.laid_math_bits_deBruijn64tab), ("internal/strconv.uint64pow10", Rows.laid_internal_strconv_uint64pow10), ("strconv.ErrRange", Rows.laid_strconv_ErrRange), ("strconv.ErrSyntax", Rows.laid_strconv_ErrSyntax)]
theorem tab_eq : (Rows.laid_internal_strconv_uint64pow10 : DataW Unit) = Lib.tabData .u64 Lib.pow10Tab := by rfl
theorem star : "*" ++ "errors.errorString" = "*errors.errorString" := by decide
theorem row_err (u : TypeId) (h : Tryd.prog.typeName? 3 u = some "*errors.errorString") : u = 104 :=
  typeName_ptr_named (nm := "errors.errorString") (by rw [star]; kernel_rfl) (by kernel_rfl) (by decide) u (by rw [star]; exact h)
theorem met (os : Os) (args : Array Value) : laidMetH Tryd.prog list ((World.doorLaid Tryd.prog 62 os).forCall (fun _ _ => 0) ⟨#[], args, []⟩).memory :=
  laidMetH_of_parts3 (fuel := 8) (laidMet_of_run' 8 (by kernel_rfl) (by kernel_rfl)) (by kernel_rfl) (by kernel_rfl)
theorem vars {W : World} (h : laidMetH Tryd.prog list W) : Kind.Vars W := by
  rw [MakeChecks.laidMetH_plain _ _ _ (by kernel_rfl)] at h
  unfold list at h
  have h2 := h.tail.tail
  rw [tab_eq] at h2
  obtain ⟨a1, s1, hv1, -, -, -⟩ := laid_sentinel h2.tail (g := 1) (ti := 43) (tp := 104) (te := 106) (ts := 9) (by kernel_rfl) (by kernel_rfl) Tryd.underlying43 row_err Tryd.underlying104 Tryd.underlying106 rfl rfl Tryd.underlying9 (by kernel_rfl) (by kernel_rfl)
  obtain ⟨a0, s0, hv0, -, -, -⟩ := laid_sentinel h2.tail.tail (g := 0) (ti := 43) (tp := 104) (te := 106) (ts := 9) (by kernel_rfl) (by kernel_rfl) Tryd.underlying43 row_err Tryd.underlying104 Tryd.underlying106 rfl rfl Tryd.underlying9 (by kernel_rfl) (by kernel_rfl)
  have h0 : W.cell? ⟨0, 0, none⟩ = some (.iface 104 (.pointer (some a0))) := by
    have h0 := World.var?_cell (show Tryd.prog.globalNamed "strconv.ErrSyntax" = some 0 by kernel_rfl) hv0 0
    simpa using h0
  have h1 : W.cell? ⟨1, 0, none⟩ = some (.iface 104 (.pointer (some a1))) := by
    have h0 := World.var?_cell (show Tryd.prog.globalNamed "strconv.ErrRange" = some 1 by kernel_rfl) hv1 0
    simpa using h0
  exact ⟨Lib.tabIs_of_head (g := 2) (t := 109) (e := 66) (n := 20) (by kernel_rfl) (by kernel_rfl) Tryd.underlying109 Tryd.underlying66 (by kernel_rfl) (by kernel_rfl) h2, ⟨_, h0, .inr ⟨_, _, rfl⟩⟩, ⟨_, h1, .inr ⟨_, _, rfl⟩⟩⟩
end Go.Proofs.YthhohplddgklgaaDoor.Door
