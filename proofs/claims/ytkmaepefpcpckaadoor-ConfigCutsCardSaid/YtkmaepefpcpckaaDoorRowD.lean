/- What the rows of layer 12 share: the door's own heap; the range of a byte. -/
import Derived.Test.YtkmaepefpcpckaaDoorRowA
import Derived.Test.YtkmaepefpcpckaaDoorCards
import Derived.SevenTiedAt
set_option linter.unusedVariables false
set_option linter.unusedSimpArgs false
namespace Go.Proofs.YtkmaepefpcpckaaDoor
open Go.ChangeShapes Go.WideShapes Go.ChangeAt Go.RowKit

theorem Tryd.bytes_order2 : Tryd.prog.bytesOf 26 = 40 := by kernel_rfl
theorem u8_range {a : Int} (h : (Lit.int .u8 a).wf = true) : 0 ≤ a ∧ a < 256 := by
  simp only [Lit.wf, Bool.and_eq_true, decide_eq_true_eq] at h
  have h1 : IntKind.u8.min = 0 := rfl
  have h2 : IntKind.u8.max = 255 := rfl
  omega

/-- The door's own heap meets the condition. -/
theorem door_met2 (os : Os) (args : Array Value) : laidMetH Tryd.prog [("weirkeep/config.kinds", Rows.laid_weirkeep_config_kinds)] ((World.doorLaid Tryd.prog 600 os).forCall (fun _ _ => 0) ⟨#[], args, []⟩).memory :=
  laidMetH_of_parts3 (fuel := 8) (laidMet_of_run' 8 (by kernel_rfl) (by kernel_rfl)) (by kernel_rfl) (by kernel_rfl)
end Go.Proofs.YtkmaepefpcpckaaDoor
