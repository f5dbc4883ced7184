/-
  TreeLinks: the runs of one part of the inputs.
-/
import Derived.Test.YtgelbhclfnpedaaGreatDoorWZ2
set_option linter.all false
set_option linter.unusedVariables false
set_option linter.unusedSimpArgs false
set_option maxRecDepth 1000000
namespace Go.Sl
open Go Go.Proofs
theorem tl_8_z : runQ tabV 1000000000 9 none [.v (.int .u8 8), .v (.int .u8 0)] ⟨.e, 0⟩ (fun a _ => isTrue a) = true := by kernel_rfl
theorem tl_8_p : runQ tabV 1000000000 9 none [.v (.int .u8 8), .po .u8] ⟨.e, 0⟩ (fun a _ => isTrue a) = true := by kernel_rfl
theorem tl_3_z : runQ tabV 1000000000 9 none [.v (.int .u8 3), .v (.int .u8 0)] ⟨.e, 0⟩ (fun a _ => isTrue a) = true := by kernel_rfl
theorem tl_3_p : runQ tabV 1000000000 9 none [.v (.int .u8 3), .po .u8] ⟨.e, 0⟩ (fun a _ => isTrue a) = true := by kernel_rfl
end Go.Sl
