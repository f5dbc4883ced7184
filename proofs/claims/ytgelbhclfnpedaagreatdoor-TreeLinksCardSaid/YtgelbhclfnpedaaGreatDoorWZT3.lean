/-
  TreeLinks: the runs of one part of the inputs.
-/
import Derived.Test.YtgelbhclfnpedaaGreatDoorWZ2
set_option linter.all false
set_option linter.unusedVariables false
set_option linter.unusedSimpArgs false
set_option maxRecDepth 1000000
namespace Go.Sl
open Go Go.Proofs
theorem tl_7_z : runQ tabV 1000000000 9 none [.v (.int .u8 7), .v (.int .u8 0)] ⟨.e, 0⟩ (fun a _ => isTrue a) = true := by kernel_rfl
theorem tl_7_p : runQ tabV 1000000000 9 none [.v (.int .u8 7), .po .u8] ⟨.e, 0⟩ (fun a _ => isTrue a) = true := by kernel_rfl
theorem tl_2_z : runQ tabV 1000000000 9 none [.v (.int .u8 2), .v (.int .u8 0)] ⟨.e, 0⟩ (fun a _ => isTrue a) = true := by kernel_rfl
theorem tl_2_p : runQ tabV 1000000000 9 none [.v (.int .u8 2), .po .u8] ⟨.e, 0⟩ (fun a _ => isTrue a) = true := by kernel_rfl
theorem tl_1_z : runQ tabV 1000000000 9 none [.v (.int .u8 1), .v (.int .u8 0)] ⟨.e, 0⟩ (fun a _ => isTrue a) = true := by kernel_rfl
theorem tl_1_p : runQ tabV 1000000000 9 none [.v (.int .u8 1), .po .u8] ⟨.e, 0⟩ (fun a _ => isTrue a) = true := by kernel_rfl
end Go.Sl
