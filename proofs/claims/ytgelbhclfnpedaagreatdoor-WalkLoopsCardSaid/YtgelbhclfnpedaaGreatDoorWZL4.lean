/-
  WalkLoops: the runs of one part of the inputs.
-/
import Derived.Test.YtgelbhclfnpedaaGreatDoorWZ1
set_option linter.all false
set_option linter.unusedVariables false
set_option linter.unusedSimpArgs false
set_option maxRecDepth 1000000
namespace Go.Sl
open Go Go.Proofs
theorem wl_8_true : runQ tabW 1000000000 4 none [.v (.int .u8 8), .v (.bool true)] ⟨.e, 0⟩ (fun a _ => isTrue a) = true := by kernel_rfl
theorem wl_8_false : runQ tabW 1000000000 4 none [.v (.int .u8 8), .v (.bool false)] ⟨.e, 0⟩ (fun a _ => isTrue a) = true := by kernel_rfl
theorem wl_4_true : runQ tabW 1000000000 4 none [.v (.int .u8 4), .v (.bool true)] ⟨.e, 0⟩ (fun a _ => isTrue a) = true := by kernel_rfl
theorem wl_4_false : runQ tabW 1000000000 4 none [.v (.int .u8 4), .v (.bool false)] ⟨.e, 0⟩ (fun a _ => isTrue a) = true := by kernel_rfl
theorem wl_3_true : runQ tabW 1000000000 4 none [.v (.int .u8 3), .v (.bool true)] ⟨.e, 0⟩ (fun a _ => isTrue a) = true := by kernel_rfl
theorem wl_3_false : runQ tabW 1000000000 4 none [.v (.int .u8 3), .v (.bool false)] ⟨.e, 0⟩ (fun a _ => isTrue a) = true := by kernel_rfl
end Go.Sl
