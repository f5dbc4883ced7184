/-
  WalkLoops: the runs of one part of the inputs.
-/
import Derived.Test.YtgelbhclfnpedaaGreatDoorWZ1
set_option linter.all false
set_option linter.unusedVariables false
set_option linter.unusedSimpArgs false
set_option maxRecDepth 1000000
namespace Go.Sl
open Go Go.Proofs
theorem wl_10_true : runQ tabW 1000000000 4 none [.v (.int .u8 10), .v (.bool true)] ⟨.e, 0⟩ (fun a _ => isTrue a) = true := by kernel_rfl
theorem wl_10_false : runQ tabW 1000000000 4 none [.v (.int .u8 10), .v (.bool false)] ⟨.e, 0⟩ (fun a _ => isTrue a) = true := by kernel_rfl
theorem wl_6_true : runQ tabW 1000000000 4 none [.v (.int .u8 6), .v (.bool true)] ⟨.e, 0⟩ (fun a _ => isTrue a) = true := by kernel_rfl
theorem wl_6_false : runQ tabW 1000000000 4 none [.v (.int .u8 6), .v (.bool false)] ⟨.e, 0⟩ (fun a _ => isTrue a) = true := by kernel_rfl
theorem wl_1_true : runQ tabW 1000000000 4 none [.v (.int .u8 1), .v (.bool true)] ⟨.e, 0⟩ (fun a _ => isTrue a) = true := by kernel_rfl
theorem wl_1_false : runQ tabW 1000000000 4 none [.v (.int .u8 1), .v (.bool false)] ⟨.e, 0⟩ (fun a _ => isTrue a) = true := by kernel_rfl
end Go.Sl
