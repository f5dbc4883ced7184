import Derived.Test.YtgelbhclfnpedaaGreatDoorWG1
import Derived.Test.YtgelbhclfnpedaaGreatDoorChecked
import Derived.Test.YtgelbhclfnpedaaGreatDoorWCE
set_option linter.all false
set_option linter.unusedVariables false
set_option linter.unusedSimpArgs false
set_option maxRecDepth 1000000
namespace Go.Sl
open Go Go.Proofs
theorem ok_4 : okB Tryz.prog plans 4 = true := by kernel_rfl
theorem ok_9 : okB Tryz.prog plans 9 = true := by kernel_rfl
theorem ok_16 : okB Tryz.prog plans 16 = true := by kernel_rfl
theorem ok_17 : okB Tryz.prog plans 17 = true := by kernel_rfl
theorem ok_18 : okB Tryz.prog plans 18 = true := by kernel_rfl
theorem ok_19 : okB Tryz.prog plans 19 = true := by kernel_rfl
theorem ok_21 : okB Tryz.prog plans 21 = true := by kernel_rfl
theorem ok_22 : okB Tryz.prog plans 22 = true := by kernel_rfl
theorem ok_23 : okB Tryz.prog plans 23 = true := by kernel_rfl
theorem ok_24 : okB Tryz.prog plans 24 = true := by kernel_rfl
theorem ok_25 : okB Tryz.prog plans 25 = true := by kernel_rfl
theorem ok_26 : okB Tryz.prog plans 26 = true := by kernel_rfl
theorem ok_27 : okB Tryz.prog plans 27 = true := by kernel_rfl
theorem ok_28 : okB Tryz.prog plans 28 = true := by kernel_rfl
theorem ok_29 : okB Tryz.prog plans 29 = true := by kernel_rfl
theorem ok_30 : okB Tryz.prog plans 30 = true := by kernel_rfl
theorem ok_31 : okB Tryz.prog plans 31 = true := by kernel_rfl
theorem ok_32 : okB Tryz.prog plans 32 = true := by kernel_rfl
theorem ok_33 : okB Tryz.prog plans 33 = true := by kernel_rfl
theorem ok_34 : okB Tryz.prog plans 34 = true := by kernel_rfl
theorem ok_35 : okB Tryz.prog plans 35 = true := by kernel_rfl
theorem ok_40 : okB Tryz.prog plans 40 = true := by kernel_rfl
theorem ok_42 : okB Tryz.prog plans 42 = true := by kernel_rfl
theorem ok_43 : okB Tryz.prog plans 43 = true := by kernel_rfl
theorem ok_44 : okB Tryz.prog plans 44 = true := by kernel_rfl
theorem ok_45 : okB Tryz.prog plans 45 = true := by kernel_rfl
theorem ok_46 : okB Tryz.prog plans 46 = true := by kernel_rfl
theorem ok_48 : okB Tryz.prog plans 48 = true := by kernel_rfl
theorem ok_49 : okB Tryz.prog plans 49 = true := by kernel_rfl
theorem ok_50 : okB Tryz.prog plans 50 = true := by kernel_rfl
theorem ok_51 : okB Tryz.prog plans 51 = true := by kernel_rfl
theorem ok_52 : okB Tryz.prog plans 52 = true := by kernel_rfl
end Go.Sl
