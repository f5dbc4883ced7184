import Derived.Test.YtgelbhclfnpedaaGreatDoorWG1
import Derived.Test.YtgelbhclfnpedaaGreatDoorChecked
import Derived.Test.YtgelbhclfnpedaaGreatDoorWCE
set_option linter.all false
set_option linter.unusedVariables false
set_option linter.unusedSimpArgs false
set_option maxRecDepth 1000000
namespace Go.Sl
open Go Go.Proofs
theorem ok_53 : okB Tryz.prog plans 53 = true := by kernel_rfl
theorem ok_54 : okB Tryz.prog plans 54 = true := by kernel_rfl
theorem ok_55 : okB Tryz.prog plans 55 = true := by kernel_rfl
theorem ok_56 : okB Tryz.prog plans 56 = true := by kernel_rfl
theorem ok_57 : okB Tryz.prog plans 57 = true := by kernel_rfl
theorem ok_58 : okB Tryz.prog plans 58 = true := by kernel_rfl
theorem ok_59 : okB Tryz.prog plans 59 = true := by kernel_rfl
theorem ok_60 : okB Tryz.prog plans 60 = true := by kernel_rfl
theorem ok_62 : okB Tryz.prog plans 62 = true := by kernel_rfl
theorem ok_65 : okB Tryz.prog plans 65 = true := by kernel_rfl
theorem ok_66 : okB Tryz.prog plans 66 = true := by kernel_rfl
theorem ok_67 : okB Tryz.prog plans 67 = true := by kernel_rfl
theorem ok_69 : okB Tryz.prog plans 69 = true := by kernel_rfl
theorem ok_70 : okB Tryz.prog plans 70 = true := by kernel_rfl
theorem ok_72 : okB Tryz.prog plans 72 = true := by kernel_rfl
theorem ok_73 : okB Tryz.prog plans 73 = true := by kernel_rfl
theorem ok_74 : okB Tryz.prog plans 74 = true := by kernel_rfl
theorem ok_75 : okB Tryz.prog plans 75 = true := by kernel_rfl
theorem ok_76 : okB Tryz.prog plans 76 = true := by kernel_rfl
theorem ok_77 : okB Tryz.prog plans 77 = true := by kernel_rfl
theorem ok_78 : okB Tryz.prog plans 78 = true := by kernel_rfl
theorem ok_79 : okB Tryz.prog plans 79 = true := by kernel_rfl
theorem ok_80 : okB Tryz.prog plans 80 = true := by kernel_rfl
theorem ok_82 : okB Tryz.prog plans 82 = true := by kernel_rfl
theorem ok_83 : okB Tryz.prog plans 83 = true := by kernel_rfl
theorem ok_85 : okB Tryz.prog plans 85 = true := by kernel_rfl
theorem ok_87 : okB Tryz.prog plans 87 = true := by kernel_rfl
theorem ok_88 : okB Tryz.prog plans 88 = true := by kernel_rfl
theorem ok_89 : okB Tryz.prog plans 89 = true := by kernel_rfl
end Go.Sl
