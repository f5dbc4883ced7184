import Derived.Test.YtgelbhclfnpedaaGreatDoorWG1
import Derived.Test.YtgelbhclfnpedaaGreatDoorChecked
import Derived.Test.YtgelbhclfnpedaaGreatDoorWCE
set_option linter.all false
set_option linter.unusedVariables false
set_option linter.unusedSimpArgs false
set_option maxRecDepth 1000000
namespace Go.Sl
open Go Go.Proofs
theorem ok_90 : okB Tryz.prog plans 90 = true := by kernel_rfl
theorem ok_91 : okB Tryz.prog plans 91 = true := by kernel_rfl
theorem ok_92 : okB Tryz.prog plans 92 = true := by kernel_rfl
theorem ok_93 : okB Tryz.prog plans 93 = true := by kernel_rfl
theorem ok_94 : okB Tryz.prog plans 94 = true := by kernel_rfl
theorem ok_95 : okB Tryz.prog plans 95 = true := by kernel_rfl
theorem ok_96 : okB Tryz.prog plans 96 = true := by kernel_rfl
theorem ok_97 : okB Tryz.prog plans 97 = true := by kernel_rfl
theorem ok_98 : okB Tryz.prog plans 98 = true := by kernel_rfl
theorem ok_99 : okB Tryz.prog plans 99 = true := by kernel_rfl
theorem ok_100 : okB Tryz.prog plans 100 = true := by kernel_rfl
theorem ok_101 : okB Tryz.prog plans 101 = true := by kernel_rfl
theorem ok_102 : okB Tryz.prog plans 102 = true := by kernel_rfl
theorem ok_103 : okB Tryz.prog plans 103 = true := by kernel_rfl
theorem ok_104 : okB Tryz.prog plans 104 = true := by kernel_rfl
theorem ok_105 : okB Tryz.prog plans 105 = true := by kernel_rfl
theorem ok_106 : okB Tryz.prog plans 106 = true := by kernel_rfl
theorem ok_107 : okB Tryz.prog plans 107 = true := by kernel_rfl
theorem ok_108 : okB Tryz.prog plans 108 = true := by kernel_rfl
theorem ok_109 : okB Tryz.prog plans 109 = true := by kernel_rfl
theorem ok_110 : okB Tryz.prog plans 110 = true := by kernel_rfl
theorem ok_115 : okB Tryz.prog plans 115 = true := by kernel_rfl
theorem ok_116 : okB Tryz.prog plans 116 = true := by kernel_rfl
theorem ok_117 : okB Tryz.prog plans 117 = true := by kernel_rfl
theorem ok_118 : okB Tryz.prog plans 118 = true := by kernel_rfl
theorem ok_119 : okB Tryz.prog plans 119 = true := by kernel_rfl
theorem ok_120 : okB Tryz.prog plans 120 = true := by kernel_rfl
theorem ok_121 : okB Tryz.prog plans 121 = true := by kernel_rfl
theorem ok_122 : okB Tryz.prog plans 122 = true := by kernel_rfl
theorem ok_123 : okB Tryz.prog plans 123 = true := by kernel_rfl
end Go.Sl
