import Derived.Test.YtgelbhclfnpedaaGreatDoorWG1
import Derived.Test.YtgelbhclfnpedaaGreatDoorChecked
import Derived.Test.YtgelbhclfnpedaaGreatDoorWCE
set_option linter.all false
set_option linter.unusedVariables false
set_option linter.unusedSimpArgs false
set_option maxRecDepth 1000000
namespace Go.Sl
open Go Go.Proofs
theorem ok_124 : okB Tryz.prog plans 124 = true := by kernel_rfl
theorem ok_125 : okB Tryz.prog plans 125 = true := by kernel_rfl
theorem ok_126 : okB Tryz.prog plans 126 = true := by kernel_rfl
theorem ok_127 : okB Tryz.prog plans 127 = true := by kernel_rfl
theorem ok_128 : okB Tryz.prog plans 128 = true := by kernel_rfl
theorem ok_129 : okB Tryz.prog plans 129 = true := by kernel_rfl
theorem ok_130 : okB Tryz.prog plans 130 = true := by kernel_rfl
theorem ok_131 : okB Tryz.prog plans 131 = true := by kernel_rfl
theorem ok_132 : okB Tryz.prog plans 132 = true := by kernel_rfl
theorem ok_133 : okB Tryz.prog plans 133 = true := by kernel_rfl
theorem ok_134 : okB Tryz.prog plans 134 = true := by kernel_rfl
theorem ok_135 : okB Tryz.prog plans 135 = true := by kernel_rfl
theorem ok_137 : okB Tryz.prog plans 137 = true := by kernel_rfl
theorem ok_138 : okB Tryz.prog plans 138 = true := by kernel_rfl
theorem ok_139 : okB Tryz.prog plans 139 = true := by kernel_rfl
theorem ok_140 : okB Tryz.prog plans 140 = true := by kernel_rfl
theorem ok_142 : okB Tryz.prog plans 142 = true := by kernel_rfl
theorem ok_143 : okB Tryz.prog plans 143 = true := by kernel_rfl
theorem ok_144 : okB Tryz.prog plans 144 = true := by kernel_rfl
theorem ok_145 : okB Tryz.prog plans 145 = true := by kernel_rfl
theorem ok_149 : okB Tryz.prog plans 149 = true := by kernel_rfl
theorem ok_150 : okB Tryz.prog plans 150 = true := by kernel_rfl
theorem ok_151 : okB Tryz.prog plans 151 = true := by kernel_rfl
theorem ok_152 : okB Tryz.prog plans 152 = true := by kernel_rfl
theorem ok_153 : okB Tryz.prog plans 153 = true := by kernel_rfl
theorem ok_155 : okB Tryz.prog plans 155 = true := by kernel_rfl
theorem ok_156 : okB Tryz.prog plans 156 = true := by kernel_rfl
theorem ok_157 : okB Tryz.prog plans 157 = true := by kernel_rfl
theorem ok_158 : okB Tryz.prog plans 158 = true := by kernel_rfl
theorem ok_160 : okB Tryz.prog plans 160 = true := by kernel_rfl
theorem ok_161 : okB Tryz.prog plans 161 = true := by kernel_rfl
theorem ok_162 : okB Tryz.prog plans 162 = true := by kernel_rfl
theorem ok_163 : okB Tryz.prog plans 163 = true := by kernel_rfl
theorem ok_164 : okB Tryz.prog plans 164 = true := by kernel_rfl
theorem ok_165 : okB Tryz.prog plans 165 = true := by kernel_rfl
end Go.Sl
