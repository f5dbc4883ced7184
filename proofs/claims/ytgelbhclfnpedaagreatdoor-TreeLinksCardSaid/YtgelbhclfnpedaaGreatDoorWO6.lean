import Derived.Test.YtgelbhclfnpedaaGreatDoorWG1
import Derived.Test.YtgelbhclfnpedaaGreatDoorChecked
import Derived.Test.YtgelbhclfnpedaaGreatDoorWCE
set_option linter.all false
set_option linter.unusedVariables false
set_option linter.unusedSimpArgs false
set_option maxRecDepth 1000000
namespace Go.Sl
open Go Go.Proofs
theorem ok_228 : okB Tryz.prog plans 228 = true := by kernel_rfl
theorem ok_229 : okB Tryz.prog plans 229 = true := by kernel_rfl
theorem ok_230 : okB Tryz.prog plans 230 = true := by kernel_rfl
theorem ok_231 : okB Tryz.prog plans 231 = true := by kernel_rfl
theorem ok_234 : okB Tryz.prog plans 234 = true := by kernel_rfl
theorem ok_248 : okB Tryz.prog plans 248 = true := by kernel_rfl
theorem ok_249 : okB Tryz.prog plans 249 = true := by kernel_rfl
theorem ok_250 : okB Tryz.prog plans 250 = true := by kernel_rfl
theorem ok_251 : okB Tryz.prog plans 251 = true := by kernel_rfl
theorem ok_252 : okB Tryz.prog plans 252 = true := by kernel_rfl
theorem ok_263 : okB Tryz.prog plans 263 = true := by kernel_rfl
theorem ok_264 : okB Tryz.prog plans 264 = true := by kernel_rfl
theorem ok_266 : okB Tryz.prog plans 266 = true := by kernel_rfl
theorem ok_269 : okB Tryz.prog plans 269 = true := by kernel_rfl
theorem ok_270 : okB Tryz.prog plans 270 = true := by kernel_rfl
theorem ok_272 : okB Tryz.prog plans 272 = true := by kernel_rfl
theorem ok_273 : okB Tryz.prog plans 273 = true := by kernel_rfl
theorem ok_277 : okB Tryz.prog plans 277 = true := by kernel_rfl
end Go.Sl
