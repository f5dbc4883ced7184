import Derived.Test.YtgelbhclfnpedaaGreatDoorWG1
import Derived.Test.YtgelbhclfnpedaaGreatDoorChecked
import Derived.Test.YtgelbhclfnpedaaGreatDoorWCE
set_option linter.all false
set_option linter.unusedVariables false
set_option linter.unusedSimpArgs false
set_option maxRecDepth 1000000
namespace Go.Sl
open Go Go.Proofs
theorem ok_166 : okB Tryz.prog plans 166 = true := by kernel_rfl
theorem ok_168 : okB Tryz.prog plans 168 = true := by kernel_rfl
theorem ok_169 : okB Tryz.prog plans 169 = true := by kernel_rfl
theorem ok_170 : okB Tryz.prog plans 170 = true := by kernel_rfl
theorem ok_173 : okB Tryz.prog plans 173 = true := by kernel_rfl
theorem ok_174 : okB Tryz.prog plans 174 = true := by kernel_rfl
theorem ok_175 : okB Tryz.prog plans 175 = true := by kernel_rfl
theorem ok_176 : okB Tryz.prog plans 176 = true := by kernel_rfl
theorem ok_177 : okB Tryz.prog plans 177 = true := by kernel_rfl
theorem ok_178 : okB Tryz.prog plans 178 = true := by kernel_rfl
theorem ok_179 : okB Tryz.prog plans 179 = true := by kernel_rfl
theorem ok_183 : okB Tryz.prog plans 183 = true := by kernel_rfl
theorem ok_184 : okB Tryz.prog plans 184 = true := by kernel_rfl
theorem ok_185 : okB Tryz.prog plans 185 = true := by kernel_rfl
theorem ok_186 : okB Tryz.prog plans 186 = true := by kernel_rfl
theorem ok_187 : okB Tryz.prog plans 187 = true := by kernel_rfl
theorem ok_188 : okB Tryz.prog plans 188 = true := by kernel_rfl
theorem ok_189 : okB Tryz.prog plans 189 = true := by kernel_rfl
theorem ok_190 : okB Tryz.prog plans 190 = true := by kernel_rfl
theorem ok_191 : okB Tryz.prog plans 191 = true := by kernel_rfl
theorem ok_192 : okB Tryz.prog plans 192 = true := by kernel_rfl
theorem ok_193 : okB Tryz.prog plans 193 = true := by kernel_rfl
theorem ok_194 : okB Tryz.prog plans 194 = true := by kernel_rfl
theorem ok_197 : okB Tryz.prog plans 197 = true := by kernel_rfl
theorem ok_198 : okB Tryz.prog plans 198 = true := by kernel_rfl
theorem ok_200 : okB Tryz.prog plans 200 = true := by kernel_rfl
theorem ok_201 : okB Tryz.prog plans 201 = true := by kernel_rfl
theorem ok_202 : okB Tryz.prog plans 202 = true := by kernel_rfl
theorem ok_205 : okB Tryz.prog plans 205 = true := by kernel_rfl
theorem ok_207 : okB Tryz.prog plans 207 = true := by kernel_rfl
theorem ok_208 : okB Tryz.prog plans 208 = true := by kernel_rfl
theorem ok_209 : okB Tryz.prog plans 209 = true := by kernel_rfl
theorem ok_210 : okB Tryz.prog plans 210 = true := by kernel_rfl
theorem ok_211 : okB Tryz.prog plans 211 = true := by kernel_rfl
theorem ok_213 : okB Tryz.prog plans 213 = true := by kernel_rfl
theorem ok_214 : okB Tryz.prog plans 214 = true := by kernel_rfl
theorem ok_215 : okB Tryz.prog plans 215 = true := by kernel_rfl
theorem ok_216 : okB Tryz.prog plans 216 = true := by kernel_rfl
theorem ok_217 : okB Tryz.prog plans 217 = true := by kernel_rfl
theorem ok_218 : okB Tryz.prog plans 218 = true := by kernel_rfl
theorem ok_219 : okB Tryz.prog plans 219 = true := by kernel_rfl
theorem ok_220 : okB Tryz.prog plans 220 = true := by kernel_rfl
theorem ok_221 : okB Tryz.prog plans 221 = true := by kernel_rfl
theorem ok_225 : okB Tryz.prog plans 225 = true := by kernel_rfl
theorem ok_226 : okB Tryz.prog plans 226 = true := by kernel_rfl
theorem ok_227 : okB Tryz.prog plans 227 = true := by kernel_rfl
end Go.Sl
