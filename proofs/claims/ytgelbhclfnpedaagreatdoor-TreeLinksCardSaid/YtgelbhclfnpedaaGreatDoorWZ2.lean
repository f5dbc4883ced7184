/-
  garrisonlaw13.Awake comes to true.
-/
import Derived.Test.YtgelbhclfnpedaaGreatDoorWY1
set_option linter.all false
set_option linter.unusedVariables false
set_option linter.unusedSimpArgs false
set_option maxRecDepth 1000000
namespace Go.Sl
open Go Go.Proofs
theorem awake13_run : runQ tabT 1000000000 49 none [] ⟨.e, 0⟩ (fun a _ => isTrue a) = true := by kernel_rfl
theorem awake13 : EnterA Tryz.prog 49 [] hp0 fun v _ => v = .bool true := runQ_true tabT_good (args := []) rfl awake13_run
noncomputable def rowsV : List Row := (49, none, trueB) :: rowsT
theorem goodV : GoodL Tryz.prog cuts rowsV := ⟨trueB_good awake13, goodT⟩
noncomputable def tabV : TabT := findR rowsV
theorem tabV_good (i : FuncId) (o : Option (List Bool)) : GoodB Tryz.prog cuts i o (tabV i o) := findR_good goodV i o
end Go.Sl
