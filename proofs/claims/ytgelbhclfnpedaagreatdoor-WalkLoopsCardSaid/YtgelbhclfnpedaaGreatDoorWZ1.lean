/-
  garrisonlaw12.Awake comes to true.
-/
import Derived.Test.YtgelbhclfnpedaaGreatDoorWY1
set_option linter.all false
set_option linter.unusedVariables false
set_option linter.unusedSimpArgs false
set_option maxRecDepth 1000000
namespace Go.Sl
open Go Go.Proofs
theorem awake12_run : runQ tabT 1000000000 16 none [] ⟨.e, 0⟩ (fun a _ => isTrue a) = true := by kernel_rfl
theorem awake12 : EnterA Tryz.prog 16 [] hp0 fun v _ => v = .bool true := runQ_true tabT_good (args := []) rfl awake12_run
noncomputable def rowsW : List Row := (16, none, trueB) :: rowsT
theorem goodW : GoodL Tryz.prog cuts rowsW := ⟨trueB_good awake12, goodT⟩
noncomputable def tabW : TabT := findR rowsW
theorem tabW_good (i : FuncId) (o : Option (List Bool)) : GoodB Tryz.prog cuts i o (tabW i o) := findR_good goodW i o
end Go.Sl
