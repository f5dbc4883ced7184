/- The closed facts that all the rows of this seat share. -/
import Derived.Test.YtgelbhclfnpedaaGreatDoorRows
import Derived.Test.YtgelbhclfnpedaaGreatDoorTie
import Derived.Test.YtgelbhclfnpedaaGreatDoorCards
import Derived.WalkKit
import Derived.ProofKit
import Derived.OpenShut
import Derived.Lay
import Derived.LaidOnce
import Derived.Stop.Joined
import Derived.SevenTiedAt
set_option linter.all false
set_option linter.unusedVariables false
set_option linter.unusedSimpArgs false
set_option maxRecDepth 1000000
set_option linter.unusedVariables false
namespace Go.Proofs.YtgelbhclfnpedaaGreatDoor
open Go.ChangeShapes Go.WideShapes Go.ChangeAt Go.RowKit
theorem and2 {a b : Bool} (ha : a = true) (hb : b = true) : (a && b) = true := by rw [ha, hb]; rfl
theorem own : ownKnob Tryz.prog.godebug = none := by kernel_rfl
theorem fa2 : laidOutB Tryz.prog = true := by kernel_rfl
theorem fa3 : mapsRowed Tryz.prog = true := by kernel_rfl
theorem fa7 : (Tryz.prog.stops == []) = true := by kernel_rfl
theorem fa9 : (Tryz.prog.stopKnobs == []) = true := by kernel_rfl
theorem fa23 : (false == Tryz.prog.plainKeys) = true := by kernel_rfl
theorem fa25 : Tryz.prog.stopsHeard = true := by kernel_rfl
theorem fa26 : Tryz.prog.mayEnter = true := by kernel_rfl
theorem faMain : Tryz.prog.mainIs = some (true, "74257bb597321dc5bcc6e5234f9505ce76f4eac3aedfee99c1c5b61b9f9e82bf".toList) := by kernel_rfl
theorem faLooks : false = Tryz.prog.looks [] := by kernel_rfl
def laidT : List (String × DataW Unit) := [("unicode/utf8.acceptRanges", Rows.laid_unicode_utf8_acceptRanges), ("unicode/utf8.first", Rows.laid_unicode_utf8_first)]
theorem laidT_met (os : Os) (args : Array Value) : laidMetH Tryz.prog laidT ((World.laidAll Tryz.prog os laidT).forCall (fun _ _ => 0) ⟨#[], args, []⟩).memory := by
  rw [MakeChecks.laidMetH_plain _ _ _ (by kernel_rfl)]
  exact laidMet_laidAll _ (by kernel_rfl) (by kernel_rfl)
end Go.Proofs.YtgelbhclfnpedaaGreatDoor
