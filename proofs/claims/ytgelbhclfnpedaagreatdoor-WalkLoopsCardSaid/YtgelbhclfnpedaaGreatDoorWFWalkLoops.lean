/- The closed facts of the row of WalkLoops. -/
import Derived.Test.YtgelbhclfnpedaaGreatDoorWFA
set_option linter.all false
set_option linter.unusedVariables false
set_option linter.unusedSimpArgs false
set_option maxRecDepth 1000000
set_option linter.unusedVariables false
namespace Go.Proofs.YtgelbhclfnpedaaGreatDoor.walkLoops
open Go.ChangeShapes Go.WideShapes Go.ChangeAt Go.RowKit
theorem f1 : Rows.walkLoopsRow.wf (OpenSpec.ofChange Rows.walkLoopsSpec) = true := by kernel_rfl
theorem f4 : Tryz.f4.params.all (Tryz.prog.readableRec ·) = true := by kernel_rfl
theorem f5 : namedTie Tryz.prog Rows.walkLoopsRow.named Rows.walkLoopsSpec.vars = true := by kernel_rfl
theorem f6 : (Rows.walkLoopsRow.stops == []) = true := by kernel_rfl
theorem f8 : (Rows.walkLoopsRow.knobs == []) = true := by kernel_rfl
theorem f10 : (Rows.walkLoopsRow.inPlace == Tryz.prog.inPlace 4) = true := by kernel_rfl
theorem f11 : (Rows.walkLoopsRow.unfollowed == Tryz.prog.unfollowed 4) = true := by kernel_rfl
theorem f12 : (Rows.walkLoopsRow.recurses == Tryz.prog.recurses 4) = true := by kernel_rfl
theorem f13 : (Rows.walkLoopsRow.named == Tryz.prog.varsNamed 4) = true := by kernel_rfl
theorem f14 : (Rows.walkLoopsRow.maps == (Tryz.f4.params.toList ++ Rows.walkLoopsSpec.plain.varTypes Tryz.prog).any (Tryz.prog.mapsRec ·)) = true := by kernel_rfl
theorem f15 : (Rows.walkLoopsRow.ifaces == (Tryz.f4.params.toList ++ Rows.walkLoopsSpec.plain.varTypes Tryz.prog).any (Tryz.prog.ifacesRec ·)) = true := by kernel_rfl
theorem f16 : (Rows.walkLoopsRow.mapsOut == Tryz.prog.mapsAmong Tryz.f4.resultTypes.toList) = true := by kernel_rfl
theorem f17 : (Rows.walkLoopsRow.loops == (Tryz.f4.params.toList ++ Rows.walkLoopsSpec.plain.varTypes Tryz.prog).any (Tryz.prog.loopsFrom ·)) = true := by kernel_rfl
theorem f18 : (Rows.walkLoopsRow.wideKeys == (Tryz.f4.params.toList ++ Rows.walkLoopsSpec.plain.varTypes Tryz.prog ++ Tryz.f4.resultTypes.toList).any (Tryz.prog.wideKeysFrom ·)) = true := by kernel_rfl
theorem f19 : Rows.walkLoopsSpec.vars.all (Tryz.prog.varReadable ·) = true := by kernel_rfl
theorem f20 : Tryz.f4.resultTypes.all (fun t => Tryz.prog.readableRec t && decide (t < Tryz.prog.types.size)) = true := by kernel_rfl
theorem f21 : (Rows.walkLoopsRow.ifacesOut == Tryz.f4.resultTypes.toList.any (Tryz.prog.ifacesRec ·)) = true := by kernel_rfl
theorem f22 : (Rows.walkLoopsRow.loopsOut == Tryz.f4.resultTypes.toList.any (Tryz.prog.loopsFrom ·)) = true := by kernel_rfl
theorem f24 : Rows.walkLoopsRow.shortTexts.isNone = true := by kernel_rfl
theorem f27 : (Rows.walkLoopsRow.lifted == Tryz.prog.liftsFinal) = true := by kernel_rfl
theorem f28 : (Tryz.prog.make == some Rows.walkLoopsRow.make) = true := by kernel_rfl
theorem f29 : (Rows.walkLoopsRow.kinds == (if Rows.walkLoopsRow.domain.isEmpty then [] else Tryz.f4.params.toList.map fun t => match Tryz.prog.underlying t with | some (.int k) => some k | _ => none)) = true := by kernel_rfl
theorem f30 : (Rows.walkLoopsRow.pinned == Rows.walkLoopsRow.pinnedBy) = true := by kernel_rfl
theorem f31 : (Rows.walkLoopsRow.veiled == (Tryz.f4.params.toList ++ Rows.walkLoopsSpec.plain.varTypes Tryz.prog ++ Tryz.f4.resultTypes.toList).any (Tryz.prog.veiledRec ·)) = true := by kernel_rfl
theorem f32 : Rows.walkLoopsRow.veiledFits Tryz.prog Tryz.f4.params.toList (Tryz.f4.params.toList ++ Rows.walkLoopsSpec.plain.varTypes Tryz.prog ++ Tryz.f4.resultTypes.toList) = true := by kernel_rfl
theorem closed : joinedFacts Tryz.prog 4 Tryz.f4 Rows.walkLoopsSpec Rows.walkLoopsRow = true :=
  (and2 (and2 (and2 (and2 (and2 (and2 (and2 (and2 (and2 (and2 (and2 (and2 (and2 (and2 (and2 (and2 (and2 (and2 (and2 (and2 (and2 (and2 (and2 (and2 (and2 (and2 (and2 (and2 (and2 (and2 (and2 f1 fa2) fa3) f4) f5) f6) fa7) f8) fa9) f10) f11) f12) f13) f14) f15) f16) f17) f18) f19) f20) f21) f22) fa23) f24) fa25) fa26) f27) f28) f29) f30) f31) f32)
theorem named : Tryz.prog.funcNamed "garrison/garrisonlaw12.WalkLoops" = some 4 := by kernel_rfl
theorem byText : Rows.walkLoopsRow.wfByText (OpenSpec.ofChange Rows.walkLoopsSpec) = true := by kernel_rfl
theorem goes : false = Rows.walkLoopsRow.goesBy Tryz.prog := by kernel_rfl
theorem inst : Tryz.f4.isInstance Tryz.prog Rows.walkLoopsRow.origin Rows.walkLoopsRow.targs := of_decide_eq_true (by kernel_rfl)
theorem wrap : Tryz.f4.isWrapper Tryz.prog Rows.walkLoopsRow.wrapper Rows.walkLoopsRow.mainSum := by unfold Func.isWrapper; first | (rw [if_pos (by decide +kernel)]; kernel_rfl) | (rw [if_neg (by decide +kernel)]; exact ⟨rfl, rfl⟩)
theorem stands : ∀ (j : Nat) (t : TypeId), Tryz.f4.params[j]? = some t → Tryz.prog.wantsStandIn t = false := by
  intro j t ht
  rw [Tryz.params4] at ht
  have hm : t ∈ [5, 4] := by simpa using Array.mem_of_getElem? ht
  have hall : ([5, 4].all fun u => !Tryz.prog.wantsStandIn u) = true := by kernel_rfl
  exact (show Tryz.prog.wantsStandIn t = false by simpa using List.all_eq_true.1 hall t hm)
end Go.Proofs.YtgelbhclfnpedaaGreatDoor.walkLoops
