/- The closed facts of the row of TreeLinks. -/
import Derived.Test.YtgelbhclfnpedaaGreatDoorWFA
set_option linter.all false
set_option linter.unusedVariables false
set_option linter.unusedSimpArgs false
set_option maxRecDepth 1000000
set_option linter.unusedVariables false
namespace Go.Proofs.YtgelbhclfnpedaaGreatDoor.treeLinks
open Go.ChangeShapes Go.WideShapes Go.ChangeAt Go.RowKit
theorem f1 : Rows.treeLinksRow.wf (OpenSpec.ofChange Rows.treeLinksSpec) = true := by kernel_rfl
theorem f4 : Tryz.f9.params.all (Tryz.prog.readableRec ·) = true := by kernel_rfl
theorem f5 : namedTie Tryz.prog Rows.treeLinksRow.named Rows.treeLinksSpec.vars = true := by kernel_rfl
theorem f6 : (Rows.treeLinksRow.stops == []) = true := by kernel_rfl
theorem f8 : (Rows.treeLinksRow.knobs == []) = true := by kernel_rfl
theorem f10 : (Rows.treeLinksRow.inPlace == Tryz.prog.inPlace 9) = true := by kernel_rfl
theorem f11 : (Rows.treeLinksRow.unfollowed == Tryz.prog.unfollowed 9) = true := by kernel_rfl
theorem f12 : (Rows.treeLinksRow.recurses == Tryz.prog.recurses 9) = true := by kernel_rfl
theorem f13 : (Rows.treeLinksRow.named == Tryz.prog.varsNamed 9) = true := by kernel_rfl
theorem f14 : (Rows.treeLinksRow.maps == (Tryz.f9.params.toList ++ Rows.treeLinksSpec.plain.varTypes Tryz.prog).any (Tryz.prog.mapsRec ·)) = true := by kernel_rfl
theorem f15 : (Rows.treeLinksRow.ifaces == (Tryz.f9.params.toList ++ Rows.treeLinksSpec.plain.varTypes Tryz.prog).any (Tryz.prog.ifacesRec ·)) = true := by kernel_rfl
theorem f16 : (Rows.treeLinksRow.mapsOut == Tryz.prog.mapsAmong Tryz.f9.resultTypes.toList) = true := by kernel_rfl
theorem f17 : (Rows.treeLinksRow.loops == (Tryz.f9.params.toList ++ Rows.treeLinksSpec.plain.varTypes Tryz.prog).any (Tryz.prog.loopsFrom ·)) = true := by kernel_rfl
theorem f18 : (Rows.treeLinksRow.wideKeys == (Tryz.f9.params.toList ++ Rows.treeLinksSpec.plain.varTypes Tryz.prog ++ Tryz.f9.resultTypes.toList).any (Tryz.prog.wideKeysFrom ·)) = true := by kernel_rfl
theorem f19 : Rows.treeLinksSpec.vars.all (Tryz.prog.varReadable ·) = true := by kernel_rfl
theorem f20 : Tryz.f9.resultTypes.all (fun t => Tryz.prog.readableRec t && decide (t < Tryz.prog.types.size)) = true := by kernel_rfl
theorem f21 : (Rows.treeLinksRow.ifacesOut == Tryz.f9.resultTypes.toList.any (Tryz.prog.ifacesRec ·)) = true := by kernel_rfl
theorem f22 : (Rows.treeLinksRow.loopsOut == Tryz.f9.resultTypes.toList.any (Tryz.prog.loopsFrom ·)) = true := by kernel_rfl
theorem f24 : Rows.treeLinksRow.shortTexts.isNone = true := by kernel_rfl
theorem f27 : (Rows.treeLinksRow.lifted == Tryz.prog.liftsFinal) = true := by kernel_rfl
theorem f28 : (Tryz.prog.make == some Rows.treeLinksRow.make) = true := by kernel_rfl
theorem f29 : (Rows.treeLinksRow.kinds == (if Rows.treeLinksRow.domain.isEmpty then [] else Tryz.f9.params.toList.map fun t => match Tryz.prog.underlying t with | some (.int k) => some k | _ => none)) = true := by kernel_rfl
theorem f30 : (Rows.treeLinksRow.pinned == Rows.treeLinksRow.pinnedBy) = true := by kernel_rfl
theorem f31 : (Rows.treeLinksRow.veiled == (Tryz.f9.params.toList ++ Rows.treeLinksSpec.plain.varTypes Tryz.prog ++ Tryz.f9.resultTypes.toList).any (Tryz.prog.veiledRec ·)) = true := by kernel_rfl
theorem f32 : Rows.treeLinksRow.veiledFits Tryz.prog Tryz.f9.params.toList (Tryz.f9.params.toList ++ Rows.treeLinksSpec.plain.varTypes Tryz.prog ++ Tryz.f9.resultTypes.toList) = true := by kernel_rfl
theorem closed : joinedFacts Tryz.prog 9 Tryz.f9 Rows.treeLinksSpec Rows.treeLinksRow = true :=
  (and2 (and2 (and2 (and2 (and2 (and2 (and2 (and2 (and2 (and2 (and2 (and2 (and2 (and2 (and2 (and2 (and2 (and2 (and2 (and2 (and2 (and2 (and2 (and2 (and2 (and2 (and2 (and2 (and2 (and2 (and2 f1 fa2) fa3) f4) f5) f6) fa7) f8) fa9) f10) f11) f12) f13) f14) f15) f16) f17) f18) f19) f20) f21) f22) fa23) f24) fa25) fa26) f27) f28) f29) f30) f31) f32)
theorem named : Tryz.prog.funcNamed "garrison/garrisonlaw13.TreeLinks" = some 9 := by kernel_rfl
theorem byText : Rows.treeLinksRow.wfByText (OpenSpec.ofChange Rows.treeLinksSpec) = true := by kernel_rfl
theorem goes : false = Rows.treeLinksRow.goesBy Tryz.prog := by kernel_rfl
theorem inst : Tryz.f9.isInstance Tryz.prog Rows.treeLinksRow.origin Rows.treeLinksRow.targs := of_decide_eq_true (by kernel_rfl)
theorem wrap : Tryz.f9.isWrapper Tryz.prog Rows.treeLinksRow.wrapper Rows.treeLinksRow.mainSum := by unfold Func.isWrapper; first | (rw [if_pos (by decide +kernel)]; kernel_rfl) | (rw [if_neg (by decide +kernel)]; exact ⟨rfl, rfl⟩)
theorem stands : ∀ (j : Nat) (t : TypeId), Tryz.f9.params[j]? = some t → Tryz.prog.wantsStandIn t = false := by
  intro j t ht
  rw [Tryz.params9] at ht
  have hm : t ∈ [5, 5] := by simpa using Array.mem_of_getElem? ht
  have hall : ([5, 5].all fun u => !Tryz.prog.wantsStandIn u) = true := by kernel_rfl
  exact (show Tryz.prog.wantsStandIn t = false by simpa using List.all_eq_true.1 hall t hm)
end Go.Proofs.YtgelbhclfnpedaaGreatDoor.treeLinks
