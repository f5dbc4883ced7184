/-
  DERIVED. GIVEN WITH THE SEED: THE CARDS: each row of YtgelbhclfnpedaaGreatDoorRows.lean that lists a variable, with what it lists TIED to the program's text (the seventh form; the later family's looks); each row that meets fmt, with fmt's text TOLD by the authors' own Lean function (tested against real Go, not proved from fmt's source: count such statements apart). THE CARD IS WHAT COUNTS. Prove the row's statement (the work); the ties are given (YtgelbhclfnpedaaGreatDoorTie.lean); close each card by the builder's one call (the guide's Derived/Test/ToyasCard.lean, 'card_holds'). Laid BY PROGRAM, IN A SANDBOX (cutbox-door.mjs). By AI agents, Wed Nov 11 2026. No macro, syntax, notation, axiom, sorry.
-/
import Derived.Test.YtgelbhclfnpedaaGreatDoorRows
import GoSem.ClaimSeven
namespace Go.Proofs.YtgelbhclfnpedaaGreatDoor
namespace Rows

/-- THE TIED CARD OF 'garrisonlaw12.WalkNodes'. -/
def walkNodesCard : Claim7 := { stood := { row := walkNodesRow, standIns := [], harness := (true, "74257bb597321dc5bcc6e5234f9505ce76f4eac3aedfee99c1c5b61b9f9e82bf"), looks := false }, kinds := [], alts := [], laidByText := true, laidKinds := [.data, .pinned], laidTests := true, laidLooks := .later }
def WalkNodesCardSaid : Prop := Claim7.holds Tryz.pinned (.plain (OpenSpec.ofChange walkNodesSpec)) walkNodesCard

/-- THE TIED CARD OF 'garrisonlaw12.WalkLoops'. -/
def walkLoopsCard : Claim7 := { stood := { row := walkLoopsRow, standIns := [], harness := (true, "74257bb597321dc5bcc6e5234f9505ce76f4eac3aedfee99c1c5b61b9f9e82bf"), looks := false }, kinds := [], alts := [], laidByText := true, laidKinds := [.data, .pinned], laidTests := true, laidLooks := .later }
def WalkLoopsCardSaid : Prop := Claim7.holds Tryz.pinned (.plain (OpenSpec.ofChange walkLoopsSpec)) walkLoopsCard

/-- THE TIED CARD OF 'garrisonlaw12.WalkWays'. -/
def walkWaysCard : Claim7 := { stood := { row := walkWaysRow, standIns := [], harness := (true, "74257bb597321dc5bcc6e5234f9505ce76f4eac3aedfee99c1c5b61b9f9e82bf"), looks := false }, kinds := [], alts := [], laidByText := true, laidKinds := [.data, .pinned], laidTests := true, laidLooks := .later }
def WalkWaysCardSaid : Prop := Claim7.holds Tryz.pinned (.plain (OpenSpec.ofChange walkWaysSpec)) walkWaysCard

/-- THE TIED CARD OF 'garrisonlaw12.WalkNone'. -/
def walkNoneCard : Claim7 := { stood := { row := walkNoneRow, standIns := [], harness := (true, "74257bb597321dc5bcc6e5234f9505ce76f4eac3aedfee99c1c5b61b9f9e82bf"), looks := false }, kinds := [], alts := [], laidByText := true, laidKinds := [.data, .pinned], laidTests := true, laidLooks := .later }
def WalkNoneCardSaid : Prop := Claim7.holds Tryz.pinned (.plain (OpenSpec.ofChange walkNoneSpec)) walkNoneCard

/-- THE TIED CARD OF 'garrisonlaw14.FsckNames'. -/
def fsckNamesCard : Claim7 := { stood := { row := fsckNamesRow, standIns := [], harness := (true, "74257bb597321dc5bcc6e5234f9505ce76f4eac3aedfee99c1c5b61b9f9e82bf"), looks := false }, kinds := [], alts := [], laidByText := true, laidKinds := [.data, .pinned], laidTests := true, laidLooks := .later }
def FsckNamesCardSaid : Prop := Claim7.holds Tryz.pinned (.plain (OpenSpec.ofChange fsckNamesSpec)) fsckNamesCard

/-- THE TIED CARD OF 'garrisonlaw13.TreeNone'. -/
def treeNoneCard : Claim7 := { stood := { row := treeNoneRow, standIns := [], harness := (true, "74257bb597321dc5bcc6e5234f9505ce76f4eac3aedfee99c1c5b61b9f9e82bf"), looks := false }, kinds := [], alts := [], laidByText := true, laidKinds := [.data, .pinned], laidTests := true, laidLooks := .later }
def TreeNoneCardSaid : Prop := Claim7.holds Tryz.pinned (.plain (OpenSpec.ofChange treeNoneSpec)) treeNoneCard

/-- THE TIED CARD OF 'garrisonlaw13.TreeLinks'. -/
def treeLinksCard : Claim7 := { stood := { row := treeLinksRow, standIns := [], harness := (true, "74257bb597321dc5bcc6e5234f9505ce76f4eac3aedfee99c1c5b61b9f9e82bf"), looks := false }, kinds := [], alts := [], laidByText := true, laidKinds := [.data, .pinned], laidTests := true, laidLooks := .later }
def TreeLinksCardSaid : Prop := Claim7.holds Tryz.pinned (.plain (OpenSpec.ofChange treeLinksSpec)) treeLinksCard

/-- THE TIED CARD OF 'garrisonlaw13.TreeBack'. -/
def treeBackCard : Claim7 := { stood := { row := treeBackRow, standIns := [], harness := (true, "74257bb597321dc5bcc6e5234f9505ce76f4eac3aedfee99c1c5b61b9f9e82bf"), looks := false }, kinds := [], alts := [], laidByText := true, laidKinds := [.data, .pinned], laidTests := true, laidLooks := .later }
def TreeBackCardSaid : Prop := Claim7.holds Tryz.pinned (.plain (OpenSpec.ofChange treeBackSpec)) treeBackCard

/-- THE TIED CARD OF 'garrisonlaw13.TreeOwn'. -/
def treeOwnCard : Claim7 := { stood := { row := treeOwnRow, standIns := [], harness := (true, "74257bb597321dc5bcc6e5234f9505ce76f4eac3aedfee99c1c5b61b9f9e82bf"), looks := false }, kinds := [], alts := [], laidByText := true, laidKinds := [.data, .pinned], laidTests := true, laidLooks := .later }
def TreeOwnCardSaid : Prop := Claim7.holds Tryz.pinned (.plain (OpenSpec.ofChange treeOwnSpec)) treeOwnCard

/-- THE TIED CARD OF 'garrisonlaw15.ImageBuilds'. -/
def imageBuildsCard : Claim7 := { stood := { row := imageBuildsRow, standIns := [], harness := (true, "74257bb597321dc5bcc6e5234f9505ce76f4eac3aedfee99c1c5b61b9f9e82bf"), looks := false }, kinds := [], alts := [], laidByText := true, laidKinds := [.data, .pinned], laidTests := true, laidLooks := .later }
def ImageBuildsCardSaid : Prop := Claim7.holds Tryz.pinned (.plain (OpenSpec.ofChange imageBuildsSpec)) imageBuildsCard

/-- THE TIED CARD OF 'garrisonlaw15.ImageFiles'. -/
def imageFilesCard : Claim7 := { stood := { row := imageFilesRow, standIns := [], harness := (true, "74257bb597321dc5bcc6e5234f9505ce76f4eac3aedfee99c1c5b61b9f9e82bf"), looks := false }, kinds := [], alts := [], laidByText := true, laidKinds := [.data, .pinned], laidTests := true, laidLooks := .later }
def ImageFilesCardSaid : Prop := Claim7.holds Tryz.pinned (.plain (OpenSpec.ofChange imageFilesSpec)) imageFilesCard

/-- THE TIED CARD OF 'garrisonlaw15.ImageNone'. -/
def imageNoneCard : Claim7 := { stood := { row := imageNoneRow, standIns := [], harness := (true, "74257bb597321dc5bcc6e5234f9505ce76f4eac3aedfee99c1c5b61b9f9e82bf"), looks := false }, kinds := [], alts := [], laidByText := true, laidKinds := [.data, .pinned], laidTests := true, laidLooks := .later }
def ImageNoneCardSaid : Prop := Claim7.holds Tryz.pinned (.plain (OpenSpec.ofChange imageNoneSpec)) imageNoneCard

/-- THE TIED CARD OF 'garrisonlaw15.ImageEmpty'. -/
def imageEmptyCard : Claim7 := { stood := { row := imageEmptyRow, standIns := [], harness := (true, "74257bb597321dc5bcc6e5234f9505ce76f4eac3aedfee99c1c5b61b9f9e82bf"), looks := false }, kinds := [], alts := [], laidByText := true, laidKinds := [.data, .pinned], laidTests := true, laidLooks := .later }
def ImageEmptyCardSaid : Prop := Claim7.holds Tryz.pinned (.plain (OpenSpec.ofChange imageEmptySpec)) imageEmptyCard

/-- THE SECOND FORM's CARD OF 'garrisonlaw12.WalkNodes'. -/
def walkNodesUptoCard : Claim7 := { stood := { row := walkNodesUptoRow, standIns := [], harness := (true, "74257bb597321dc5bcc6e5234f9505ce76f4eac3aedfee99c1c5b61b9f9e82bf"), looks := false }, kinds := [], alts := [], laidByText := true, laidKinds := [.data, .pinned], laidTests := true, laidLooks := .later }
def WalkNodesUptoCardSaid : Prop := Claim7.holds Tryz.pinned (.plain (OpenSpec.upto walkNodesSpec)) walkNodesUptoCard

/-- THE SECOND FORM's CARD OF 'garrisonlaw12.WalkLoops'. -/
def walkLoopsUptoCard : Claim7 := { stood := { row := walkLoopsUptoRow, standIns := [], harness := (true, "74257bb597321dc5bcc6e5234f9505ce76f4eac3aedfee99c1c5b61b9f9e82bf"), looks := false }, kinds := [], alts := [], laidByText := true, laidKinds := [.data, .pinned], laidTests := true, laidLooks := .later }
def WalkLoopsUptoCardSaid : Prop := Claim7.holds Tryz.pinned (.plain (OpenSpec.upto walkLoopsSpec)) walkLoopsUptoCard

/-- THE SECOND FORM's CARD OF 'garrisonlaw12.WalkWays'. -/
def walkWaysUptoCard : Claim7 := { stood := { row := walkWaysUptoRow, standIns := [], harness := (true, "74257bb597321dc5bcc6e5234f9505ce76f4eac3aedfee99c1c5b61b9f9e82bf"), looks := false }, kinds := [], alts := [], laidByText := true, laidKinds := [.data, .pinned], laidTests := true, laidLooks := .later }
def WalkWaysUptoCardSaid : Prop := Claim7.holds Tryz.pinned (.plain (OpenSpec.upto walkWaysSpec)) walkWaysUptoCard

/-- THE SECOND FORM's CARD OF 'garrisonlaw12.WalkNone'. -/
def walkNoneUptoCard : Claim7 := { stood := { row := walkNoneUptoRow, standIns := [], harness := (true, "74257bb597321dc5bcc6e5234f9505ce76f4eac3aedfee99c1c5b61b9f9e82bf"), looks := false }, kinds := [], alts := [], laidByText := true, laidKinds := [.data, .pinned], laidTests := true, laidLooks := .later }
def WalkNoneUptoCardSaid : Prop := Claim7.holds Tryz.pinned (.plain (OpenSpec.upto walkNoneSpec)) walkNoneUptoCard

/-- THE SECOND FORM's CARD OF 'garrisonlaw14.FsckNames'. -/
def fsckNamesUptoCard : Claim7 := { stood := { row := fsckNamesUptoRow, standIns := [], harness := (true, "74257bb597321dc5bcc6e5234f9505ce76f4eac3aedfee99c1c5b61b9f9e82bf"), looks := false }, kinds := [], alts := [], laidByText := true, laidKinds := [.data, .pinned], laidTests := true, laidLooks := .later }
def FsckNamesUptoCardSaid : Prop := Claim7.holds Tryz.pinned (.plain (OpenSpec.upto fsckNamesSpec)) fsckNamesUptoCard

/-- THE SECOND FORM's CARD OF 'garrisonlaw13.TreeNone'. -/
def treeNoneUptoCard : Claim7 := { stood := { row := treeNoneUptoRow, standIns := [], harness := (true, "74257bb597321dc5bcc6e5234f9505ce76f4eac3aedfee99c1c5b61b9f9e82bf"), looks := false }, kinds := [], alts := [], laidByText := true, laidKinds := [.data, .pinned], laidTests := true, laidLooks := .later }
def TreeNoneUptoCardSaid : Prop := Claim7.holds Tryz.pinned (.plain (OpenSpec.upto treeNoneSpec)) treeNoneUptoCard

/-- THE SECOND FORM's CARD OF 'garrisonlaw13.TreeLinks'. -/
def treeLinksUptoCard : Claim7 := { stood := { row := treeLinksUptoRow, standIns := [], harness := (true, "74257bb597321dc5bcc6e5234f9505ce76f4eac3aedfee99c1c5b61b9f9e82bf"), looks := false }, kinds := [], alts := [], laidByText := true, laidKinds := [.data, .pinned], laidTests := true, laidLooks := .later }
def TreeLinksUptoCardSaid : Prop := Claim7.holds Tryz.pinned (.plain (OpenSpec.upto treeLinksSpec)) treeLinksUptoCard

/-- THE SECOND FORM's CARD OF 'garrisonlaw13.TreeBack'. -/
def treeBackUptoCard : Claim7 := { stood := { row := treeBackUptoRow, standIns := [], harness := (true, "74257bb597321dc5bcc6e5234f9505ce76f4eac3aedfee99c1c5b61b9f9e82bf"), looks := false }, kinds := [], alts := [], laidByText := true, laidKinds := [.data, .pinned], laidTests := true, laidLooks := .later }
def TreeBackUptoCardSaid : Prop := Claim7.holds Tryz.pinned (.plain (OpenSpec.upto treeBackSpec)) treeBackUptoCard

/-- THE SECOND FORM's CARD OF 'garrisonlaw13.TreeOwn'. -/
def treeOwnUptoCard : Claim7 := { stood := { row := treeOwnUptoRow, standIns := [], harness := (true, "74257bb597321dc5bcc6e5234f9505ce76f4eac3aedfee99c1c5b61b9f9e82bf"), looks := false }, kinds := [], alts := [], laidByText := true, laidKinds := [.data, .pinned], laidTests := true, laidLooks := .later }
def TreeOwnUptoCardSaid : Prop := Claim7.holds Tryz.pinned (.plain (OpenSpec.upto treeOwnSpec)) treeOwnUptoCard

/-- THE SECOND FORM's CARD OF 'garrisonlaw15.ImageBuilds'. -/
def imageBuildsUptoCard : Claim7 := { stood := { row := imageBuildsUptoRow, standIns := [], harness := (true, "74257bb597321dc5bcc6e5234f9505ce76f4eac3aedfee99c1c5b61b9f9e82bf"), looks := false }, kinds := [], alts := [], laidByText := true, laidKinds := [.data, .pinned], laidTests := true, laidLooks := .later }
def ImageBuildsUptoCardSaid : Prop := Claim7.holds Tryz.pinned (.plain (OpenSpec.upto imageBuildsSpec)) imageBuildsUptoCard

/-- THE SECOND FORM's CARD OF 'garrisonlaw15.ImageFiles'. -/
def imageFilesUptoCard : Claim7 := { stood := { row := imageFilesUptoRow, standIns := [], harness := (true, "74257bb597321dc5bcc6e5234f9505ce76f4eac3aedfee99c1c5b61b9f9e82bf"), looks := false }, kinds := [], alts := [], laidByText := true, laidKinds := [.data, .pinned], laidTests := true, laidLooks := .later }
def ImageFilesUptoCardSaid : Prop := Claim7.holds Tryz.pinned (.plain (OpenSpec.upto imageFilesSpec)) imageFilesUptoCard

/-- THE SECOND FORM's CARD OF 'garrisonlaw15.ImageNone'. -/
def imageNoneUptoCard : Claim7 := { stood := { row := imageNoneUptoRow, standIns := [], harness := (true, "74257bb597321dc5bcc6e5234f9505ce76f4eac3aedfee99c1c5b61b9f9e82bf"), looks := false }, kinds := [], alts := [], laidByText := true, laidKinds := [.data, .pinned], laidTests := true, laidLooks := .later }
def ImageNoneUptoCardSaid : Prop := Claim7.holds Tryz.pinned (.plain (OpenSpec.upto imageNoneSpec)) imageNoneUptoCard

/-- THE SECOND FORM's CARD OF 'garrisonlaw15.ImageEmpty'. -/
def imageEmptyUptoCard : Claim7 := { stood := { row := imageEmptyUptoRow, standIns := [], harness := (true, "74257bb597321dc5bcc6e5234f9505ce76f4eac3aedfee99c1c5b61b9f9e82bf"), looks := false }, kinds := [], alts := [], laidByText := true, laidKinds := [.data, .pinned], laidTests := true, laidLooks := .later }
def ImageEmptyUptoCardSaid : Prop := Claim7.holds Tryz.pinned (.plain (OpenSpec.upto imageEmptySpec)) imageEmptyUptoCard
end Rows
end Go.Proofs.YtgelbhclfnpedaaGreatDoor
