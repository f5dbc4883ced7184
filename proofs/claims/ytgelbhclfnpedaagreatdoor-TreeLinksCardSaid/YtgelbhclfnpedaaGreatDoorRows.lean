/-
  NARROWER THAN 'FOR EVERY INPUT', by the rows' own cells (each row's printed sentence says how): WalkNodes: laid · WalkLoops: laid · WalkWays: laid · WalkNone: laid · FsckNames: laid · TreeNone: laid · TreeLinks: laid · TreeBack: laid · TreeOwn: laid · ImageBuilds: laid · ImageFiles: laid · ImageNone: laid · ImageEmpty: laid.
  DERIVED. THE GIVEN ROWS OF THIS SEAT. 13 by the template 'for every input the law returns true; each argument reads behind the call as it read before'; 0 by the template 'total and deterministic' (their statements: YtgelbhclfnpedaaGreatDoorTotals.lean).
  GIVEN WITH THE SEED: the statements are not yours to turn. If you find one false, say at which input.
  Laid BY PROGRAM, IN A SANDBOX (cutbox-rows.mjs): the forced cells as the released guide's own fill.sh prints them over the translation 44cf6785c59e3151… (all of the seat's roots in one cut). By AI agents, Wed Nov 11 2026. No macro, syntax, notation, axiom, sorry.
-/
import Derived.Test.YtgelbhclfnpedaaGreatDoorChecked
import GoSem.PinnedTables
import GoSem.Claim
import GoSem.ClaimJoined
import GoSem.ClaimMapViews
import Derived.JoinedTies
import Derived.KernelRfl
namespace Go.Proofs.YtgelbhclfnpedaaGreatDoor
/- THE CELL 'sum', in the pinned program and in every row, IS THE sha256 OF THE DUMP (.gsa) THAT YtgelbhclfnpedaaGreatDoorProg.lean LOADS. Nothing in Lean hashes anything: it is a label: what it is worth is what the hold of that sum in a sandbox is worth. -/
noncomputable def Tryz.pinned : Pinned := { name := "ytgelbhclfnpedaagreatdoor", sum := "44cf6785c59e3151a1f6995a9f27b23923d9e2d89e28eff398df1ed80e6fccd4", checked := Tryz.checked }
namespace Rows
def none {H : Type} : Left H := { results := [], args := [] }

/- WHAT THE LISTED PACKAGE-LEVEL VARIABLES READ AS WHEN THE CALL BEGINS. Each datum BY PROGRAM (the guide's laid-datum.mjs) off the statement by which the dump's own 'gosem.cut.vars' lays the variable. In a bare row this is a premise. The card (YtgelbhclfnpedaaGreatDoorCards.lean) ties it to the program's text. -/
def laid_unicode_utf8_acceptRanges {H : Type} : DataW H := .agg [.agg [.lit (.int .u8 128), .lit (.int .u8 191)], .agg [.lit (.int .u8 160), .lit (.int .u8 191)], .agg [.lit (.int .u8 128), .lit (.int .u8 159)], .agg [.lit (.int .u8 144), .lit (.int .u8 191)], .agg [.lit (.int .u8 128), .lit (.int .u8 143)], .agg [.lit (.int .u8 0), .lit (.int .u8 0)], .agg [.lit (.int .u8 0), .lit (.int .u8 0)], .agg [.lit (.int .u8 0), .lit (.int .u8 0)], .agg [.lit (.int .u8 0), .lit (.int .u8 0)], .agg [.lit (.int .u8 0), .lit (.int .u8 0)], .agg [.lit (.int .u8 0), .lit (.int .u8 0)], .agg [.lit (.int .u8 0), .lit (.int .u8 0)], .agg [.lit (.int .u8 0), .lit (.int .u8 0)], .agg [.lit (.int .u8 0), .lit (.int .u8 0)], .agg [.lit (.int .u8 0), .lit (.int .u8 0)], .agg [.lit (.int .u8 0), .lit (.int .u8 0)]]
/-- One of Go's own tables, pinned by name: the form's constant. -/
def laid_unicode_utf8_first : DataW Unit := Go.Pinned.utf8First

/-- 'garrisonlaw12.WalkNodes': WHATEVER THE INPUT: true; the input reads as it did. -/
def walkNodesSpec : ChangeSpec := { name := "walkNodes", fn := fun _ => fun
  | [d1, d2, d3, d4] => { results := [.lit (.bool true)], args := [d1, d2, d3, d4] }
  | _ => none }
def walkNodesRow : OpenClaim := { program := "ytgelbhclfnpedaagreatdoor", sum := "44cf6785c59e3151a1f6995a9f27b23923d9e2d89e28eff398df1ed80e6fccd4", func := "garrison/garrisonlaw12.WalkNodes", spec := "walkNodes", inPlace := ["internal/bytealg.CountString", "internal/bytealg.IndexByteString", "internal/bytealg.IndexString"], unfollowed := true, recurses := true, named := ["unicode/utf8.first", "unicode/utf8.acceptRanges", "internal/bytealg.MaxLen"], plainKeys := false, apart := false, laid := [("unicode/utf8.acceptRanges", laid_unicode_utf8_acceptRanges), ("unicode/utf8.first", laid_unicode_utf8_first)] }
def WalkNodesSaid : Prop := walkNodesRow.holds Tryz.pinned (OpenSpec.ofChange walkNodesSpec)

/-- ITS FALSE NEIGHBOUR: 'it returns false'. Refute it at one input. -/
def walkNodesWrong : ChangeSpec := { name := "walkNodes", fn := fun _ => fun
  | [d1, d2, d3, d4] => { results := [.lit (.bool false)], args := [d1, d2, d3, d4] }
  | _ => none }
def WalkNodesWrongFalsely : Prop := walkNodesRow.holds Tryz.pinned (OpenSpec.ofChange walkNodesWrong)

/-- 'garrisonlaw12.WalkLoops': WHATEVER THE INPUT: true; the input reads as it did. -/
def walkLoopsSpec : ChangeSpec := { name := "walkLoops", fn := fun _ => fun
  | [d1, d2] => { results := [.lit (.bool true)], args := [d1, d2] }
  | _ => none }
def walkLoopsRow : OpenClaim := { program := "ytgelbhclfnpedaagreatdoor", sum := "44cf6785c59e3151a1f6995a9f27b23923d9e2d89e28eff398df1ed80e6fccd4", func := "garrison/garrisonlaw12.WalkLoops", spec := "walkLoops", inPlace := ["internal/bytealg.CountString", "internal/bytealg.IndexByteString", "internal/bytealg.IndexString"], unfollowed := true, recurses := true, named := ["unicode/utf8.first", "unicode/utf8.acceptRanges", "internal/bytealg.MaxLen"], plainKeys := false, apart := false, laid := [("unicode/utf8.acceptRanges", laid_unicode_utf8_acceptRanges), ("unicode/utf8.first", laid_unicode_utf8_first)] }
def WalkLoopsSaid : Prop := walkLoopsRow.holds Tryz.pinned (OpenSpec.ofChange walkLoopsSpec)

/-- ITS FALSE NEIGHBOUR: 'it returns false'. Refute it at one input. -/
def walkLoopsWrong : ChangeSpec := { name := "walkLoops", fn := fun _ => fun
  | [d1, d2] => { results := [.lit (.bool false)], args := [d1, d2] }
  | _ => none }
def WalkLoopsWrongFalsely : Prop := walkLoopsRow.holds Tryz.pinned (OpenSpec.ofChange walkLoopsWrong)

/-- 'garrisonlaw12.WalkWays': WHATEVER THE INPUT: true; the input reads as it did. -/
def walkWaysSpec : ChangeSpec := { name := "walkWays", fn := fun _ => fun
  | [d1, d2, d3, d4, d5, d6, d7, d8] => { results := [.lit (.bool true)], args := [d1, d2, d3, d4, d5, d6, d7, d8] }
  | _ => none }
def walkWaysRow : OpenClaim := { program := "ytgelbhclfnpedaagreatdoor", sum := "44cf6785c59e3151a1f6995a9f27b23923d9e2d89e28eff398df1ed80e6fccd4", func := "garrison/garrisonlaw12.WalkWays", spec := "walkWays", inPlace := ["internal/bytealg.CountString", "internal/bytealg.IndexByteString", "internal/bytealg.IndexString"], unfollowed := true, recurses := true, named := ["unicode/utf8.first", "unicode/utf8.acceptRanges", "internal/bytealg.MaxLen"], plainKeys := false, apart := false, laid := [("unicode/utf8.acceptRanges", laid_unicode_utf8_acceptRanges), ("unicode/utf8.first", laid_unicode_utf8_first)] }
def WalkWaysSaid : Prop := walkWaysRow.holds Tryz.pinned (OpenSpec.ofChange walkWaysSpec)

/-- ITS FALSE NEIGHBOUR: 'it returns false'. Refute it at one input. -/
def walkWaysWrong : ChangeSpec := { name := "walkWays", fn := fun _ => fun
  | [d1, d2, d3, d4, d5, d6, d7, d8] => { results := [.lit (.bool false)], args := [d1, d2, d3, d4, d5, d6, d7, d8] }
  | _ => none }
def WalkWaysWrongFalsely : Prop := walkWaysRow.holds Tryz.pinned (OpenSpec.ofChange walkWaysWrong)

/-- 'garrisonlaw12.WalkNone': WHATEVER THE INPUT: true; the input reads as it did. -/
def walkNoneSpec : ChangeSpec := { name := "walkNone", fn := fun _ => fun
  | [d1, d2, d3, d4, d5] => { results := [.lit (.bool true)], args := [d1, d2, d3, d4, d5] }
  | _ => none }
def walkNoneRow : OpenClaim := { program := "ytgelbhclfnpedaagreatdoor", sum := "44cf6785c59e3151a1f6995a9f27b23923d9e2d89e28eff398df1ed80e6fccd4", func := "garrison/garrisonlaw12.WalkNone", spec := "walkNone", inPlace := ["internal/bytealg.CountString", "internal/bytealg.IndexByteString", "internal/bytealg.IndexString"], unfollowed := true, recurses := true, named := ["unicode/utf8.first", "unicode/utf8.acceptRanges", "internal/bytealg.MaxLen"], plainKeys := false, apart := false, laid := [("unicode/utf8.acceptRanges", laid_unicode_utf8_acceptRanges), ("unicode/utf8.first", laid_unicode_utf8_first)] }
def WalkNoneSaid : Prop := walkNoneRow.holds Tryz.pinned (OpenSpec.ofChange walkNoneSpec)

/-- ITS FALSE NEIGHBOUR: 'it returns false'. Refute it at one input. -/
def walkNoneWrong : ChangeSpec := { name := "walkNone", fn := fun _ => fun
  | [d1, d2, d3, d4, d5] => { results := [.lit (.bool false)], args := [d1, d2, d3, d4, d5] }
  | _ => none }
def WalkNoneWrongFalsely : Prop := walkNoneRow.holds Tryz.pinned (OpenSpec.ofChange walkNoneWrong)

/-- 'garrisonlaw14.FsckNames': WHATEVER THE INPUT: true; the input reads as it did. -/
def fsckNamesSpec : ChangeSpec := { name := "fsckNames", fn := fun _ => fun
  | [d1, d2, d3] => { results := [.lit (.bool true)], args := [d1, d2, d3] }
  | _ => none }
def fsckNamesRow : OpenClaim := { program := "ytgelbhclfnpedaagreatdoor", sum := "44cf6785c59e3151a1f6995a9f27b23923d9e2d89e28eff398df1ed80e6fccd4", func := "garrison/garrisonlaw14.FsckNames", spec := "fsckNames", inPlace := ["internal/bytealg.CountString", "internal/bytealg.IndexByteString", "internal/bytealg.IndexString"], unfollowed := true, recurses := true, named := ["unicode/utf8.first", "unicode/utf8.acceptRanges", "internal/bytealg.MaxLen"], plainKeys := false, apart := false, laid := [("unicode/utf8.acceptRanges", laid_unicode_utf8_acceptRanges), ("unicode/utf8.first", laid_unicode_utf8_first)] }
def FsckNamesSaid : Prop := fsckNamesRow.holds Tryz.pinned (OpenSpec.ofChange fsckNamesSpec)

/-- ITS FALSE NEIGHBOUR: 'it returns false'. Refute it at one input. -/
def fsckNamesWrong : ChangeSpec := { name := "fsckNames", fn := fun _ => fun
  | [d1, d2, d3] => { results := [.lit (.bool false)], args := [d1, d2, d3] }
  | _ => none }
def FsckNamesWrongFalsely : Prop := fsckNamesRow.holds Tryz.pinned (OpenSpec.ofChange fsckNamesWrong)

/-- 'garrisonlaw13.TreeNone': WHATEVER THE INPUT: true; the input reads as it did. -/
def treeNoneSpec : ChangeSpec := { name := "treeNone", fn := fun _ => fun
  | [d1, d2, d3, d4] => { results := [.lit (.bool true)], args := [d1, d2, d3, d4] }
  | _ => none }
def treeNoneRow : OpenClaim := { program := "ytgelbhclfnpedaagreatdoor", sum := "44cf6785c59e3151a1f6995a9f27b23923d9e2d89e28eff398df1ed80e6fccd4", func := "garrison/garrisonlaw13.TreeNone", spec := "treeNone", inPlace := ["internal/bytealg.CountString", "internal/bytealg.IndexByteString", "internal/bytealg.IndexString"], unfollowed := true, recurses := true, named := ["unicode/utf8.first", "unicode/utf8.acceptRanges", "internal/bytealg.MaxLen"], plainKeys := false, apart := false, laid := [("unicode/utf8.acceptRanges", laid_unicode_utf8_acceptRanges), ("unicode/utf8.first", laid_unicode_utf8_first)] }
def TreeNoneSaid : Prop := treeNoneRow.holds Tryz.pinned (OpenSpec.ofChange treeNoneSpec)

/-- ITS FALSE NEIGHBOUR: 'it returns false'. Refute it at one input. -/
def treeNoneWrong : ChangeSpec := { name := "treeNone", fn := fun _ => fun
  | [d1, d2, d3, d4] => { results := [.lit (.bool false)], args := [d1, d2, d3, d4] }
  | _ => none }
def TreeNoneWrongFalsely : Prop := treeNoneRow.holds Tryz.pinned (OpenSpec.ofChange treeNoneWrong)

/-- 'garrisonlaw13.TreeLinks': WHATEVER THE INPUT: true; the input reads as it did. -/
def treeLinksSpec : ChangeSpec := { name := "treeLinks", fn := fun _ => fun
  | [d1, d2] => { results := [.lit (.bool true)], args := [d1, d2] }
  | _ => none }
def treeLinksRow : OpenClaim := { program := "ytgelbhclfnpedaagreatdoor", sum := "44cf6785c59e3151a1f6995a9f27b23923d9e2d89e28eff398df1ed80e6fccd4", func := "garrison/garrisonlaw13.TreeLinks", spec := "treeLinks", inPlace := ["internal/bytealg.CountString", "internal/bytealg.IndexByteString", "internal/bytealg.IndexString"], unfollowed := true, recurses := true, named := ["unicode/utf8.first", "unicode/utf8.acceptRanges", "internal/bytealg.MaxLen"], plainKeys := false, apart := false, laid := [("unicode/utf8.acceptRanges", laid_unicode_utf8_acceptRanges), ("unicode/utf8.first", laid_unicode_utf8_first)] }
def TreeLinksSaid : Prop := treeLinksRow.holds Tryz.pinned (OpenSpec.ofChange treeLinksSpec)

/-- ITS FALSE NEIGHBOUR: 'it returns false'. Refute it at one input. -/
def treeLinksWrong : ChangeSpec := { name := "treeLinks", fn := fun _ => fun
  | [d1, d2] => { results := [.lit (.bool false)], args := [d1, d2] }
  | _ => none }
def TreeLinksWrongFalsely : Prop := treeLinksRow.holds Tryz.pinned (OpenSpec.ofChange treeLinksWrong)

/-- 'garrisonlaw13.TreeBack': WHATEVER THE INPUT: true; the input reads as it did. -/
def treeBackSpec : ChangeSpec := { name := "treeBack", fn := fun _ => fun
  | [d1, d2] => { results := [.lit (.bool true)], args := [d1, d2] }
  | _ => none }
def treeBackRow : OpenClaim := { program := "ytgelbhclfnpedaagreatdoor", sum := "44cf6785c59e3151a1f6995a9f27b23923d9e2d89e28eff398df1ed80e6fccd4", func := "garrison/garrisonlaw13.TreeBack", spec := "treeBack", inPlace := ["internal/bytealg.CountString", "internal/bytealg.IndexByteString", "internal/bytealg.IndexString"], unfollowed := true, recurses := true, named := ["unicode/utf8.first", "unicode/utf8.acceptRanges", "internal/bytealg.MaxLen"], plainKeys := false, apart := false, laid := [("unicode/utf8.acceptRanges", laid_unicode_utf8_acceptRanges), ("unicode/utf8.first", laid_unicode_utf8_first)] }
def TreeBackSaid : Prop := treeBackRow.holds Tryz.pinned (OpenSpec.ofChange treeBackSpec)

/-- ITS FALSE NEIGHBOUR: 'it returns false'. Refute it at one input. -/
def treeBackWrong : ChangeSpec := { name := "treeBack", fn := fun _ => fun
  | [d1, d2] => { results := [.lit (.bool false)], args := [d1, d2] }
  | _ => none }
def TreeBackWrongFalsely : Prop := treeBackRow.holds Tryz.pinned (OpenSpec.ofChange treeBackWrong)

/-- 'garrisonlaw13.TreeOwn': WHATEVER THE INPUT: true; the input reads as it did. -/
def treeOwnSpec : ChangeSpec := { name := "treeOwn", fn := fun _ => fun
  | [d1, d2, d3] => { results := [.lit (.bool true)], args := [d1, d2, d3] }
  | _ => none }
def treeOwnRow : OpenClaim := { program := "ytgelbhclfnpedaagreatdoor", sum := "44cf6785c59e3151a1f6995a9f27b23923d9e2d89e28eff398df1ed80e6fccd4", func := "garrison/garrisonlaw13.TreeOwn", spec := "treeOwn", inPlace := ["internal/bytealg.CountString", "internal/bytealg.IndexByteString", "internal/bytealg.IndexString"], unfollowed := true, recurses := true, named := ["unicode/utf8.first", "unicode/utf8.acceptRanges", "internal/bytealg.MaxLen"], plainKeys := false, apart := false, laid := [("unicode/utf8.acceptRanges", laid_unicode_utf8_acceptRanges), ("unicode/utf8.first", laid_unicode_utf8_first)] }
def TreeOwnSaid : Prop := treeOwnRow.holds Tryz.pinned (OpenSpec.ofChange treeOwnSpec)

/-- ITS FALSE NEIGHBOUR: 'it returns false'. Refute it at one input. -/
def treeOwnWrong : ChangeSpec := { name := "treeOwn", fn := fun _ => fun
  | [d1, d2, d3] => { results := [.lit (.bool false)], args := [d1, d2, d3] }
  | _ => none }
def TreeOwnWrongFalsely : Prop := treeOwnRow.holds Tryz.pinned (OpenSpec.ofChange treeOwnWrong)

/-- 'garrisonlaw15.ImageBuilds': WHATEVER THE INPUT: true; the input reads as it did. -/
def imageBuildsSpec : ChangeSpec := { name := "imageBuilds", fn := fun _ => fun
  | [d1, d2] => { results := [.lit (.bool true)], args := [d1, d2] }
  | _ => none }
def imageBuildsRow : OpenClaim := { program := "ytgelbhclfnpedaagreatdoor", sum := "44cf6785c59e3151a1f6995a9f27b23923d9e2d89e28eff398df1ed80e6fccd4", func := "garrison/garrisonlaw15.ImageBuilds", spec := "imageBuilds", inPlace := ["internal/bytealg.CountString", "internal/bytealg.IndexByteString", "internal/bytealg.IndexString"], unfollowed := true, recurses := true, named := ["unicode/utf8.first", "unicode/utf8.acceptRanges", "internal/bytealg.MaxLen"], plainKeys := false, apart := false, laid := [("unicode/utf8.acceptRanges", laid_unicode_utf8_acceptRanges), ("unicode/utf8.first", laid_unicode_utf8_first)] }
def ImageBuildsSaid : Prop := imageBuildsRow.holds Tryz.pinned (OpenSpec.ofChange imageBuildsSpec)

/-- ITS FALSE NEIGHBOUR: 'it returns false'. Refute it at one input. -/
def imageBuildsWrong : ChangeSpec := { name := "imageBuilds", fn := fun _ => fun
  | [d1, d2] => { results := [.lit (.bool false)], args := [d1, d2] }
  | _ => none }
def ImageBuildsWrongFalsely : Prop := imageBuildsRow.holds Tryz.pinned (OpenSpec.ofChange imageBuildsWrong)

/-- 'garrisonlaw15.ImageFiles': WHATEVER THE INPUT: true; the input reads as it did. -/
def imageFilesSpec : ChangeSpec := { name := "imageFiles", fn := fun _ => fun
  | [d1, d2, d3] => { results := [.lit (.bool true)], args := [d1, d2, d3] }
  | _ => none }
def imageFilesRow : OpenClaim := { program := "ytgelbhclfnpedaagreatdoor", sum := "44cf6785c59e3151a1f6995a9f27b23923d9e2d89e28eff398df1ed80e6fccd4", func := "garrison/garrisonlaw15.ImageFiles", spec := "imageFiles", inPlace := ["internal/bytealg.CountString", "internal/bytealg.IndexByteString", "internal/bytealg.IndexString"], unfollowed := true, recurses := true, named := ["unicode/utf8.first", "unicode/utf8.acceptRanges", "internal/bytealg.MaxLen"], plainKeys := false, apart := false, laid := [("unicode/utf8.acceptRanges", laid_unicode_utf8_acceptRanges), ("unicode/utf8.first", laid_unicode_utf8_first)] }
def ImageFilesSaid : Prop := imageFilesRow.holds Tryz.pinned (OpenSpec.ofChange imageFilesSpec)

/-- ITS FALSE NEIGHBOUR: 'it returns false'. Refute it at one input. -/
def imageFilesWrong : ChangeSpec := { name := "imageFiles", fn := fun _ => fun
  | [d1, d2, d3] => { results := [.lit (.bool false)], args := [d1, d2, d3] }
  | _ => none }
def ImageFilesWrongFalsely : Prop := imageFilesRow.holds Tryz.pinned (OpenSpec.ofChange imageFilesWrong)

/-- 'garrisonlaw15.ImageNone': WHATEVER THE INPUT: true; the input reads as it did. -/
def imageNoneSpec : ChangeSpec := { name := "imageNone", fn := fun _ => fun
  | [d1, d2, d3, d4] => { results := [.lit (.bool true)], args := [d1, d2, d3, d4] }
  | _ => none }
def imageNoneRow : OpenClaim := { program := "ytgelbhclfnpedaagreatdoor", sum := "44cf6785c59e3151a1f6995a9f27b23923d9e2d89e28eff398df1ed80e6fccd4", func := "garrison/garrisonlaw15.ImageNone", spec := "imageNone", inPlace := ["internal/bytealg.CountString", "internal/bytealg.IndexByteString", "internal/bytealg.IndexString"], unfollowed := true, recurses := true, named := ["unicode/utf8.first", "unicode/utf8.acceptRanges", "internal/bytealg.MaxLen"], plainKeys := false, apart := false, laid := [("unicode/utf8.acceptRanges", laid_unicode_utf8_acceptRanges), ("unicode/utf8.first", laid_unicode_utf8_first)] }
def ImageNoneSaid : Prop := imageNoneRow.holds Tryz.pinned (OpenSpec.ofChange imageNoneSpec)

/-- ITS FALSE NEIGHBOUR: 'it returns false'. Refute it at one input. -/
def imageNoneWrong : ChangeSpec := { name := "imageNone", fn := fun _ => fun
  | [d1, d2, d3, d4] => { results := [.lit (.bool false)], args := [d1, d2, d3, d4] }
  | _ => none }
def ImageNoneWrongFalsely : Prop := imageNoneRow.holds Tryz.pinned (OpenSpec.ofChange imageNoneWrong)

/-- 'garrisonlaw15.ImageEmpty': WHATEVER THE INPUT: true; the input reads as it did. -/
def imageEmptySpec : ChangeSpec := { name := "imageEmpty", fn := fun _ => fun
  | [d] => { results := [.lit (.bool true)], args := [d] }
  | _ => none }
def imageEmptyRow : OpenClaim := { program := "ytgelbhclfnpedaagreatdoor", sum := "44cf6785c59e3151a1f6995a9f27b23923d9e2d89e28eff398df1ed80e6fccd4", func := "garrison/garrisonlaw15.ImageEmpty", spec := "imageEmpty", inPlace := ["internal/bytealg.CountString", "internal/bytealg.IndexByteString", "internal/bytealg.IndexString"], unfollowed := true, recurses := true, named := ["unicode/utf8.first", "unicode/utf8.acceptRanges", "internal/bytealg.MaxLen"], plainKeys := false, apart := false, laid := [("unicode/utf8.acceptRanges", laid_unicode_utf8_acceptRanges), ("unicode/utf8.first", laid_unicode_utf8_first)] }
def ImageEmptySaid : Prop := imageEmptyRow.holds Tryz.pinned (OpenSpec.ofChange imageEmptySpec)

/-- ITS FALSE NEIGHBOUR: 'it returns false'. Refute it at one input. -/
def imageEmptyWrong : ChangeSpec := { name := "imageEmpty", fn := fun _ => fun
  | [d] => { results := [.lit (.bool false)], args := [d] }
  | _ => none }
def ImageEmptyWrongFalsely : Prop := imageEmptyRow.holds Tryz.pinned (OpenSpec.ofChange imageEmptyWrong)

/- THE SECOND FORM. 'bulk': how many values and letters a reading holds, each counted each time it is reached (what is shared counts as often as it is met; a slice's spare places count too). A statement '..UptoSaid' is the law's where the arguments, and the package variables that the reading takes, are together of bulk at most 1048576: NARROWER than '..Said'. Prove '..Said' where nothing that the law and all that it calls make is longer than what came in: it says more and counts as full. Else prove '..UptoSaid'. A law counts once. -/
mutual
def uptoBulk {H : Type} : DataW H → Nat
  | .lit (.string bytes) => bytes.length + 1
  | .lit _ => 1
  | .nil => 1
  | .ptr d => uptoBulk d + 1
  | .slice elems spare => uptoBulkAll elems + uptoBulkAll spare + 1
  | .agg parts => uptoBulkAll parts + 1
  | .iface _ d => uptoBulk d + 1
  | .map entries => uptoBulkEntries entries + 1
  | .held _ => 1
def uptoBulkAll {H : Type} : List (DataW H) → Nat
  | [] => 0
  | d :: r => uptoBulk d + uptoBulkAll r
def uptoBulkEntries {H : Type} : List (Lit × DataW H) → Nat
  | [] => 0
  | x :: r => uptoBulkEntry x + uptoBulkEntries r
def uptoBulkEntry {H : Type} : Lit × DataW H → Nat
  | (.string bytes, d) => bytes.length + uptoBulk d + 1
  | (_, d) => uptoBulk d + 1
 end
def uptoSmall : (H : Type) → List (DataW H) → Bool := fun _ ds => decide (uptoBulkAll ds ≤ 1048576)
def OpenSpec.upto (s : _root_.Go.ChangeSpec) : _root_.Go.OpenSpec := { _root_.Go.OpenSpec.ofChange s with cond := some uptoSmall }

/-- 'garrisonlaw12.WalkNodes', WHERE WHAT IT READS IS OF BULK AT MOST 1048576: true; the input reads as it did. -/
def walkNodesUptoRow : OpenClaim := { program := "ytgelbhclfnpedaagreatdoor", sum := "44cf6785c59e3151a1f6995a9f27b23923d9e2d89e28eff398df1ed80e6fccd4", func := "garrison/garrisonlaw12.WalkNodes", spec := "walkNodes", inPlace := ["internal/bytealg.CountString", "internal/bytealg.IndexByteString", "internal/bytealg.IndexString"], unfollowed := true, recurses := true, named := ["unicode/utf8.first", "unicode/utf8.acceptRanges", "internal/bytealg.MaxLen"], plainKeys := false, apart := false, laid := [("unicode/utf8.acceptRanges", laid_unicode_utf8_acceptRanges), ("unicode/utf8.first", laid_unicode_utf8_first)], narrowed := true }
def WalkNodesUptoSaid : Prop := walkNodesUptoRow.holds Tryz.pinned (OpenSpec.upto walkNodesSpec)

/-- 'garrisonlaw12.WalkLoops', WHERE WHAT IT READS IS OF BULK AT MOST 1048576: true; the input reads as it did. -/
def walkLoopsUptoRow : OpenClaim := { program := "ytgelbhclfnpedaagreatdoor", sum := "44cf6785c59e3151a1f6995a9f27b23923d9e2d89e28eff398df1ed80e6fccd4", func := "garrison/garrisonlaw12.WalkLoops", spec := "walkLoops", inPlace := ["internal/bytealg.CountString", "internal/bytealg.IndexByteString", "internal/bytealg.IndexString"], unfollowed := true, recurses := true, named := ["unicode/utf8.first", "unicode/utf8.acceptRanges", "internal/bytealg.MaxLen"], plainKeys := false, apart := false, laid := [("unicode/utf8.acceptRanges", laid_unicode_utf8_acceptRanges), ("unicode/utf8.first", laid_unicode_utf8_first)], narrowed := true }
def WalkLoopsUptoSaid : Prop := walkLoopsUptoRow.holds Tryz.pinned (OpenSpec.upto walkLoopsSpec)

/-- 'garrisonlaw12.WalkWays', WHERE WHAT IT READS IS OF BULK AT MOST 1048576: true; the input reads as it did. -/
def walkWaysUptoRow : OpenClaim := { program := "ytgelbhclfnpedaagreatdoor", sum := "44cf6785c59e3151a1f6995a9f27b23923d9e2d89e28eff398df1ed80e6fccd4", func := "garrison/garrisonlaw12.WalkWays", spec := "walkWays", inPlace := ["internal/bytealg.CountString", "internal/bytealg.IndexByteString", "internal/bytealg.IndexString"], unfollowed := true, recurses := true, named := ["unicode/utf8.first", "unicode/utf8.acceptRanges", "internal/bytealg.MaxLen"], plainKeys := false, apart := false, laid := [("unicode/utf8.acceptRanges", laid_unicode_utf8_acceptRanges), ("unicode/utf8.first", laid_unicode_utf8_first)], narrowed := true }
def WalkWaysUptoSaid : Prop := walkWaysUptoRow.holds Tryz.pinned (OpenSpec.upto walkWaysSpec)

/-- 'garrisonlaw12.WalkNone', WHERE WHAT IT READS IS OF BULK AT MOST 1048576: true; the input reads as it did. -/
def walkNoneUptoRow : OpenClaim := { program := "ytgelbhclfnpedaagreatdoor", sum := "44cf6785c59e3151a1f6995a9f27b23923d9e2d89e28eff398df1ed80e6fccd4", func := "garrison/garrisonlaw12.WalkNone", spec := "walkNone", inPlace := ["internal/bytealg.CountString", "internal/bytealg.IndexByteString", "internal/bytealg.IndexString"], unfollowed := true, recurses := true, named := ["unicode/utf8.first", "unicode/utf8.acceptRanges", "internal/bytealg.MaxLen"], plainKeys := false, apart := false, laid := [("unicode/utf8.acceptRanges", laid_unicode_utf8_acceptRanges), ("unicode/utf8.first", laid_unicode_utf8_first)], narrowed := true }
def WalkNoneUptoSaid : Prop := walkNoneUptoRow.holds Tryz.pinned (OpenSpec.upto walkNoneSpec)

/-- 'garrisonlaw14.FsckNames', WHERE WHAT IT READS IS OF BULK AT MOST 1048576: true; the input reads as it did. -/
def fsckNamesUptoRow : OpenClaim := { program := "ytgelbhclfnpedaagreatdoor", sum := "44cf6785c59e3151a1f6995a9f27b23923d9e2d89e28eff398df1ed80e6fccd4", func := "garrison/garrisonlaw14.FsckNames", spec := "fsckNames", inPlace := ["internal/bytealg.CountString", "internal/bytealg.IndexByteString", "internal/bytealg.IndexString"], unfollowed := true, recurses := true, named := ["unicode/utf8.first", "unicode/utf8.acceptRanges", "internal/bytealg.MaxLen"], plainKeys := false, apart := false, laid := [("unicode/utf8.acceptRanges", laid_unicode_utf8_acceptRanges), ("unicode/utf8.first", laid_unicode_utf8_first)], narrowed := true }
def FsckNamesUptoSaid : Prop := fsckNamesUptoRow.holds Tryz.pinned (OpenSpec.upto fsckNamesSpec)

/-- 'garrisonlaw13.TreeNone', WHERE WHAT IT READS IS OF BULK AT MOST 1048576: true; the input reads as it did. -/
def treeNoneUptoRow : OpenClaim := { program := "ytgelbhclfnpedaagreatdoor", sum := "44cf6785c59e3151a1f6995a9f27b23923d9e2d89e28eff398df1ed80e6fccd4", func := "garrison/garrisonlaw13.TreeNone", spec := "treeNone", inPlace := ["internal/bytealg.CountString", "internal/bytealg.IndexByteString", "internal/bytealg.IndexString"], unfollowed := true, recurses := true, named := ["unicode/utf8.first", "unicode/utf8.acceptRanges", "internal/bytealg.MaxLen"], plainKeys := false, apart := false, laid := [("unicode/utf8.acceptRanges", laid_unicode_utf8_acceptRanges), ("unicode/utf8.first", laid_unicode_utf8_first)], narrowed := true }
def TreeNoneUptoSaid : Prop := treeNoneUptoRow.holds Tryz.pinned (OpenSpec.upto treeNoneSpec)

/-- 'garrisonlaw13.TreeLinks', WHERE WHAT IT READS IS OF BULK AT MOST 1048576: true; the input reads as it did. -/
def treeLinksUptoRow : OpenClaim := { program := "ytgelbhclfnpedaagreatdoor", sum := "44cf6785c59e3151a1f6995a9f27b23923d9e2d89e28eff398df1ed80e6fccd4", func := "garrison/garrisonlaw13.TreeLinks", spec := "treeLinks", inPlace := ["internal/bytealg.CountString", "internal/bytealg.IndexByteString", "internal/bytealg.IndexString"], unfollowed := true, recurses := true, named := ["unicode/utf8.first", "unicode/utf8.acceptRanges", "internal/bytealg.MaxLen"], plainKeys := false, apart := false, laid := [("unicode/utf8.acceptRanges", laid_unicode_utf8_acceptRanges), ("unicode/utf8.first", laid_unicode_utf8_first)], narrowed := true }
def TreeLinksUptoSaid : Prop := treeLinksUptoRow.holds Tryz.pinned (OpenSpec.upto treeLinksSpec)

/-- 'garrisonlaw13.TreeBack', WHERE WHAT IT READS IS OF BULK AT MOST 1048576: true; the input reads as it did. -/
def treeBackUptoRow : OpenClaim := { program := "ytgelbhclfnpedaagreatdoor", sum := "44cf6785c59e3151a1f6995a9f27b23923d9e2d89e28eff398df1ed80e6fccd4", func := "garrison/garrisonlaw13.TreeBack", spec := "treeBack", inPlace := ["internal/bytealg.CountString", "internal/bytealg.IndexByteString", "internal/bytealg.IndexString"], unfollowed := true, recurses := true, named := ["unicode/utf8.first", "unicode/utf8.acceptRanges", "internal/bytealg.MaxLen"], plainKeys := false, apart := false, laid := [("unicode/utf8.acceptRanges", laid_unicode_utf8_acceptRanges), ("unicode/utf8.first", laid_unicode_utf8_first)], narrowed := true }
def TreeBackUptoSaid : Prop := treeBackUptoRow.holds Tryz.pinned (OpenSpec.upto treeBackSpec)

/-- 'garrisonlaw13.TreeOwn', WHERE WHAT IT READS IS OF BULK AT MOST 1048576: true; the input reads as it did. -/
def treeOwnUptoRow : OpenClaim := { program := "ytgelbhclfnpedaagreatdoor", sum := "44cf6785c59e3151a1f6995a9f27b23923d9e2d89e28eff398df1ed80e6fccd4", func := "garrison/garrisonlaw13.TreeOwn", spec := "treeOwn", inPlace := ["internal/bytealg.CountString", "internal/bytealg.IndexByteString", "internal/bytealg.IndexString"], unfollowed := true, recurses := true, named := ["unicode/utf8.first", "unicode/utf8.acceptRanges", "internal/bytealg.MaxLen"], plainKeys := false, apart := false, laid := [("unicode/utf8.acceptRanges", laid_unicode_utf8_acceptRanges), ("unicode/utf8.first", laid_unicode_utf8_first)], narrowed := true }
def TreeOwnUptoSaid : Prop := treeOwnUptoRow.holds Tryz.pinned (OpenSpec.upto treeOwnSpec)

/-- 'garrisonlaw15.ImageBuilds', WHERE WHAT IT READS IS OF BULK AT MOST 1048576: true; the input reads as it did. -/
def imageBuildsUptoRow : OpenClaim := { program := "ytgelbhclfnpedaagreatdoor", sum := "44cf6785c59e3151a1f6995a9f27b23923d9e2d89e28eff398df1ed80e6fccd4", func := "garrison/garrisonlaw15.ImageBuilds", spec := "imageBuilds", inPlace := ["internal/bytealg.CountString", "internal/bytealg.IndexByteString", "internal/bytealg.IndexString"], unfollowed := true, recurses := true, named := ["unicode/utf8.first", "unicode/utf8.acceptRanges", "internal/bytealg.MaxLen"], plainKeys := false, apart := false, laid := [("unicode/utf8.acceptRanges", laid_unicode_utf8_acceptRanges), ("unicode/utf8.first", laid_unicode_utf8_first)], narrowed := true }
def ImageBuildsUptoSaid : Prop := imageBuildsUptoRow.holds Tryz.pinned (OpenSpec.upto imageBuildsSpec)

/-- 'garrisonlaw15.ImageFiles', WHERE WHAT IT READS IS OF BULK AT MOST 1048576: true; the input reads as it did. -/
def imageFilesUptoRow : OpenClaim := { program := "ytgelbhclfnpedaagreatdoor", sum := "44cf6785c59e3151a1f6995a9f27b23923d9e2d89e28eff398df1ed80e6fccd4", func := "garrison/garrisonlaw15.ImageFiles", spec := "imageFiles", inPlace := ["internal/bytealg.CountString", "internal/bytealg.IndexByteString", "internal/bytealg.IndexString"], unfollowed := true, recurses := true, named := ["unicode/utf8.first", "unicode/utf8.acceptRanges", "internal/bytealg.MaxLen"], plainKeys := false, apart := false, laid := [("unicode/utf8.acceptRanges", laid_unicode_utf8_acceptRanges), ("unicode/utf8.first", laid_unicode_utf8_first)], narrowed := true }
def ImageFilesUptoSaid : Prop := imageFilesUptoRow.holds Tryz.pinned (OpenSpec.upto imageFilesSpec)

/-- 'garrisonlaw15.ImageNone', WHERE WHAT IT READS IS OF BULK AT MOST 1048576: true; the input reads as it did. -/
def imageNoneUptoRow : OpenClaim := { program := "ytgelbhclfnpedaagreatdoor", sum := "44cf6785c59e3151a1f6995a9f27b23923d9e2d89e28eff398df1ed80e6fccd4", func := "garrison/garrisonlaw15.ImageNone", spec := "imageNone", inPlace := ["internal/bytealg.CountString", "internal/bytealg.IndexByteString", "internal/bytealg.IndexString"], unfollowed := true, recurses := true, named := ["unicode/utf8.first", "unicode/utf8.acceptRanges", "internal/bytealg.MaxLen"], plainKeys := false, apart := false, laid := [("unicode/utf8.acceptRanges", laid_unicode_utf8_acceptRanges), ("unicode/utf8.first", laid_unicode_utf8_first)], narrowed := true }
def ImageNoneUptoSaid : Prop := imageNoneUptoRow.holds Tryz.pinned (OpenSpec.upto imageNoneSpec)

/-- 'garrisonlaw15.ImageEmpty', WHERE WHAT IT READS IS OF BULK AT MOST 1048576: true; the input reads as it did. -/
def imageEmptyUptoRow : OpenClaim := { program := "ytgelbhclfnpedaagreatdoor", sum := "44cf6785c59e3151a1f6995a9f27b23923d9e2d89e28eff398df1ed80e6fccd4", func := "garrison/garrisonlaw15.ImageEmpty", spec := "imageEmpty", inPlace := ["internal/bytealg.CountString", "internal/bytealg.IndexByteString", "internal/bytealg.IndexString"], unfollowed := true, recurses := true, named := ["unicode/utf8.first", "unicode/utf8.acceptRanges", "internal/bytealg.MaxLen"], plainKeys := false, apart := false, laid := [("unicode/utf8.acceptRanges", laid_unicode_utf8_acceptRanges), ("unicode/utf8.first", laid_unicode_utf8_first)], narrowed := true }
def ImageEmptyUptoSaid : Prop := imageEmptyUptoRow.holds Tryz.pinned (OpenSpec.upto imageEmptySpec)

end Rows
end Go.Proofs.YtgelbhclfnpedaaGreatDoor
