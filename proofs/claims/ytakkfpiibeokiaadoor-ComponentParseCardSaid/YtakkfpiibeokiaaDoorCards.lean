/-
  DERIVED. GIVEN WITH THE SEED: THE CARDS: each row of YtakkfpiibeokiaaDoorRows.lean that lists a variable, with what it lists TIED to the program's text (the seventh form; the later family's looks); each row that meets fmt, with fmt's text TOLD by the authors' own Lean function (tested against real Go, not proved from fmt's source: count such statements apart). THE CARD IS WHAT COUNTS. Prove the row's statement (the work); the ties are given (YtakkfpiibeokiaaDoorTie.lean); close each card by the builder's one call (the guide's Derived/Test/ToyasCard.lean, 'card_holds'). Laid BY PROGRAM, IN A SANDBOX (cutbox-door.mjs). By AI agents, Wed Nov 11 2026. No macro, syntax, notation, axiom, sorry.
-/
import Derived.Test.YtakkfpiibeokiaaDoorRows
import GoSem.ClaimSeven
namespace Go.Proofs.YtakkfpiibeokiaaDoor
namespace Rows

/-- THE TIED CARD OF 'waypointlaw18.SegmentValid'. -/
def segmentValidCard : Claim7 := { stood := { row := segmentValidRow, standIns := [], harness := (true, "dc0ccd1f067524479a82765ff0e11a75fb859921f6e61d43fe87183226c75877"), looks := true }, kinds := [], alts := [], laidByText := true, laidKinds := [.data, .data, .data], laidTests := true, laidLooks := .later }
def SegmentValidCardSaid : Prop := Claim7.holds Tryd.pinned (.plain (OpenSpec.ofChange segmentValidSpec)) segmentValidCard

/-- THE TIED CARD OF 'waypointlaw18.SegmentEnds'. -/
def segmentEndsCard : Claim7 := { stood := { row := segmentEndsRow, standIns := [], harness := (true, "dc0ccd1f067524479a82765ff0e11a75fb859921f6e61d43fe87183226c75877"), looks := true }, kinds := [], alts := [], laidByText := true, laidKinds := [.data, .data, .data], laidTests := true, laidLooks := .later }
def SegmentEndsCardSaid : Prop := Claim7.holds Tryd.pinned (.plain (OpenSpec.ofChange segmentEndsSpec)) segmentEndsCard

/-- THE TIED CARD OF 'waypointlaw18.SegmentJoined'. -/
def segmentJoinedCard : Claim7 := { stood := { row := segmentJoinedRow, standIns := [], harness := (true, "dc0ccd1f067524479a82765ff0e11a75fb859921f6e61d43fe87183226c75877"), looks := true }, kinds := [], alts := [], laidByText := true, laidKinds := [.data, .data, .data], laidTests := true, laidLooks := .later }
def SegmentJoinedCardSaid : Prop := Claim7.holds Tryd.pinned (.plain (OpenSpec.ofChange segmentJoinedSpec)) segmentJoinedCard

/-- THE TIED CARD OF 'waypointlaw18.SegmentText'. -/
def segmentTextCard : Claim7 := { stood := { row := segmentTextRow, standIns := [], harness := (true, "dc0ccd1f067524479a82765ff0e11a75fb859921f6e61d43fe87183226c75877"), looks := true }, kinds := [], alts := [], laidByText := true, laidKinds := [.data, .data, .data, .sentinel, .sentinel], laidTests := true, laidLooks := .later }
def SegmentTextCardSaid : Prop := Claim7.holds Tryd.pinned (.plain (OpenSpec.ofChange segmentTextSpec)) segmentTextCard

/-- THE TIED CARD OF 'waypointlaw18.SegmentParse'. -/
def segmentParseCard : Claim7 := { stood := { row := segmentParseRow, standIns := [], harness := (true, "dc0ccd1f067524479a82765ff0e11a75fb859921f6e61d43fe87183226c75877"), looks := true }, kinds := [], alts := [], laidByText := true, laidKinds := [.data, .data, .data, .sentinel, .sentinel], laidTests := true, laidLooks := .later }
def SegmentParseCardSaid : Prop := Claim7.holds Tryd.pinned (.plain (OpenSpec.ofChange segmentParseSpec)) segmentParseCard

/-- THE TIED CARD OF 'waypointlaw18.SegmentList'. -/
def segmentListCard : Claim7 := { stood := { row := segmentListRow, standIns := [], harness := (true, "dc0ccd1f067524479a82765ff0e11a75fb859921f6e61d43fe87183226c75877"), looks := true }, kinds := [], alts := [], laidByText := true, laidKinds := [.data, .data, .data, .data, .sentinel, .sentinel, .pinned], laidTests := true, laidLooks := .later }
def SegmentListCardSaid : Prop := Claim7.holds Tryd.pinned (.plain (OpenSpec.ofChange segmentListSpec)) segmentListCard

/-- THE TIED CARD OF 'waypointlaw18.SegmentParseList'. -/
def segmentParseListCard : Claim7 := { stood := { row := segmentParseListRow, standIns := [], harness := (true, "dc0ccd1f067524479a82765ff0e11a75fb859921f6e61d43fe87183226c75877"), looks := true }, kinds := [], alts := [], laidByText := true, laidKinds := [.data, .data, .data, .data, .sentinel, .sentinel, .pinned], laidTests := true, laidLooks := .later }
def SegmentParseListCardSaid : Prop := Claim7.holds Tryd.pinned (.plain (OpenSpec.ofChange segmentParseListSpec)) segmentParseListCard

/-- THE TIED CARD OF 'waypointlaw09.TopologyText'. -/
def topologyTextCard : Claim7 := { stood := { row := topologyTextRow, standIns := [], harness := (true, "dc0ccd1f067524479a82765ff0e11a75fb859921f6e61d43fe87183226c75877"), looks := true }, kinds := [], alts := [], laidByText := true, laidKinds := [.data, .data, .data, .data, .sentinel, .sentinel, .listed, .data, .pinned], laidTests := true, laidLooks := .later }
def TopologyTextCardSaid : Prop := Claim7.holds Tryd.pinned (.plain (OpenSpec.ofChange topologyTextSpec)) topologyTextCard

/-- THE TIED CARD OF 'waypointlaw09.TopologyParse'. -/
def topologyParseCard : Claim7 := { stood := { row := topologyParseRow, standIns := [], harness := (true, "dc0ccd1f067524479a82765ff0e11a75fb859921f6e61d43fe87183226c75877"), looks := true }, kinds := [], alts := [], laidByText := true, laidKinds := [.data, .data, .data, .data, .sentinel, .sentinel, .listed, .data, .pinned], laidTests := true, laidLooks := .later }
def TopologyParseCardSaid : Prop := Claim7.holds Tryd.pinned (.plain (OpenSpec.ofChange topologyParseSpec)) topologyParseCard

/-- THE TIED CARD OF 'waypointlaw10.ComponentText'. -/
def componentTextCard : Claim7 := { stood := { row := componentTextRow, standIns := [], harness := (true, "dc0ccd1f067524479a82765ff0e11a75fb859921f6e61d43fe87183226c75877"), looks := true }, kinds := [], alts := [], laidByText := true, laidKinds := [.data, .data, .data, .sentinel, .sentinel], laidTests := true, laidLooks := .later }
def ComponentTextCardSaid : Prop := Claim7.holds Tryd.pinned (.plain (OpenSpec.ofChange componentTextSpec)) componentTextCard

/-- THE TIED CARD OF 'waypointlaw10.ComponentParse'. -/
def componentParseCard : Claim7 := { stood := { row := componentParseRow, standIns := [], harness := (true, "dc0ccd1f067524479a82765ff0e11a75fb859921f6e61d43fe87183226c75877"), looks := true }, kinds := [], alts := [], laidByText := true, laidKinds := [.data, .data, .data, .sentinel, .sentinel], laidTests := true, laidLooks := .later }
def ComponentParseCardSaid : Prop := Claim7.holds Tryd.pinned (.plain (OpenSpec.ofChange componentParseSpec)) componentParseCard

/-- THE SECOND FORM's CARD OF 'waypointlaw18.SegmentValid'. -/
def segmentValidUptoCard : Claim7 := { stood := { row := segmentValidUptoRow, standIns := [], harness := (true, "dc0ccd1f067524479a82765ff0e11a75fb859921f6e61d43fe87183226c75877"), looks := true }, kinds := [], alts := [], laidByText := true, laidKinds := [.data, .data, .data], laidTests := true, laidLooks := .later }
def SegmentValidUptoCardSaid : Prop := Claim7.holds Tryd.pinned (.plain (OpenSpec.upto segmentValidSpec)) segmentValidUptoCard

/-- THE SECOND FORM's CARD OF 'waypointlaw18.SegmentEnds'. -/
def segmentEndsUptoCard : Claim7 := { stood := { row := segmentEndsUptoRow, standIns := [], harness := (true, "dc0ccd1f067524479a82765ff0e11a75fb859921f6e61d43fe87183226c75877"), looks := true }, kinds := [], alts := [], laidByText := true, laidKinds := [.data, .data, .data], laidTests := true, laidLooks := .later }
def SegmentEndsUptoCardSaid : Prop := Claim7.holds Tryd.pinned (.plain (OpenSpec.upto segmentEndsSpec)) segmentEndsUptoCard

/-- THE SECOND FORM's CARD OF 'waypointlaw18.SegmentJoined'. -/
def segmentJoinedUptoCard : Claim7 := { stood := { row := segmentJoinedUptoRow, standIns := [], harness := (true, "dc0ccd1f067524479a82765ff0e11a75fb859921f6e61d43fe87183226c75877"), looks := true }, kinds := [], alts := [], laidByText := true, laidKinds := [.data, .data, .data], laidTests := true, laidLooks := .later }
def SegmentJoinedUptoCardSaid : Prop := Claim7.holds Tryd.pinned (.plain (OpenSpec.upto segmentJoinedSpec)) segmentJoinedUptoCard

/-- THE SECOND FORM's CARD OF 'waypointlaw18.SegmentText'. -/
def segmentTextUptoCard : Claim7 := { stood := { row := segmentTextUptoRow, standIns := [], harness := (true, "dc0ccd1f067524479a82765ff0e11a75fb859921f6e61d43fe87183226c75877"), looks := true }, kinds := [], alts := [], laidByText := true, laidKinds := [.data, .data, .data, .sentinel, .sentinel], laidTests := true, laidLooks := .later }
def SegmentTextUptoCardSaid : Prop := Claim7.holds Tryd.pinned (.plain (OpenSpec.upto segmentTextSpec)) segmentTextUptoCard

/-- THE SECOND FORM's CARD OF 'waypointlaw18.SegmentParse'. -/
def segmentParseUptoCard : Claim7 := { stood := { row := segmentParseUptoRow, standIns := [], harness := (true, "dc0ccd1f067524479a82765ff0e11a75fb859921f6e61d43fe87183226c75877"), looks := true }, kinds := [], alts := [], laidByText := true, laidKinds := [.data, .data, .data, .sentinel, .sentinel], laidTests := true, laidLooks := .later }
def SegmentParseUptoCardSaid : Prop := Claim7.holds Tryd.pinned (.plain (OpenSpec.upto segmentParseSpec)) segmentParseUptoCard

/-- THE SECOND FORM's CARD OF 'waypointlaw18.SegmentList'. -/
def segmentListUptoCard : Claim7 := { stood := { row := segmentListUptoRow, standIns := [], harness := (true, "dc0ccd1f067524479a82765ff0e11a75fb859921f6e61d43fe87183226c75877"), looks := true }, kinds := [], alts := [], laidByText := true, laidKinds := [.data, .data, .data, .data, .sentinel, .sentinel, .pinned], laidTests := true, laidLooks := .later }
def SegmentListUptoCardSaid : Prop := Claim7.holds Tryd.pinned (.plain (OpenSpec.upto segmentListSpec)) segmentListUptoCard

/-- THE SECOND FORM's CARD OF 'waypointlaw18.SegmentParseList'. -/
def segmentParseListUptoCard : Claim7 := { stood := { row := segmentParseListUptoRow, standIns := [], harness := (true, "dc0ccd1f067524479a82765ff0e11a75fb859921f6e61d43fe87183226c75877"), looks := true }, kinds := [], alts := [], laidByText := true, laidKinds := [.data, .data, .data, .data, .sentinel, .sentinel, .pinned], laidTests := true, laidLooks := .later }
def SegmentParseListUptoCardSaid : Prop := Claim7.holds Tryd.pinned (.plain (OpenSpec.upto segmentParseListSpec)) segmentParseListUptoCard

/-- THE SECOND FORM's CARD OF 'waypointlaw09.TopologyText'. -/
def topologyTextUptoCard : Claim7 := { stood := { row := topologyTextUptoRow, standIns := [], harness := (true, "dc0ccd1f067524479a82765ff0e11a75fb859921f6e61d43fe87183226c75877"), looks := true }, kinds := [], alts := [], laidByText := true, laidKinds := [.data, .data, .data, .data, .sentinel, .sentinel, .listed, .data, .pinned], laidTests := true, laidLooks := .later }
def TopologyTextUptoCardSaid : Prop := Claim7.holds Tryd.pinned (.plain (OpenSpec.upto topologyTextSpec)) topologyTextUptoCard

/-- THE SECOND FORM's CARD OF 'waypointlaw09.TopologyParse'. -/
def topologyParseUptoCard : Claim7 := { stood := { row := topologyParseUptoRow, standIns := [], harness := (true, "dc0ccd1f067524479a82765ff0e11a75fb859921f6e61d43fe87183226c75877"), looks := true }, kinds := [], alts := [], laidByText := true, laidKinds := [.data, .data, .data, .data, .sentinel, .sentinel, .listed, .data, .pinned], laidTests := true, laidLooks := .later }
def TopologyParseUptoCardSaid : Prop := Claim7.holds Tryd.pinned (.plain (OpenSpec.upto topologyParseSpec)) topologyParseUptoCard

/-- THE SECOND FORM's CARD OF 'waypointlaw10.ComponentText'. -/
def componentTextUptoCard : Claim7 := { stood := { row := componentTextUptoRow, standIns := [], harness := (true, "dc0ccd1f067524479a82765ff0e11a75fb859921f6e61d43fe87183226c75877"), looks := true }, kinds := [], alts := [], laidByText := true, laidKinds := [.data, .data, .data, .sentinel, .sentinel], laidTests := true, laidLooks := .later }
def ComponentTextUptoCardSaid : Prop := Claim7.holds Tryd.pinned (.plain (OpenSpec.upto componentTextSpec)) componentTextUptoCard

/-- THE SECOND FORM's CARD OF 'waypointlaw10.ComponentParse'. -/
def componentParseUptoCard : Claim7 := { stood := { row := componentParseUptoRow, standIns := [], harness := (true, "dc0ccd1f067524479a82765ff0e11a75fb859921f6e61d43fe87183226c75877"), looks := true }, kinds := [], alts := [], laidByText := true, laidKinds := [.data, .data, .data, .sentinel, .sentinel], laidTests := true, laidLooks := .later }
def ComponentParseUptoCardSaid : Prop := Claim7.holds Tryd.pinned (.plain (OpenSpec.upto componentParseSpec)) componentParseUptoCard
end Rows
end Go.Proofs.YtakkfpiibeokiaaDoor
