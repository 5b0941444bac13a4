/-
  DERIVED. GIVEN WITH THE SEED: THE CARDS: each row of YtnlelalkkabihaaDoorRows.lean that lists a variable, with what it lists TIED to the program's text (the seventh form; the later family's looks); each row that meets fmt, with fmt's text TOLD by the authors' own Lean function (tested against real Go, not proved from fmt's source: count such statements apart). THE CARD IS WHAT COUNTS. Prove the row's statement (the work); the ties are given (YtnlelalkkabihaaDoorTie.lean); close each card by the builder's one call (the guide's Derived/Test/ToyasCard.lean, 'card_holds'). Laid BY PROGRAM, IN A SANDBOX (cutbox-door.mjs). By AI agents, Wed Nov 11 2026. No macro, syntax, notation, axiom, sorry.
-/
import Derived.Test.YtnlelalkkabihaaDoorRows
import GoSem.ClaimSeven
namespace Go.Proofs.YtnlelalkkabihaaDoor
namespace Rows

/-- THE TIED CARD OF 'waypointlaw09.TopologyPath'. -/
def topologyPathCard : Claim7 := { stood := { row := topologyPathRow, standIns := [], harness := (true, "41db66e580fbfa2c62bcb71c15a8b552d703e71ec8647df97e4be05a0cbce20d"), looks := false }, kinds := [], alts := [], laidByText := true, laidKinds := [.data, .data, .data], laidTests := true, laidLooks := .later }
def TopologyPathCardSaid : Prop := Claim7.holds Tryd.pinned (.plain (OpenSpec.ofChange topologyPathSpec)) topologyPathCard

/-- THE TIED CARD OF 'waypointlaw09.TopologyJoined'. -/
def topologyJoinedCard : Claim7 := { stood := { row := topologyJoinedRow, standIns := [], harness := (true, "41db66e580fbfa2c62bcb71c15a8b552d703e71ec8647df97e4be05a0cbce20d"), looks := false }, kinds := [], alts := [], laidByText := true, laidKinds := [.data, .data, .data], laidTests := true, laidLooks := .later }
def TopologyJoinedCardSaid : Prop := Claim7.holds Tryd.pinned (.plain (OpenSpec.ofChange topologyJoinedSpec)) topologyJoinedCard

/-- THE TIED CARD OF 'waypointlaw09.TopologyTwins'. -/
def topologyTwinsCard : Claim7 := { stood := { row := topologyTwinsRow, standIns := [], harness := (true, "41db66e580fbfa2c62bcb71c15a8b552d703e71ec8647df97e4be05a0cbce20d"), looks := false }, kinds := [], alts := [], laidByText := true, laidKinds := [.data, .data, .data], laidTests := true, laidLooks := .later }
def TopologyTwinsCardSaid : Prop := Claim7.holds Tryd.pinned (.plain (OpenSpec.ofChange topologyTwinsSpec)) topologyTwinsCard

/-- THE TIED CARD OF 'waypointlaw09.TopologyArcs'. -/
def topologyArcsCard : Claim7 := { stood := { row := topologyArcsRow, standIns := [], harness := (true, "41db66e580fbfa2c62bcb71c15a8b552d703e71ec8647df97e4be05a0cbce20d"), looks := false }, kinds := [], alts := [], laidByText := true, laidKinds := [.data, .data, .data], laidTests := true, laidLooks := .later }
def TopologyArcsCardSaid : Prop := Claim7.holds Tryd.pinned (.plain (OpenSpec.ofChange topologyArcsSpec)) topologyArcsCard

/-- THE TIED CARD OF 'waypointlaw09.TopologyValid'. -/
def topologyValidCard : Claim7 := { stood := { row := topologyValidRow, standIns := [], harness := (true, "41db66e580fbfa2c62bcb71c15a8b552d703e71ec8647df97e4be05a0cbce20d"), looks := false }, kinds := [], alts := [], laidByText := true, laidKinds := [.data, .data, .data], laidTests := true, laidLooks := .later }
def TopologyValidCardSaid : Prop := Claim7.holds Tryd.pinned (.plain (OpenSpec.ofChange topologyValidSpec)) topologyValidCard

/-- THE TIED CARD OF 'waypointlaw10.ComponentMask'. -/
def componentMaskCard : Claim7 := { stood := { row := componentMaskRow, standIns := [], harness := (true, "41db66e580fbfa2c62bcb71c15a8b552d703e71ec8647df97e4be05a0cbce20d"), looks := false }, kinds := [], alts := [], laidByText := true, laidKinds := [.data, .data, .data], laidTests := true, laidLooks := .later }
def ComponentMaskCardSaid : Prop := Claim7.holds Tryd.pinned (.plain (OpenSpec.ofChange componentMaskSpec)) componentMaskCard

/-- THE TIED CARD OF 'waypointlaw10.ComponentUnion'. -/
def componentUnionCard : Claim7 := { stood := { row := componentUnionRow, standIns := [], harness := (true, "41db66e580fbfa2c62bcb71c15a8b552d703e71ec8647df97e4be05a0cbce20d"), looks := false }, kinds := [], alts := [], laidByText := true, laidKinds := [.data, .data, .data], laidTests := true, laidLooks := .later }
def ComponentUnionCardSaid : Prop := Claim7.holds Tryd.pinned (.plain (OpenSpec.ofChange componentUnionSpec)) componentUnionCard

/-- THE TIED CARD OF 'waypointlaw10.ComponentAll'. -/
def componentAllCard : Claim7 := { stood := { row := componentAllRow, standIns := [], harness := (true, "41db66e580fbfa2c62bcb71c15a8b552d703e71ec8647df97e4be05a0cbce20d"), looks := false }, kinds := [], alts := [], laidByText := true, laidKinds := [.data, .data, .data], laidTests := true, laidLooks := .later }
def ComponentAllCardSaid : Prop := Claim7.holds Tryd.pinned (.plain (OpenSpec.ofChange componentAllSpec)) componentAllCard

/-- THE TIED CARD OF 'waypointlaw10.ComponentWithin'. -/
def componentWithinCard : Claim7 := { stood := { row := componentWithinRow, standIns := [], harness := (true, "41db66e580fbfa2c62bcb71c15a8b552d703e71ec8647df97e4be05a0cbce20d"), looks := false }, kinds := [], alts := [], laidByText := true, laidKinds := [.data, .data, .data], laidTests := true, laidLooks := .later }
def ComponentWithinCardSaid : Prop := Claim7.holds Tryd.pinned (.plain (OpenSpec.ofChange componentWithinSpec)) componentWithinCard

/-- THE TIED CARD OF 'waypointlaw10.ComponentOrder'. -/
def componentOrderCard : Claim7 := { stood := { row := componentOrderRow, standIns := [], harness := (true, "41db66e580fbfa2c62bcb71c15a8b552d703e71ec8647df97e4be05a0cbce20d"), looks := false }, kinds := [], alts := [], laidByText := true, laidKinds := [.data, .data, .data], laidTests := true, laidLooks := .later }
def ComponentOrderCardSaid : Prop := Claim7.holds Tryd.pinned (.plain (OpenSpec.ofChange componentOrderSpec)) componentOrderCard

/-- THE SECOND FORM's CARD OF 'waypointlaw09.TopologyPath'. -/
def topologyPathUptoCard : Claim7 := { stood := { row := topologyPathUptoRow, standIns := [], harness := (true, "41db66e580fbfa2c62bcb71c15a8b552d703e71ec8647df97e4be05a0cbce20d"), looks := false }, kinds := [], alts := [], laidByText := true, laidKinds := [.data, .data, .data], laidTests := true, laidLooks := .later }
def TopologyPathUptoCardSaid : Prop := Claim7.holds Tryd.pinned (.plain (OpenSpec.upto topologyPathSpec)) topologyPathUptoCard

/-- THE SECOND FORM's CARD OF 'waypointlaw09.TopologyJoined'. -/
def topologyJoinedUptoCard : Claim7 := { stood := { row := topologyJoinedUptoRow, standIns := [], harness := (true, "41db66e580fbfa2c62bcb71c15a8b552d703e71ec8647df97e4be05a0cbce20d"), looks := false }, kinds := [], alts := [], laidByText := true, laidKinds := [.data, .data, .data], laidTests := true, laidLooks := .later }
def TopologyJoinedUptoCardSaid : Prop := Claim7.holds Tryd.pinned (.plain (OpenSpec.upto topologyJoinedSpec)) topologyJoinedUptoCard

/-- THE SECOND FORM's CARD OF 'waypointlaw09.TopologyTwins'. -/
def topologyTwinsUptoCard : Claim7 := { stood := { row := topologyTwinsUptoRow, standIns := [], harness := (true, "41db66e580fbfa2c62bcb71c15a8b552d703e71ec8647df97e4be05a0cbce20d"), looks := false }, kinds := [], alts := [], laidByText := true, laidKinds := [.data, .data, .data], laidTests := true, laidLooks := .later }
def TopologyTwinsUptoCardSaid : Prop := Claim7.holds Tryd.pinned (.plain (OpenSpec.upto topologyTwinsSpec)) topologyTwinsUptoCard

/-- THE SECOND FORM's CARD OF 'waypointlaw09.TopologyArcs'. -/
def topologyArcsUptoCard : Claim7 := { stood := { row := topologyArcsUptoRow, standIns := [], harness := (true, "41db66e580fbfa2c62bcb71c15a8b552d703e71ec8647df97e4be05a0cbce20d"), looks := false }, kinds := [], alts := [], laidByText := true, laidKinds := [.data, .data, .data], laidTests := true, laidLooks := .later }
def TopologyArcsUptoCardSaid : Prop := Claim7.holds Tryd.pinned (.plain (OpenSpec.upto topologyArcsSpec)) topologyArcsUptoCard

/-- THE SECOND FORM's CARD OF 'waypointlaw09.TopologyValid'. -/
def topologyValidUptoCard : Claim7 := { stood := { row := topologyValidUptoRow, standIns := [], harness := (true, "41db66e580fbfa2c62bcb71c15a8b552d703e71ec8647df97e4be05a0cbce20d"), looks := false }, kinds := [], alts := [], laidByText := true, laidKinds := [.data, .data, .data], laidTests := true, laidLooks := .later }
def TopologyValidUptoCardSaid : Prop := Claim7.holds Tryd.pinned (.plain (OpenSpec.upto topologyValidSpec)) topologyValidUptoCard

/-- THE SECOND FORM's CARD OF 'waypointlaw10.ComponentMask'. -/
def componentMaskUptoCard : Claim7 := { stood := { row := componentMaskUptoRow, standIns := [], harness := (true, "41db66e580fbfa2c62bcb71c15a8b552d703e71ec8647df97e4be05a0cbce20d"), looks := false }, kinds := [], alts := [], laidByText := true, laidKinds := [.data, .data, .data], laidTests := true, laidLooks := .later }
def ComponentMaskUptoCardSaid : Prop := Claim7.holds Tryd.pinned (.plain (OpenSpec.upto componentMaskSpec)) componentMaskUptoCard

/-- THE SECOND FORM's CARD OF 'waypointlaw10.ComponentUnion'. -/
def componentUnionUptoCard : Claim7 := { stood := { row := componentUnionUptoRow, standIns := [], harness := (true, "41db66e580fbfa2c62bcb71c15a8b552d703e71ec8647df97e4be05a0cbce20d"), looks := false }, kinds := [], alts := [], laidByText := true, laidKinds := [.data, .data, .data], laidTests := true, laidLooks := .later }
def ComponentUnionUptoCardSaid : Prop := Claim7.holds Tryd.pinned (.plain (OpenSpec.upto componentUnionSpec)) componentUnionUptoCard

/-- THE SECOND FORM's CARD OF 'waypointlaw10.ComponentAll'. -/
def componentAllUptoCard : Claim7 := { stood := { row := componentAllUptoRow, standIns := [], harness := (true, "41db66e580fbfa2c62bcb71c15a8b552d703e71ec8647df97e4be05a0cbce20d"), looks := false }, kinds := [], alts := [], laidByText := true, laidKinds := [.data, .data, .data], laidTests := true, laidLooks := .later }
def ComponentAllUptoCardSaid : Prop := Claim7.holds Tryd.pinned (.plain (OpenSpec.upto componentAllSpec)) componentAllUptoCard

/-- THE SECOND FORM's CARD OF 'waypointlaw10.ComponentWithin'. -/
def componentWithinUptoCard : Claim7 := { stood := { row := componentWithinUptoRow, standIns := [], harness := (true, "41db66e580fbfa2c62bcb71c15a8b552d703e71ec8647df97e4be05a0cbce20d"), looks := false }, kinds := [], alts := [], laidByText := true, laidKinds := [.data, .data, .data], laidTests := true, laidLooks := .later }
def ComponentWithinUptoCardSaid : Prop := Claim7.holds Tryd.pinned (.plain (OpenSpec.upto componentWithinSpec)) componentWithinUptoCard

/-- THE SECOND FORM's CARD OF 'waypointlaw10.ComponentOrder'. -/
def componentOrderUptoCard : Claim7 := { stood := { row := componentOrderUptoRow, standIns := [], harness := (true, "41db66e580fbfa2c62bcb71c15a8b552d703e71ec8647df97e4be05a0cbce20d"), looks := false }, kinds := [], alts := [], laidByText := true, laidKinds := [.data, .data, .data], laidTests := true, laidLooks := .later }
def ComponentOrderUptoCardSaid : Prop := Claim7.holds Tryd.pinned (.plain (OpenSpec.upto componentOrderSpec)) componentOrderUptoCard
end Rows
end Go.Proofs.YtnlelalkkabihaaDoor
