/-
  NARROWER THAN 'FOR EVERY INPUT', by the rows' own cells (each row's printed sentence says how): TopologyPath: laid · TopologyJoined: laid · TopologyTwins: laid · TopologyArcs: laid · TopologyValid: laid · ComponentMask: laid · ComponentUnion: laid · ComponentAll: laid · ComponentWithin: laid · ComponentOrder: laid.
  DERIVED. THE GIVEN ROWS OF THIS SEAT. 10 by the template 'for every input the law returns true; each argument reads behind the call as it read before'; 0 by the template 'total and deterministic' (their statements: YtnlelalkkabihaaDoorTotals.lean).
  GIVEN WITH THE SEED: the statements are not yours to turn. If you find one false, say at which input.
  Laid BY PROGRAM, IN A SANDBOX (cutbox-rows.mjs): the forced cells as the released guide's own fill.sh prints them over the translation 1e5e80a1b31809fe… (all of the seat's roots in one cut). By AI agents, Wed Nov 11 2026. No macro, syntax, notation, axiom, sorry.
-/
import Derived.Test.YtnlelalkkabihaaDoorChecked
import GoSem.Claim
import GoSem.ClaimJoined
import GoSem.ClaimMapViews
import Derived.JoinedTies
import Derived.KernelRfl
namespace Go.Proofs.YtnlelalkkabihaaDoor
/- THE CELL 'sum', in the pinned program and in every row, IS THE sha256 OF THE DUMP (.gsa) THAT YtnlelalkkabihaaDoorProg.lean LOADS. Nothing in Lean hashes anything: it is a label: what it is worth is what the hold of that sum in a sandbox is worth. -/
noncomputable def Tryd.pinned : Pinned := { name := "ytnlelalkkabihaadoor", sum := "1e5e80a1b31809fecf2c26795be3abc7f4af5b211e7e14f347bad4b640172a89", checked := Tryd.checked }
namespace Rows
def none {H : Type} : Left H := { results := [], args := [] }

/- WHAT THE LISTED PACKAGE-LEVEL VARIABLES READ AS WHEN THE CALL BEGINS. Each datum BY PROGRAM (the guide's laid-datum.mjs) off the statement by which the dump's own 'gosem.cut.vars' lays the variable. In a bare row this is a premise. The card (YtnlelalkkabihaaDoorCards.lean) ties it to the program's text. -/
def laid_math_bits_deBruijn32tab {H : Type} : DataW H := .agg [.lit (.int .u8 0), .lit (.int .u8 1), .lit (.int .u8 28), .lit (.int .u8 2), .lit (.int .u8 29), .lit (.int .u8 14), .lit (.int .u8 24), .lit (.int .u8 3), .lit (.int .u8 30), .lit (.int .u8 22), .lit (.int .u8 20), .lit (.int .u8 15), .lit (.int .u8 25), .lit (.int .u8 17), .lit (.int .u8 4), .lit (.int .u8 8), .lit (.int .u8 31), .lit (.int .u8 27), .lit (.int .u8 13), .lit (.int .u8 23), .lit (.int .u8 21), .lit (.int .u8 19), .lit (.int .u8 16), .lit (.int .u8 7), .lit (.int .u8 26), .lit (.int .u8 12), .lit (.int .u8 18), .lit (.int .u8 6), .lit (.int .u8 11), .lit (.int .u8 5), .lit (.int .u8 10), .lit (.int .u8 9)]
def laid_math_bits_deBruijn64tab {H : Type} : DataW H := .agg [.lit (.int .u8 0), .lit (.int .u8 1), .lit (.int .u8 56), .lit (.int .u8 2), .lit (.int .u8 57), .lit (.int .u8 49), .lit (.int .u8 28), .lit (.int .u8 3), .lit (.int .u8 61), .lit (.int .u8 58), .lit (.int .u8 42), .lit (.int .u8 50), .lit (.int .u8 38), .lit (.int .u8 29), .lit (.int .u8 17), .lit (.int .u8 4), .lit (.int .u8 62), .lit (.int .u8 47), .lit (.int .u8 59), .lit (.int .u8 36), .lit (.int .u8 45), .lit (.int .u8 43), .lit (.int .u8 51), .lit (.int .u8 22), .lit (.int .u8 53), .lit (.int .u8 39), .lit (.int .u8 33), .lit (.int .u8 30), .lit (.int .u8 24), .lit (.int .u8 18), .lit (.int .u8 12), .lit (.int .u8 5), .lit (.int .u8 63), .lit (.int .u8 55), .lit (.int .u8 48), .lit (.int .u8 27), .lit (.int .u8 60), .lit (.int .u8 41), .lit (.int .u8 37), .lit (.int .u8 16), .lit (.int .u8 46), .lit (.int .u8 35), .lit (.int .u8 44), .lit (.int .u8 21), .lit (.int .u8 52), .lit (.int .u8 32), .lit (.int .u8 23), .lit (.int .u8 11), .lit (.int .u8 54), .lit (.int .u8 26), .lit (.int .u8 40), .lit (.int .u8 15), .lit (.int .u8 34), .lit (.int .u8 20), .lit (.int .u8 31), .lit (.int .u8 10), .lit (.int .u8 25), .lit (.int .u8 14), .lit (.int .u8 19), .lit (.int .u8 9), .lit (.int .u8 13), .lit (.int .u8 8), .lit (.int .u8 7), .lit (.int .u8 6)]
def laid_internal_strconv_uint64pow10 {H : Type} : DataW H := .agg [.lit (.int .u64 1), .lit (.int .u64 10), .lit (.int .u64 100), .lit (.int .u64 1000), .lit (.int .u64 10000), .lit (.int .u64 100000), .lit (.int .u64 1000000), .lit (.int .u64 10000000), .lit (.int .u64 100000000), .lit (.int .u64 1000000000), .lit (.int .u64 10000000000), .lit (.int .u64 100000000000), .lit (.int .u64 1000000000000), .lit (.int .u64 10000000000000), .lit (.int .u64 100000000000000), .lit (.int .u64 1000000000000000), .lit (.int .u64 10000000000000000), .lit (.int .u64 100000000000000000), .lit (.int .u64 1000000000000000000), .lit (.int .u64 10000000000000000000)]

/-- 'waypointlaw09.TopologyPath': WHATEVER THE INPUT: true; the input reads as it did. -/
def topologyPathSpec : ChangeSpec := { name := "topologyPath", fn := fun _ => fun
  | [d1, d2, d3] => { results := [.lit (.bool true)], args := [d1, d2, d3] }
  | _ => none }
def topologyPathRow : OpenClaim := { program := "ytnlelalkkabihaadoor", sum := "1e5e80a1b31809fecf2c26795be3abc7f4af5b211e7e14f347bad4b640172a89", func := "waypoint/waypointlaw09.TopologyPath", spec := "topologyPath", inPlace := ["internal/abi.NoEscape"], named := ["internal/strconv.uint64pow10", "math/bits.deBruijn32tab", "math/bits.deBruijn64tab"], apart := false, laid := [("math/bits.deBruijn32tab", laid_math_bits_deBruijn32tab), ("math/bits.deBruijn64tab", laid_math_bits_deBruijn64tab), ("internal/strconv.uint64pow10", laid_internal_strconv_uint64pow10)] }
def TopologyPathSaid : Prop := topologyPathRow.holds Tryd.pinned (OpenSpec.ofChange topologyPathSpec)

/-- ITS FALSE NEIGHBOUR: 'it returns false'. Refute it at one input. -/
def topologyPathWrong : ChangeSpec := { name := "topologyPath", fn := fun _ => fun
  | [d1, d2, d3] => { results := [.lit (.bool false)], args := [d1, d2, d3] }
  | _ => none }
def TopologyPathWrongFalsely : Prop := topologyPathRow.holds Tryd.pinned (OpenSpec.ofChange topologyPathWrong)

/-- 'waypointlaw09.TopologyJoined': WHATEVER THE INPUT: true; the input reads as it did. -/
def topologyJoinedSpec : ChangeSpec := { name := "topologyJoined", fn := fun _ => fun
  | [d1, d2, d3, d4] => { results := [.lit (.bool true)], args := [d1, d2, d3, d4] }
  | _ => none }
def topologyJoinedRow : OpenClaim := { program := "ytnlelalkkabihaadoor", sum := "1e5e80a1b31809fecf2c26795be3abc7f4af5b211e7e14f347bad4b640172a89", func := "waypoint/waypointlaw09.TopologyJoined", spec := "topologyJoined", inPlace := ["internal/abi.NoEscape"], named := ["internal/strconv.uint64pow10", "math/bits.deBruijn32tab", "math/bits.deBruijn64tab"], apart := false, laid := [("math/bits.deBruijn32tab", laid_math_bits_deBruijn32tab), ("math/bits.deBruijn64tab", laid_math_bits_deBruijn64tab), ("internal/strconv.uint64pow10", laid_internal_strconv_uint64pow10)] }
def TopologyJoinedSaid : Prop := topologyJoinedRow.holds Tryd.pinned (OpenSpec.ofChange topologyJoinedSpec)

/-- ITS FALSE NEIGHBOUR: 'it returns false'. Refute it at one input. -/
def topologyJoinedWrong : ChangeSpec := { name := "topologyJoined", fn := fun _ => fun
  | [d1, d2, d3, d4] => { results := [.lit (.bool false)], args := [d1, d2, d3, d4] }
  | _ => none }
def TopologyJoinedWrongFalsely : Prop := topologyJoinedRow.holds Tryd.pinned (OpenSpec.ofChange topologyJoinedWrong)

/-- 'waypointlaw09.TopologyTwins': WHATEVER THE INPUT: true; the input reads as it did. -/
def topologyTwinsSpec : ChangeSpec := { name := "topologyTwins", fn := fun _ => fun
  | [d1, d2] => { results := [.lit (.bool true)], args := [d1, d2] }
  | _ => none }
def topologyTwinsRow : OpenClaim := { program := "ytnlelalkkabihaadoor", sum := "1e5e80a1b31809fecf2c26795be3abc7f4af5b211e7e14f347bad4b640172a89", func := "waypoint/waypointlaw09.TopologyTwins", spec := "topologyTwins", inPlace := ["internal/abi.NoEscape"], named := ["internal/strconv.uint64pow10", "math/bits.deBruijn32tab", "math/bits.deBruijn64tab"], apart := false, laid := [("math/bits.deBruijn32tab", laid_math_bits_deBruijn32tab), ("math/bits.deBruijn64tab", laid_math_bits_deBruijn64tab), ("internal/strconv.uint64pow10", laid_internal_strconv_uint64pow10)] }
def TopologyTwinsSaid : Prop := topologyTwinsRow.holds Tryd.pinned (OpenSpec.ofChange topologyTwinsSpec)

/-- ITS FALSE NEIGHBOUR: 'it returns false'. Refute it at one input. -/
def topologyTwinsWrong : ChangeSpec := { name := "topologyTwins", fn := fun _ => fun
  | [d1, d2] => { results := [.lit (.bool false)], args := [d1, d2] }
  | _ => none }
def TopologyTwinsWrongFalsely : Prop := topologyTwinsRow.holds Tryd.pinned (OpenSpec.ofChange topologyTwinsWrong)

/-- 'waypointlaw09.TopologyArcs': WHATEVER THE INPUT: true; the input reads as it did. -/
def topologyArcsSpec : ChangeSpec := { name := "topologyArcs", fn := fun _ => fun
  | [d1, d2] => { results := [.lit (.bool true)], args := [d1, d2] }
  | _ => none }
def topologyArcsRow : OpenClaim := { program := "ytnlelalkkabihaadoor", sum := "1e5e80a1b31809fecf2c26795be3abc7f4af5b211e7e14f347bad4b640172a89", func := "waypoint/waypointlaw09.TopologyArcs", spec := "topologyArcs", inPlace := ["internal/abi.NoEscape"], named := ["internal/strconv.uint64pow10", "math/bits.deBruijn32tab", "math/bits.deBruijn64tab"], apart := false, laid := [("math/bits.deBruijn32tab", laid_math_bits_deBruijn32tab), ("math/bits.deBruijn64tab", laid_math_bits_deBruijn64tab), ("internal/strconv.uint64pow10", laid_internal_strconv_uint64pow10)] }
def TopologyArcsSaid : Prop := topologyArcsRow.holds Tryd.pinned (OpenSpec.ofChange topologyArcsSpec)

/-- ITS FALSE NEIGHBOUR: 'it returns false'. Refute it at one input. -/
def topologyArcsWrong : ChangeSpec := { name := "topologyArcs", fn := fun _ => fun
  | [d1, d2] => { results := [.lit (.bool false)], args := [d1, d2] }
  | _ => none }
def TopologyArcsWrongFalsely : Prop := topologyArcsRow.holds Tryd.pinned (OpenSpec.ofChange topologyArcsWrong)

/-- 'waypointlaw09.TopologyValid': WHATEVER THE INPUT: true; the input reads as it did. -/
def topologyValidSpec : ChangeSpec := { name := "topologyValid", fn := fun _ => fun
  | [d1, d2] => { results := [.lit (.bool true)], args := [d1, d2] }
  | _ => none }
def topologyValidRow : OpenClaim := { program := "ytnlelalkkabihaadoor", sum := "1e5e80a1b31809fecf2c26795be3abc7f4af5b211e7e14f347bad4b640172a89", func := "waypoint/waypointlaw09.TopologyValid", spec := "topologyValid", inPlace := ["internal/abi.NoEscape"], named := ["internal/strconv.uint64pow10", "math/bits.deBruijn32tab", "math/bits.deBruijn64tab"], apart := false, laid := [("math/bits.deBruijn32tab", laid_math_bits_deBruijn32tab), ("math/bits.deBruijn64tab", laid_math_bits_deBruijn64tab), ("internal/strconv.uint64pow10", laid_internal_strconv_uint64pow10)] }
def TopologyValidSaid : Prop := topologyValidRow.holds Tryd.pinned (OpenSpec.ofChange topologyValidSpec)

/-- ITS FALSE NEIGHBOUR: 'it returns false'. Refute it at one input. -/
def topologyValidWrong : ChangeSpec := { name := "topologyValid", fn := fun _ => fun
  | [d1, d2] => { results := [.lit (.bool false)], args := [d1, d2] }
  | _ => none }
def TopologyValidWrongFalsely : Prop := topologyValidRow.holds Tryd.pinned (OpenSpec.ofChange topologyValidWrong)

/-- 'waypointlaw10.ComponentMask': WHATEVER THE INPUT: true; the input reads as it did. -/
def componentMaskSpec : ChangeSpec := { name := "componentMask", fn := fun _ => fun
  | [d1, d2] => { results := [.lit (.bool true)], args := [d1, d2] }
  | _ => none }
def componentMaskRow : OpenClaim := { program := "ytnlelalkkabihaadoor", sum := "1e5e80a1b31809fecf2c26795be3abc7f4af5b211e7e14f347bad4b640172a89", func := "waypoint/waypointlaw10.ComponentMask", spec := "componentMask", unfollowed := true, recurses := true, named := ["internal/strconv.uint64pow10", "math/bits.deBruijn32tab", "math/bits.deBruijn64tab"], apart := false, laid := [("math/bits.deBruijn32tab", laid_math_bits_deBruijn32tab), ("math/bits.deBruijn64tab", laid_math_bits_deBruijn64tab), ("internal/strconv.uint64pow10", laid_internal_strconv_uint64pow10)] }
def ComponentMaskSaid : Prop := componentMaskRow.holds Tryd.pinned (OpenSpec.ofChange componentMaskSpec)

/-- ITS FALSE NEIGHBOUR: 'it returns false'. Refute it at one input. -/
def componentMaskWrong : ChangeSpec := { name := "componentMask", fn := fun _ => fun
  | [d1, d2] => { results := [.lit (.bool false)], args := [d1, d2] }
  | _ => none }
def ComponentMaskWrongFalsely : Prop := componentMaskRow.holds Tryd.pinned (OpenSpec.ofChange componentMaskWrong)

/-- 'waypointlaw10.ComponentUnion': WHATEVER THE INPUT: true; the input reads as it did. -/
def componentUnionSpec : ChangeSpec := { name := "componentUnion", fn := fun _ => fun
  | [d1, d2] => { results := [.lit (.bool true)], args := [d1, d2] }
  | _ => none }
def componentUnionRow : OpenClaim := { program := "ytnlelalkkabihaadoor", sum := "1e5e80a1b31809fecf2c26795be3abc7f4af5b211e7e14f347bad4b640172a89", func := "waypoint/waypointlaw10.ComponentUnion", spec := "componentUnion", unfollowed := true, recurses := true, named := ["internal/strconv.uint64pow10", "math/bits.deBruijn32tab", "math/bits.deBruijn64tab"], apart := false, laid := [("math/bits.deBruijn32tab", laid_math_bits_deBruijn32tab), ("math/bits.deBruijn64tab", laid_math_bits_deBruijn64tab), ("internal/strconv.uint64pow10", laid_internal_strconv_uint64pow10)] }
def ComponentUnionSaid : Prop := componentUnionRow.holds Tryd.pinned (OpenSpec.ofChange componentUnionSpec)

/-- ITS FALSE NEIGHBOUR: 'it returns false'. Refute it at one input. -/
def componentUnionWrong : ChangeSpec := { name := "componentUnion", fn := fun _ => fun
  | [d1, d2] => { results := [.lit (.bool false)], args := [d1, d2] }
  | _ => none }
def ComponentUnionWrongFalsely : Prop := componentUnionRow.holds Tryd.pinned (OpenSpec.ofChange componentUnionWrong)

/-- 'waypointlaw10.ComponentAll': WHATEVER THE INPUT: true; the input reads as it did. -/
def componentAllSpec : ChangeSpec := { name := "componentAll", fn := fun _ => fun
  | [d] => { results := [.lit (.bool true)], args := [d] }
  | _ => none }
def componentAllRow : OpenClaim := { program := "ytnlelalkkabihaadoor", sum := "1e5e80a1b31809fecf2c26795be3abc7f4af5b211e7e14f347bad4b640172a89", func := "waypoint/waypointlaw10.ComponentAll", spec := "componentAll", unfollowed := true, recurses := true, named := ["internal/strconv.uint64pow10", "math/bits.deBruijn32tab", "math/bits.deBruijn64tab"], apart := false, laid := [("math/bits.deBruijn32tab", laid_math_bits_deBruijn32tab), ("math/bits.deBruijn64tab", laid_math_bits_deBruijn64tab), ("internal/strconv.uint64pow10", laid_internal_strconv_uint64pow10)] }
def ComponentAllSaid : Prop := componentAllRow.holds Tryd.pinned (OpenSpec.ofChange componentAllSpec)

/-- ITS FALSE NEIGHBOUR: 'it returns false'. Refute it at one input. -/
def componentAllWrong : ChangeSpec := { name := "componentAll", fn := fun _ => fun
  | [d] => { results := [.lit (.bool false)], args := [d] }
  | _ => none }
def ComponentAllWrongFalsely : Prop := componentAllRow.holds Tryd.pinned (OpenSpec.ofChange componentAllWrong)

/-- 'waypointlaw10.ComponentWithin': WHATEVER THE INPUT: true; the input reads as it did. -/
def componentWithinSpec : ChangeSpec := { name := "componentWithin", fn := fun _ => fun
  | [d1, d2, d3] => { results := [.lit (.bool true)], args := [d1, d2, d3] }
  | _ => none }
def componentWithinRow : OpenClaim := { program := "ytnlelalkkabihaadoor", sum := "1e5e80a1b31809fecf2c26795be3abc7f4af5b211e7e14f347bad4b640172a89", func := "waypoint/waypointlaw10.ComponentWithin", spec := "componentWithin", unfollowed := true, recurses := true, named := ["internal/strconv.uint64pow10", "math/bits.deBruijn32tab", "math/bits.deBruijn64tab"], apart := false, laid := [("math/bits.deBruijn32tab", laid_math_bits_deBruijn32tab), ("math/bits.deBruijn64tab", laid_math_bits_deBruijn64tab), ("internal/strconv.uint64pow10", laid_internal_strconv_uint64pow10)] }
def ComponentWithinSaid : Prop := componentWithinRow.holds Tryd.pinned (OpenSpec.ofChange componentWithinSpec)

/-- ITS FALSE NEIGHBOUR: 'it returns false'. Refute it at one input. -/
def componentWithinWrong : ChangeSpec := { name := "componentWithin", fn := fun _ => fun
  | [d1, d2, d3] => { results := [.lit (.bool false)], args := [d1, d2, d3] }
  | _ => none }
def ComponentWithinWrongFalsely : Prop := componentWithinRow.holds Tryd.pinned (OpenSpec.ofChange componentWithinWrong)

/-- 'waypointlaw10.ComponentOrder': WHATEVER THE INPUT: true; the input reads as it did. -/
def componentOrderSpec : ChangeSpec := { name := "componentOrder", fn := fun _ => fun
  | [d1, d2, d3] => { results := [.lit (.bool true)], args := [d1, d2, d3] }
  | _ => none }
def componentOrderRow : OpenClaim := { program := "ytnlelalkkabihaadoor", sum := "1e5e80a1b31809fecf2c26795be3abc7f4af5b211e7e14f347bad4b640172a89", func := "waypoint/waypointlaw10.ComponentOrder", spec := "componentOrder", unfollowed := true, recurses := true, named := ["internal/strconv.uint64pow10", "math/bits.deBruijn32tab", "math/bits.deBruijn64tab"], apart := false, laid := [("math/bits.deBruijn32tab", laid_math_bits_deBruijn32tab), ("math/bits.deBruijn64tab", laid_math_bits_deBruijn64tab), ("internal/strconv.uint64pow10", laid_internal_strconv_uint64pow10)] }
def ComponentOrderSaid : Prop := componentOrderRow.holds Tryd.pinned (OpenSpec.ofChange componentOrderSpec)

/-- ITS FALSE NEIGHBOUR: 'it returns false'. Refute it at one input. -/
def componentOrderWrong : ChangeSpec := { name := "componentOrder", fn := fun _ => fun
  | [d1, d2, d3] => { results := [.lit (.bool false)], args := [d1, d2, d3] }
  | _ => none }
def ComponentOrderWrongFalsely : Prop := componentOrderRow.holds Tryd.pinned (OpenSpec.ofChange componentOrderWrong)

/- THE SECOND FORM. 'bulk': how many values and letters a reading holds, each counted each time it is reached (what is shared counts as often as it is met; a slice's spare places count too). A statement '..UptoSaid' is the law's where the arguments, and the package variables that the reading takes, are together of bulk at most 1048576: NARROWER than '..Said'. Prove '..Said' where nothing that the law and all that it calls make is longer than what came in: it says more and counts as full. Else prove '..UptoSaid'. A law counts once. -/
mutual
def uptoBulk {H : Type} : DataW H → Nat
  | .lit (.string bytes) => bytes.length + 1
  | .lit _ => 1
  | .nil => 1
  | .ptr d => uptoBulk d + 1
  | .slice elems spare => uptoBulkAll elems + uptoBulkAll spare + 1
  | .agg parts => uptoBulkAll parts + 1
  | .iface _ d => uptoBulk d + 1
  | .map entries => uptoBulkEntries entries + 1
  | .held _ => 1
def uptoBulkAll {H : Type} : List (DataW H) → Nat
  | [] => 0
  | d :: r => uptoBulk d + uptoBulkAll r
def uptoBulkEntries {H : Type} : List (Lit × DataW H) → Nat
  | [] => 0
  | x :: r => uptoBulkEntry x + uptoBulkEntries r
def uptoBulkEntry {H : Type} : Lit × DataW H → Nat
  | (.string bytes, d) => bytes.length + uptoBulk d + 1
  | (_, d) => uptoBulk d + 1
 end
def uptoSmall : (H : Type) → List (DataW H) → Bool := fun _ ds => decide (uptoBulkAll ds ≤ 1048576)
def OpenSpec.upto (s : _root_.Go.ChangeSpec) : _root_.Go.OpenSpec := { _root_.Go.OpenSpec.ofChange s with cond := some uptoSmall }

/-- 'waypointlaw09.TopologyPath', WHERE WHAT IT READS IS OF BULK AT MOST 1048576: true; the input reads as it did. -/
def topologyPathUptoRow : OpenClaim := { program := "ytnlelalkkabihaadoor", sum := "1e5e80a1b31809fecf2c26795be3abc7f4af5b211e7e14f347bad4b640172a89", func := "waypoint/waypointlaw09.TopologyPath", spec := "topologyPath", inPlace := ["internal/abi.NoEscape"], named := ["internal/strconv.uint64pow10", "math/bits.deBruijn32tab", "math/bits.deBruijn64tab"], apart := false, laid := [("math/bits.deBruijn32tab", laid_math_bits_deBruijn32tab), ("math/bits.deBruijn64tab", laid_math_bits_deBruijn64tab), ("internal/strconv.uint64pow10", laid_internal_strconv_uint64pow10)], narrowed := true }
def TopologyPathUptoSaid : Prop := topologyPathUptoRow.holds Tryd.pinned (OpenSpec.upto topologyPathSpec)

/-- 'waypointlaw09.TopologyJoined', WHERE WHAT IT READS IS OF BULK AT MOST 1048576: true; the input reads as it did. -/
def topologyJoinedUptoRow : OpenClaim := { program := "ytnlelalkkabihaadoor", sum := "1e5e80a1b31809fecf2c26795be3abc7f4af5b211e7e14f347bad4b640172a89", func := "waypoint/waypointlaw09.TopologyJoined", spec := "topologyJoined", inPlace := ["internal/abi.NoEscape"], named := ["internal/strconv.uint64pow10", "math/bits.deBruijn32tab", "math/bits.deBruijn64tab"], apart := false, laid := [("math/bits.deBruijn32tab", laid_math_bits_deBruijn32tab), ("math/bits.deBruijn64tab", laid_math_bits_deBruijn64tab), ("internal/strconv.uint64pow10", laid_internal_strconv_uint64pow10)], narrowed := true }
def TopologyJoinedUptoSaid : Prop := topologyJoinedUptoRow.holds Tryd.pinned (OpenSpec.upto topologyJoinedSpec)

/-- 'waypointlaw09.TopologyTwins', WHERE WHAT IT READS IS OF BULK AT MOST 1048576: true; the input reads as it did. -/
def topologyTwinsUptoRow : OpenClaim := { program := "ytnlelalkkabihaadoor", sum := "1e5e80a1b31809fecf2c26795be3abc7f4af5b211e7e14f347bad4b640172a89", func := "waypoint/waypointlaw09.TopologyTwins", spec := "topologyTwins", inPlace := ["internal/abi.NoEscape"], named := ["internal/strconv.uint64pow10", "math/bits.deBruijn32tab", "math/bits.deBruijn64tab"], apart := false, laid := [("math/bits.deBruijn32tab", laid_math_bits_deBruijn32tab), ("math/bits.deBruijn64tab", laid_math_bits_deBruijn64tab), ("internal/strconv.uint64pow10", laid_internal_strconv_uint64pow10)], narrowed := true }
def TopologyTwinsUptoSaid : Prop := topologyTwinsUptoRow.holds Tryd.pinned (OpenSpec.upto topologyTwinsSpec)

/-- 'waypointlaw09.TopologyArcs', WHERE WHAT IT READS IS OF BULK AT MOST 1048576: true; the input reads as it did. -/
def topologyArcsUptoRow : OpenClaim := { program := "ytnlelalkkabihaadoor", sum := "1e5e80a1b31809fecf2c26795be3abc7f4af5b211e7e14f347bad4b640172a89", func := "waypoint/waypointlaw09.TopologyArcs", spec := "topologyArcs", inPlace := ["internal/abi.NoEscape"], named := ["internal/strconv.uint64pow10", "math/bits.deBruijn32tab", "math/bits.deBruijn64tab"], apart := false, laid := [("math/bits.deBruijn32tab", laid_math_bits_deBruijn32tab), ("math/bits.deBruijn64tab", laid_math_bits_deBruijn64tab), ("internal/strconv.uint64pow10", laid_internal_strconv_uint64pow10)], narrowed := true }
def TopologyArcsUptoSaid : Prop := topologyArcsUptoRow.holds Tryd.pinned (OpenSpec.upto topologyArcsSpec)

/-- 'waypointlaw09.TopologyValid', WHERE WHAT IT READS IS OF BULK AT MOST 1048576: true; the input reads as it did. -/
def topologyValidUptoRow : OpenClaim := { program := "ytnlelalkkabihaadoor", sum := "1e5e80a1b31809fecf2c26795be3abc7f4af5b211e7e14f347bad4b640172a89", func := "waypoint/waypointlaw09.TopologyValid", spec := "topologyValid", inPlace := ["internal/abi.NoEscape"], named := ["internal/strconv.uint64pow10", "math/bits.deBruijn32tab", "math/bits.deBruijn64tab"], apart := false, laid := [("math/bits.deBruijn32tab", laid_math_bits_deBruijn32tab), ("math/bits.deBruijn64tab", laid_math_bits_deBruijn64tab), ("internal/strconv.uint64pow10", laid_internal_strconv_uint64pow10)], narrowed := true }
def TopologyValidUptoSaid : Prop := topologyValidUptoRow.holds Tryd.pinned (OpenSpec.upto topologyValidSpec)

/-- 'waypointlaw10.ComponentMask', WHERE WHAT IT READS IS OF BULK AT MOST 1048576: true; the input reads as it did. -/
def componentMaskUptoRow : OpenClaim := { program := "ytnlelalkkabihaadoor", sum := "1e5e80a1b31809fecf2c26795be3abc7f4af5b211e7e14f347bad4b640172a89", func := "waypoint/waypointlaw10.ComponentMask", spec := "componentMask", unfollowed := true, recurses := true, named := ["internal/strconv.uint64pow10", "math/bits.deBruijn32tab", "math/bits.deBruijn64tab"], apart := false, laid := [("math/bits.deBruijn32tab", laid_math_bits_deBruijn32tab), ("math/bits.deBruijn64tab", laid_math_bits_deBruijn64tab), ("internal/strconv.uint64pow10", laid_internal_strconv_uint64pow10)], narrowed := true }
def ComponentMaskUptoSaid : Prop := componentMaskUptoRow.holds Tryd.pinned (OpenSpec.upto componentMaskSpec)

/-- 'waypointlaw10.ComponentUnion', WHERE WHAT IT READS IS OF BULK AT MOST 1048576: true; the input reads as it did. -/
def componentUnionUptoRow : OpenClaim := { program := "ytnlelalkkabihaadoor", sum := "1e5e80a1b31809fecf2c26795be3abc7f4af5b211e7e14f347bad4b640172a89", func := "waypoint/waypointlaw10.ComponentUnion", spec := "componentUnion", unfollowed := true, recurses := true, named := ["internal/strconv.uint64pow10", "math/bits.deBruijn32tab", "math/bits.deBruijn64tab"], apart := false, laid := [("math/bits.deBruijn32tab", laid_math_bits_deBruijn32tab), ("math/bits.deBruijn64tab", laid_math_bits_deBruijn64tab), ("internal/strconv.uint64pow10", laid_internal_strconv_uint64pow10)], narrowed := true }
def ComponentUnionUptoSaid : Prop := componentUnionUptoRow.holds Tryd.pinned (OpenSpec.upto componentUnionSpec)

/-- 'waypointlaw10.ComponentAll', WHERE WHAT IT READS IS OF BULK AT MOST 1048576: true; the input reads as it did. -/
def componentAllUptoRow : OpenClaim := { program := "ytnlelalkkabihaadoor", sum := "1e5e80a1b31809fecf2c26795be3abc7f4af5b211e7e14f347bad4b640172a89", func := "waypoint/waypointlaw10.ComponentAll", spec := "componentAll", unfollowed := true, recurses := true, named := ["internal/strconv.uint64pow10", "math/bits.deBruijn32tab", "math/bits.deBruijn64tab"], apart := false, laid := [("math/bits.deBruijn32tab", laid_math_bits_deBruijn32tab), ("math/bits.deBruijn64tab", laid_math_bits_deBruijn64tab), ("internal/strconv.uint64pow10", laid_internal_strconv_uint64pow10)], narrowed := true }
def ComponentAllUptoSaid : Prop := componentAllUptoRow.holds Tryd.pinned (OpenSpec.upto componentAllSpec)

/-- 'waypointlaw10.ComponentWithin', WHERE WHAT IT READS IS OF BULK AT MOST 1048576: true; the input reads as it did. -/
def componentWithinUptoRow : OpenClaim := { program := "ytnlelalkkabihaadoor", sum := "1e5e80a1b31809fecf2c26795be3abc7f4af5b211e7e14f347bad4b640172a89", func := "waypoint/waypointlaw10.ComponentWithin", spec := "componentWithin", unfollowed := true, recurses := true, named := ["internal/strconv.uint64pow10", "math/bits.deBruijn32tab", "math/bits.deBruijn64tab"], apart := false, laid := [("math/bits.deBruijn32tab", laid_math_bits_deBruijn32tab), ("math/bits.deBruijn64tab", laid_math_bits_deBruijn64tab), ("internal/strconv.uint64pow10", laid_internal_strconv_uint64pow10)], narrowed := true }
def ComponentWithinUptoSaid : Prop := componentWithinUptoRow.holds Tryd.pinned (OpenSpec.upto componentWithinSpec)

/-- 'waypointlaw10.ComponentOrder', WHERE WHAT IT READS IS OF BULK AT MOST 1048576: true; the input reads as it did. -/
def componentOrderUptoRow : OpenClaim := { program := "ytnlelalkkabihaadoor", sum := "1e5e80a1b31809fecf2c26795be3abc7f4af5b211e7e14f347bad4b640172a89", func := "waypoint/waypointlaw10.ComponentOrder", spec := "componentOrder", unfollowed := true, recurses := true, named := ["internal/strconv.uint64pow10", "math/bits.deBruijn32tab", "math/bits.deBruijn64tab"], apart := false, laid := [("math/bits.deBruijn32tab", laid_math_bits_deBruijn32tab), ("math/bits.deBruijn64tab", laid_math_bits_deBruijn64tab), ("internal/strconv.uint64pow10", laid_internal_strconv_uint64pow10)], narrowed := true }
def ComponentOrderUptoSaid : Prop := componentOrderUptoRow.holds Tryd.pinned (OpenSpec.upto componentOrderSpec)

end Rows
end Go.Proofs.YtnlelalkkabihaaDoor
