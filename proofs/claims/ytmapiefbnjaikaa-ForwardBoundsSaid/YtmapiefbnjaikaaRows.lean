/-
  No cell of these rows narrows 'for every input' (looked for: loops, veiled, ifaces, maps, wideKeys, modest, calm, conditions, laid).
  DERIVED. THE GIVEN ROWS OF THIS SEAT. 11 by the template 'for every input the law returns true; each argument reads behind the call as it read before'; 0 by the template 'total and deterministic' (their statements: YtmapiefbnjaikaaTotals.lean).
  GIVEN WITH THE SEED: the statements are not yours to turn. If you find one false, say at which input.
  Laid BY PROGRAM, IN A SANDBOX (cutbox-rows.mjs): the forced cells as the released guide's own fill.sh prints them over the translation 0095ddec1ab9058d… (all of the seat's roots in one cut). By AI agents, Wed Nov 11 2026. No macro, syntax, notation, axiom, sorry.
-/
import Derived.Test.YtmapiefbnjaikaaChecked
import GoSem.Claim
import GoSem.ClaimJoined
import GoSem.ClaimMapViews
import Derived.JoinedTies
import Derived.KernelRfl
namespace Go.Proofs.Ytmapiefbnjaikaa
/- THE CELL 'sum', in the pinned program and in every row, IS THE sha256 OF THE DUMP (.gsa) THAT YtmapiefbnjaikaaProg.lean LOADS. Nothing in Lean hashes anything: it is a label: what it is worth is what the hold of that sum in a sandbox is worth. -/
noncomputable def Try.pinned : Pinned := { name := "ytmapiefbnjaikaa", sum := "0095ddec1ab9058dfc2d47db4d369c04af534095d12499541ce1ce4690067a8d", checked := Try.checked }
namespace Rows
def none {H : Type} : Left H := { results := [], args := [] }

/-- 'waypointlaw21.PolicyExpand': WHATEVER THE INPUT: true; the input reads as it did. -/
def policyExpandSpec : ChangeSpec := { name := "policyExpand", fn := fun _ => fun
  | [d] => { results := [.lit (.bool true)], args := [d] }
  | _ => none }
def policyExpandRow : OpenClaim := { program := "ytmapiefbnjaikaa", sum := "0095ddec1ab9058dfc2d47db4d369c04af534095d12499541ce1ce4690067a8d", func := "waypoint/waypointlaw21.PolicyExpand", spec := "policyExpand", recurses := true, plainKeys := false, apart := false }
def PolicyExpandSaid : Prop := policyExpandRow.holds Try.pinned (OpenSpec.ofChange policyExpandSpec)

/-- ITS FALSE NEIGHBOUR: 'it returns false'. Refute it at one input. -/
def policyExpandWrong : ChangeSpec := { name := "policyExpand", fn := fun _ => fun
  | [d] => { results := [.lit (.bool false)], args := [d] }
  | _ => none }
def PolicyExpandWrongFalsely : Prop := policyExpandRow.holds Try.pinned (OpenSpec.ofChange policyExpandWrong)

/-- 'waypointlaw21.PolicyAgain': WHATEVER THE INPUT: true; the input reads as it did. -/
def policyAgainSpec : ChangeSpec := { name := "policyAgain", fn := fun _ => fun
  | [d] => { results := [.lit (.bool true)], args := [d] }
  | _ => none }
def policyAgainRow : OpenClaim := { program := "ytmapiefbnjaikaa", sum := "0095ddec1ab9058dfc2d47db4d369c04af534095d12499541ce1ce4690067a8d", func := "waypoint/waypointlaw21.PolicyAgain", spec := "policyAgain", recurses := true, plainKeys := false, apart := false }
def PolicyAgainSaid : Prop := policyAgainRow.holds Try.pinned (OpenSpec.ofChange policyAgainSpec)

/-- ITS FALSE NEIGHBOUR: 'it returns false'. Refute it at one input. -/
def policyAgainWrong : ChangeSpec := { name := "policyAgain", fn := fun _ => fun
  | [d] => { results := [.lit (.bool false)], args := [d] }
  | _ => none }
def PolicyAgainWrongFalsely : Prop := policyAgainRow.holds Try.pinned (OpenSpec.ofChange policyAgainWrong)

/-- 'waypointlaw21.PolicyParts': WHATEVER THE INPUT: true; the input reads as it did. -/
def policyPartsSpec : ChangeSpec := { name := "policyParts", fn := fun _ => fun
  | [d1, d2] => { results := [.lit (.bool true)], args := [d1, d2] }
  | _ => none }
def policyPartsRow : OpenClaim := { program := "ytmapiefbnjaikaa", sum := "0095ddec1ab9058dfc2d47db4d369c04af534095d12499541ce1ce4690067a8d", func := "waypoint/waypointlaw21.PolicyParts", spec := "policyParts", recurses := true, plainKeys := false, apart := false }
def PolicyPartsSaid : Prop := policyPartsRow.holds Try.pinned (OpenSpec.ofChange policyPartsSpec)

/-- ITS FALSE NEIGHBOUR: 'it returns false'. Refute it at one input. -/
def policyPartsWrong : ChangeSpec := { name := "policyParts", fn := fun _ => fun
  | [d1, d2] => { results := [.lit (.bool false)], args := [d1, d2] }
  | _ => none }
def PolicyPartsWrongFalsely : Prop := policyPartsRow.holds Try.pinned (OpenSpec.ofChange policyPartsWrong)

/-- 'waypointlaw21.PolicyPlain': WHATEVER THE INPUT: true; the input reads as it did. -/
def policyPlainSpec : ChangeSpec := { name := "policyPlain", fn := fun _ => fun
  | [d] => { results := [.lit (.bool true)], args := [d] }
  | _ => none }
def policyPlainRow : OpenClaim := { program := "ytmapiefbnjaikaa", sum := "0095ddec1ab9058dfc2d47db4d369c04af534095d12499541ce1ce4690067a8d", func := "waypoint/waypointlaw21.PolicyPlain", spec := "policyPlain", recurses := true, plainKeys := false, apart := false }
def PolicyPlainSaid : Prop := policyPlainRow.holds Try.pinned (OpenSpec.ofChange policyPlainSpec)

/-- ITS FALSE NEIGHBOUR: 'it returns false'. Refute it at one input. -/
def policyPlainWrong : ChangeSpec := { name := "policyPlain", fn := fun _ => fun
  | [d] => { results := [.lit (.bool false)], args := [d] }
  | _ => none }
def PolicyPlainWrongFalsely : Prop := policyPlainRow.holds Try.pinned (OpenSpec.ofChange policyPlainWrong)

/-- 'waypointlaw21.PolicyValid': WHATEVER THE INPUT: true; the input reads as it did. -/
def policyValidSpec : ChangeSpec := { name := "policyValid", fn := fun _ => fun
  | [d1, d2] => { results := [.lit (.bool true)], args := [d1, d2] }
  | _ => none }
def policyValidRow : OpenClaim := { program := "ytmapiefbnjaikaa", sum := "0095ddec1ab9058dfc2d47db4d369c04af534095d12499541ce1ce4690067a8d", func := "waypoint/waypointlaw21.PolicyValid", spec := "policyValid", recurses := true, plainKeys := false, apart := false }
def PolicyValidSaid : Prop := policyValidRow.holds Try.pinned (OpenSpec.ofChange policyValidSpec)

/-- ITS FALSE NEIGHBOUR: 'it returns false'. Refute it at one input. -/
def policyValidWrong : ChangeSpec := { name := "policyValid", fn := fun _ => fun
  | [d1, d2] => { results := [.lit (.bool false)], args := [d1, d2] }
  | _ => none }
def PolicyValidWrongFalsely : Prop := policyValidRow.holds Try.pinned (OpenSpec.ofChange policyValidWrong)

/-- 'waypointlaw23.ForwardStep': WHATEVER THE INPUT: true; the input reads as it did. -/
def forwardStepSpec : ChangeSpec := { name := "forwardStep", fn := fun _ => fun
  | [d] => { results := [.lit (.bool true)], args := [d] }
  | _ => none }
def forwardStepRow : OpenClaim := { program := "ytmapiefbnjaikaa", sum := "0095ddec1ab9058dfc2d47db4d369c04af534095d12499541ce1ce4690067a8d", func := "waypoint/waypointlaw23.ForwardStep", spec := "forwardStep", unfollowed := true, recurses := true, plainKeys := false, apart := false }
def ForwardStepSaid : Prop := forwardStepRow.holds Try.pinned (OpenSpec.ofChange forwardStepSpec)

/-- ITS FALSE NEIGHBOUR: 'it returns false'. Refute it at one input. -/
def forwardStepWrong : ChangeSpec := { name := "forwardStep", fn := fun _ => fun
  | [d] => { results := [.lit (.bool false)], args := [d] }
  | _ => none }
def ForwardStepWrongFalsely : Prop := forwardStepRow.holds Try.pinned (OpenSpec.ofChange forwardStepWrong)

/-- 'waypointlaw23.ForwardApart': WHATEVER THE INPUT: true; the input reads as it did. -/
def forwardApartSpec : ChangeSpec := { name := "forwardApart", fn := fun _ => fun
  | [d] => { results := [.lit (.bool true)], args := [d] }
  | _ => none }
def forwardApartRow : OpenClaim := { program := "ytmapiefbnjaikaa", sum := "0095ddec1ab9058dfc2d47db4d369c04af534095d12499541ce1ce4690067a8d", func := "waypoint/waypointlaw23.ForwardApart", spec := "forwardApart", unfollowed := true, recurses := true, plainKeys := false, apart := false }
def ForwardApartSaid : Prop := forwardApartRow.holds Try.pinned (OpenSpec.ofChange forwardApartSpec)

/-- ITS FALSE NEIGHBOUR: 'it returns false'. Refute it at one input. -/
def forwardApartWrong : ChangeSpec := { name := "forwardApart", fn := fun _ => fun
  | [d] => { results := [.lit (.bool false)], args := [d] }
  | _ => none }
def ForwardApartWrongFalsely : Prop := forwardApartRow.holds Try.pinned (OpenSpec.ofChange forwardApartWrong)

/-- 'waypointlaw23.ForwardPlain': WHATEVER THE INPUT: true; the input reads as it did. -/
def forwardPlainSpec : ChangeSpec := { name := "forwardPlain", fn := fun _ => fun
  | [d] => { results := [.lit (.bool true)], args := [d] }
  | _ => none }
def forwardPlainRow : OpenClaim := { program := "ytmapiefbnjaikaa", sum := "0095ddec1ab9058dfc2d47db4d369c04af534095d12499541ce1ce4690067a8d", func := "waypoint/waypointlaw23.ForwardPlain", spec := "forwardPlain", unfollowed := true, recurses := true, plainKeys := false, apart := false }
def ForwardPlainSaid : Prop := forwardPlainRow.holds Try.pinned (OpenSpec.ofChange forwardPlainSpec)

/-- ITS FALSE NEIGHBOUR: 'it returns false'. Refute it at one input. -/
def forwardPlainWrong : ChangeSpec := { name := "forwardPlain", fn := fun _ => fun
  | [d] => { results := [.lit (.bool false)], args := [d] }
  | _ => none }
def ForwardPlainWrongFalsely : Prop := forwardPlainRow.holds Try.pinned (OpenSpec.ofChange forwardPlainWrong)

/-- 'waypointlaw23.ForwardReached': WHATEVER THE INPUT: true; the input reads as it did. -/
def forwardReachedSpec : ChangeSpec := { name := "forwardReached", fn := fun _ => fun
  | [d1, d2] => { results := [.lit (.bool true)], args := [d1, d2] }
  | _ => none }
def forwardReachedRow : OpenClaim := { program := "ytmapiefbnjaikaa", sum := "0095ddec1ab9058dfc2d47db4d369c04af534095d12499541ce1ce4690067a8d", func := "waypoint/waypointlaw23.ForwardReached", spec := "forwardReached", unfollowed := true, recurses := true, plainKeys := false, apart := false }
def ForwardReachedSaid : Prop := forwardReachedRow.holds Try.pinned (OpenSpec.ofChange forwardReachedSpec)

/-- ITS FALSE NEIGHBOUR: 'it returns false'. Refute it at one input. -/
def forwardReachedWrong : ChangeSpec := { name := "forwardReached", fn := fun _ => fun
  | [d1, d2] => { results := [.lit (.bool false)], args := [d1, d2] }
  | _ => none }
def ForwardReachedWrongFalsely : Prop := forwardReachedRow.holds Try.pinned (OpenSpec.ofChange forwardReachedWrong)

/-- 'waypointlaw23.ForwardBypass': WHATEVER THE INPUT: true; the input reads as it did. -/
def forwardBypassSpec : ChangeSpec := { name := "forwardBypass", fn := fun _ => fun
  | [d] => { results := [.lit (.bool true)], args := [d] }
  | _ => none }
def forwardBypassRow : OpenClaim := { program := "ytmapiefbnjaikaa", sum := "0095ddec1ab9058dfc2d47db4d369c04af534095d12499541ce1ce4690067a8d", func := "waypoint/waypointlaw23.ForwardBypass", spec := "forwardBypass", unfollowed := true, recurses := true, plainKeys := false, apart := false }
def ForwardBypassSaid : Prop := forwardBypassRow.holds Try.pinned (OpenSpec.ofChange forwardBypassSpec)

/-- ITS FALSE NEIGHBOUR: 'it returns false'. Refute it at one input. -/
def forwardBypassWrong : ChangeSpec := { name := "forwardBypass", fn := fun _ => fun
  | [d] => { results := [.lit (.bool false)], args := [d] }
  | _ => none }
def ForwardBypassWrongFalsely : Prop := forwardBypassRow.holds Try.pinned (OpenSpec.ofChange forwardBypassWrong)

/-- 'waypointlaw23.ForwardBounds': WHATEVER THE INPUT: true; the input reads as it did. -/
def forwardBoundsSpec : ChangeSpec := { name := "forwardBounds", fn := fun _ => fun
  | [d] => { results := [.lit (.bool true)], args := [d] }
  | _ => none }
def forwardBoundsRow : OpenClaim := { program := "ytmapiefbnjaikaa", sum := "0095ddec1ab9058dfc2d47db4d369c04af534095d12499541ce1ce4690067a8d", func := "waypoint/waypointlaw23.ForwardBounds", spec := "forwardBounds", unfollowed := true, recurses := true, plainKeys := false, apart := false }
def ForwardBoundsSaid : Prop := forwardBoundsRow.holds Try.pinned (OpenSpec.ofChange forwardBoundsSpec)

/-- ITS FALSE NEIGHBOUR: 'it returns false'. Refute it at one input. -/
def forwardBoundsWrong : ChangeSpec := { name := "forwardBounds", fn := fun _ => fun
  | [d] => { results := [.lit (.bool false)], args := [d] }
  | _ => none }
def ForwardBoundsWrongFalsely : Prop := forwardBoundsRow.holds Try.pinned (OpenSpec.ofChange forwardBoundsWrong)

/- THE SECOND FORM. 'bulk': how many values and letters a reading holds, each counted each time it is reached (what is shared counts as often as it is met; a slice's spare places count too). A statement '..UptoSaid' is the law's where the arguments, and the package variables that the reading takes, are together of bulk at most 1048576: NARROWER than '..Said'. Prove '..Said' where nothing that the law and all that it calls make is longer than what came in: it says more and counts as full. Else prove '..UptoSaid'. A law counts once. -/
mutual
def uptoBulk {H : Type} : DataW H → Nat
  | .lit (.string bytes) => bytes.length + 1
  | .lit _ => 1
  | .nil => 1
  | .ptr d => uptoBulk d + 1
  | .slice elems spare => uptoBulkAll elems + uptoBulkAll spare + 1
  | .agg parts => uptoBulkAll parts + 1
  | .iface _ d => uptoBulk d + 1
  | .map entries => uptoBulkEntries entries + 1
  | .held _ => 1
def uptoBulkAll {H : Type} : List (DataW H) → Nat
  | [] => 0
  | d :: r => uptoBulk d + uptoBulkAll r
def uptoBulkEntries {H : Type} : List (Lit × DataW H) → Nat
  | [] => 0
  | x :: r => uptoBulkEntry x + uptoBulkEntries r
def uptoBulkEntry {H : Type} : Lit × DataW H → Nat
  | (.string bytes, d) => bytes.length + uptoBulk d + 1
  | (_, d) => uptoBulk d + 1
 end
def uptoSmall : (H : Type) → List (DataW H) → Bool := fun _ ds => decide (uptoBulkAll ds ≤ 1048576)
def OpenSpec.upto (s : _root_.Go.ChangeSpec) : _root_.Go.OpenSpec := { _root_.Go.OpenSpec.ofChange s with cond := some uptoSmall }

/-- 'waypointlaw21.PolicyExpand', WHERE WHAT IT READS IS OF BULK AT MOST 1048576: true; the input reads as it did. -/
def policyExpandUptoRow : OpenClaim := { program := "ytmapiefbnjaikaa", sum := "0095ddec1ab9058dfc2d47db4d369c04af534095d12499541ce1ce4690067a8d", func := "waypoint/waypointlaw21.PolicyExpand", spec := "policyExpand", recurses := true, plainKeys := false, apart := false, narrowed := true }
def PolicyExpandUptoSaid : Prop := policyExpandUptoRow.holds Try.pinned (OpenSpec.upto policyExpandSpec)

/-- 'waypointlaw21.PolicyAgain', WHERE WHAT IT READS IS OF BULK AT MOST 1048576: true; the input reads as it did. -/
def policyAgainUptoRow : OpenClaim := { program := "ytmapiefbnjaikaa", sum := "0095ddec1ab9058dfc2d47db4d369c04af534095d12499541ce1ce4690067a8d", func := "waypoint/waypointlaw21.PolicyAgain", spec := "policyAgain", recurses := true, plainKeys := false, apart := false, narrowed := true }
def PolicyAgainUptoSaid : Prop := policyAgainUptoRow.holds Try.pinned (OpenSpec.upto policyAgainSpec)

/-- 'waypointlaw21.PolicyParts', WHERE WHAT IT READS IS OF BULK AT MOST 1048576: true; the input reads as it did. -/
def policyPartsUptoRow : OpenClaim := { program := "ytmapiefbnjaikaa", sum := "0095ddec1ab9058dfc2d47db4d369c04af534095d12499541ce1ce4690067a8d", func := "waypoint/waypointlaw21.PolicyParts", spec := "policyParts", recurses := true, plainKeys := false, apart := false, narrowed := true }
def PolicyPartsUptoSaid : Prop := policyPartsUptoRow.holds Try.pinned (OpenSpec.upto policyPartsSpec)

/-- 'waypointlaw21.PolicyPlain', WHERE WHAT IT READS IS OF BULK AT MOST 1048576: true; the input reads as it did. -/
def policyPlainUptoRow : OpenClaim := { program := "ytmapiefbnjaikaa", sum := "0095ddec1ab9058dfc2d47db4d369c04af534095d12499541ce1ce4690067a8d", func := "waypoint/waypointlaw21.PolicyPlain", spec := "policyPlain", recurses := true, plainKeys := false, apart := false, narrowed := true }
def PolicyPlainUptoSaid : Prop := policyPlainUptoRow.holds Try.pinned (OpenSpec.upto policyPlainSpec)

/-- 'waypointlaw21.PolicyValid', WHERE WHAT IT READS IS OF BULK AT MOST 1048576: true; the input reads as it did. -/
def policyValidUptoRow : OpenClaim := { program := "ytmapiefbnjaikaa", sum := "0095ddec1ab9058dfc2d47db4d369c04af534095d12499541ce1ce4690067a8d", func := "waypoint/waypointlaw21.PolicyValid", spec := "policyValid", recurses := true, plainKeys := false, apart := false, narrowed := true }
def PolicyValidUptoSaid : Prop := policyValidUptoRow.holds Try.pinned (OpenSpec.upto policyValidSpec)

/-- 'waypointlaw23.ForwardStep', WHERE WHAT IT READS IS OF BULK AT MOST 1048576: true; the input reads as it did. -/
def forwardStepUptoRow : OpenClaim := { program := "ytmapiefbnjaikaa", sum := "0095ddec1ab9058dfc2d47db4d369c04af534095d12499541ce1ce4690067a8d", func := "waypoint/waypointlaw23.ForwardStep", spec := "forwardStep", unfollowed := true, recurses := true, plainKeys := false, apart := false, narrowed := true }
def ForwardStepUptoSaid : Prop := forwardStepUptoRow.holds Try.pinned (OpenSpec.upto forwardStepSpec)

/-- 'waypointlaw23.ForwardApart', WHERE WHAT IT READS IS OF BULK AT MOST 1048576: true; the input reads as it did. -/
def forwardApartUptoRow : OpenClaim := { program := "ytmapiefbnjaikaa", sum := "0095ddec1ab9058dfc2d47db4d369c04af534095d12499541ce1ce4690067a8d", func := "waypoint/waypointlaw23.ForwardApart", spec := "forwardApart", unfollowed := true, recurses := true, plainKeys := false, apart := false, narrowed := true }
def ForwardApartUptoSaid : Prop := forwardApartUptoRow.holds Try.pinned (OpenSpec.upto forwardApartSpec)

/-- 'waypointlaw23.ForwardPlain', WHERE WHAT IT READS IS OF BULK AT MOST 1048576: true; the input reads as it did. -/
def forwardPlainUptoRow : OpenClaim := { program := "ytmapiefbnjaikaa", sum := "0095ddec1ab9058dfc2d47db4d369c04af534095d12499541ce1ce4690067a8d", func := "waypoint/waypointlaw23.ForwardPlain", spec := "forwardPlain", unfollowed := true, recurses := true, plainKeys := false, apart := false, narrowed := true }
def ForwardPlainUptoSaid : Prop := forwardPlainUptoRow.holds Try.pinned (OpenSpec.upto forwardPlainSpec)

/-- 'waypointlaw23.ForwardReached', WHERE WHAT IT READS IS OF BULK AT MOST 1048576: true; the input reads as it did. -/
def forwardReachedUptoRow : OpenClaim := { program := "ytmapiefbnjaikaa", sum := "0095ddec1ab9058dfc2d47db4d369c04af534095d12499541ce1ce4690067a8d", func := "waypoint/waypointlaw23.ForwardReached", spec := "forwardReached", unfollowed := true, recurses := true, plainKeys := false, apart := false, narrowed := true }
def ForwardReachedUptoSaid : Prop := forwardReachedUptoRow.holds Try.pinned (OpenSpec.upto forwardReachedSpec)

/-- 'waypointlaw23.ForwardBypass', WHERE WHAT IT READS IS OF BULK AT MOST 1048576: true; the input reads as it did. -/
def forwardBypassUptoRow : OpenClaim := { program := "ytmapiefbnjaikaa", sum := "0095ddec1ab9058dfc2d47db4d369c04af534095d12499541ce1ce4690067a8d", func := "waypoint/waypointlaw23.ForwardBypass", spec := "forwardBypass", unfollowed := true, recurses := true, plainKeys := false, apart := false, narrowed := true }
def ForwardBypassUptoSaid : Prop := forwardBypassUptoRow.holds Try.pinned (OpenSpec.upto forwardBypassSpec)

/-- 'waypointlaw23.ForwardBounds', WHERE WHAT IT READS IS OF BULK AT MOST 1048576: true; the input reads as it did. -/
def forwardBoundsUptoRow : OpenClaim := { program := "ytmapiefbnjaikaa", sum := "0095ddec1ab9058dfc2d47db4d369c04af534095d12499541ce1ce4690067a8d", func := "waypoint/waypointlaw23.ForwardBounds", spec := "forwardBounds", unfollowed := true, recurses := true, plainKeys := false, apart := false, narrowed := true }
def ForwardBoundsUptoSaid : Prop := forwardBoundsUptoRow.holds Try.pinned (OpenSpec.upto forwardBoundsSpec)

end Rows
end Go.Proofs.Ytmapiefbnjaikaa
