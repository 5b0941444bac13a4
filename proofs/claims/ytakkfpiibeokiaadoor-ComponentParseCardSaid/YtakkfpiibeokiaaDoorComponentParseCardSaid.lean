/- The statement ComponentParseCardSaid holds: for every input the function returns true and leaves its arguments as they were.
   Conditions: none beyond those of the given row. -/
import Derived.Test.YtakkfpiibeokiaaDoorP04
import Derived.Test.YtakkfpiibeokiaaDoorP05
import Derived.Test.YtakkfpiibeokiaaDoorP06
set_option linter.all false
namespace Go.Proofs.YtakkfpiibeokiaaDoor
open Go Go.ChangeShapes Go.WideShapes Go.ChangeAt Go.RowKit Go.Proofs.YtakkfpiibeokiaaDoor Go.Proofs.YtakkfpiibeokiaaDoor.Vm
set_option maxRecDepth 100000
theorem funcOf : Tryd.prog.funcs[13]? = some Tryd.f13 := by kernel_rfl
abbrev laidL : List (String × DataW Unit) := Rows.componentParseRow.laid
def argsL : List (TypeId × (AV → Prop)) := [(T.string, (Is (fun s : List UInt8 => .str s) fun s => s.length ≤ 140737488355328))]
theorem argsOk : ∀ x ∈ argsL, ArgP x.1 x.2 := by
  intro x hx
  simp only [argsL, List.mem_cons, List.mem_nil_iff, or_false] at hx
  rcases hx with rfl
  · exact p_str
theorem argsCall : ∀ ys, Fits2 argsL ys → PureCall Tryd.prog 13 ys (.bool true) := by
  intro ys h
  match ys, h with
  | [_], ⟨⟨x0, rfl, h0⟩, _⟩ => exact sCompParse_c x0 h0
theorem lifted (os : Os) (started : os.Started) (H : Type) (enc : TypeId × Value → H) :
    ReturnsInHanded {} Tryd.checked os 13 .any (fun w args => (Rows.componentParseSpec.pre enc Tryd.prog Tryd.f13 Rows.componentParseRow.domain false w args ∧ laidMetH Tryd.prog laidL w) ∧ sizedMet enc Tryd.prog Tryd.f13 (OpenSpec.ofChange Rows.componentParseSpec) false w args)
      (Rows.componentParseSpec.post enc Tryd.prog Tryd.f13 false true false false) := by
  refine handed_shaped_and (C := Tryd.checked) (X := fun w _ => laidMetH Tryd.prog laidL w) (fun _ _ _ hh h => h.of_heap hh) ownKn started (by kernel_rfl) funcOf
    (ChangeSpec.witness_shaped (enc := enc) (C := Tryd.checked) (os := os) (X := fun w _ => laidMetH Tryd.prog laidL w) false (World.laidAll Tryd.prog os laidL) #[.string .empty] 8 (World.laidAll_os _ _ _)
      (World.shaped_of_ZipB (by kernel_rfl) (by kernel_rfl)) (by kernel_rfl) (by kernel_rfl) (by kernel_rfl)
      (by rw [MakeChecks.laidMetH_plain _ _ _ (by kernel_rfl)]; exact laidMet_laidAll _ (by kernel_rfl) (by kernel_rfl))) ?_
  intro W base args ds gs before hval hW _ hsz hX hsh _
  exact rowAll (tb := T.bool) argsL argsOk argsCall rfl (of_decide_eq_true (by kernel_rfl)) rfl (fun H ds hl => by
    match ds, hl with
    | [d0], _ => rfl) rfl (by kernel_rfl) H enc W base args ds gs before (tabs_of hX (by kernel_rfl) (.tail _ (.tail _ (.head _))) (.tail _ (.tail _ (.tail _ (.tail _ (.head _))))) (.tail _ (.tail _ (.tail _ (.head _)))) hsh) hval hW hsz
theorem rowHolds : Rows.ComponentParseSaid :=
  OpenClaim.holds_of_wide 13 Tryd.f13 rfl rfl rfl rfl rfl rfl rfl ⟨rfl, rfl, rfl, rfl, rfl⟩ rfl rfl rfl rfl rfl (by kernel_rfl) funcOf (by kernel_rfl)
    (of_decide_eq_true (by kernel_rfl)) (by unfold Func.isWrapper; first | (rw [if_pos (by decide +kernel)]; kernel_rfl) | (rw [if_neg (by decide +kernel)]; exact ⟨rfl, rfl⟩))
    (fun os started H enc _ => lifted os started H enc)
theorem holds : Rows.ComponentParseCardSaid :=
  Claim7.holds_tied_plain_at .later [] [.data, .data, .data, .sentinel, .sentinel] true (true, "dc0ccd1f067524479a82765ff0e11a75fb859921f6e61d43fe87183226c75877") true
    rowHolds (fun _ h => by cases h) (by kernel_rfl) (fun _ h => by cases h) componentParse_row_tie rfl ⟨rfl, rfl⟩ (by kernel_rfl) rfl
    (fun f fn hf hfn => by
      obtain rfl : f = 13 := Option.some.inj ((show Tryd.prog.funcNamed Rows.componentParseRow.func = some 13 by kernel_rfl).symm.trans hf) |>.symm
      obtain rfl : fn = Tryd.f13 := (Option.some.inj (funcOf.symm.trans hfn)).symm
      exact ⟨by kernel_rfl, fun j t ht => by
        rw [show Tryd.f13.params = #[9] from rfl] at ht
        have hm : t ∈ [9] := by simpa using Array.mem_of_getElem? ht
        have hall : ([9].all fun u => !Tryd.prog.wantsStandIn u) = true := by kernel_rfl
        exact (show Tryd.prog.wantsStandIn t = false by simpa using List.all_eq_true.1 hall t hm)⟩)
    (by kernel_rfl)
end Go.Proofs.YtakkfpiibeokiaaDoor
