/- The statement PrefixSplitCardSaid holds: for every input the function returns true and leaves its arguments as they were.
   Conditions: none beyond those of the given row. -/
import Derived.Test.YtllpenkgaomdfaaDoorP04
import Derived.Test.YtllpenkgaomdfaaDoorP05
set_option linter.all false
namespace Go.Proofs.YtllpenkgaomdfaaDoor
open Go Go.ChangeShapes Go.WideShapes Go.ChangeAt Go.RowKit Go.Proofs.YtllpenkgaomdfaaDoor Go.Proofs.YtllpenkgaomdfaaDoor.Vm
set_option maxRecDepth 100000
theorem funcOf : Tryd.prog.funcs[6]? = some Tryd.f6 := by kernel_rfl
abbrev laidL : List (String × DataW Unit) := Rows.prefixSplitRow.laid
def argsL : List (TypeId × (AV → Prop)) := [(T.Prefix, (Is (fun x : Int × Int => .agg (ePfx x)) okPfx))]
theorem argsOk : ∀ x ∈ argsL, ArgP x.1 x.2 := by
  intro x hx
  simp only [argsL, List.mem_cons, List.mem_nil_iff, or_false] at hx
  rcases hx with rfl
  · exact p_pfx
theorem argsCall : ∀ ys, Fits2 argsL ys → PureCall Tryd.prog 6 ys (.bool true) := by
  intro ys h
  match ys, h with
  | [_], ⟨⟨x0, rfl, h0⟩, _⟩ => exact sPxSplit_c h0 x0.2
theorem lifted (os : Os) (started : os.Started) (H : Type) (enc : TypeId × Value → H) :
    ReturnsInHanded {} Tryd.checked os 6 .any (fun w args => (Rows.prefixSplitSpec.pre enc Tryd.prog Tryd.f6 Rows.prefixSplitRow.domain false w args ∧ laidMetH Tryd.prog laidL w) ∧ sizedMet enc Tryd.prog Tryd.f6 (OpenSpec.ofChange Rows.prefixSplitSpec) false w args)
      (Rows.prefixSplitSpec.post enc Tryd.prog Tryd.f6 false true false false) := by
  refine handed_shaped_and (C := Tryd.checked) (X := fun w _ => laidMetH Tryd.prog laidL w) (fun _ _ _ hh h => h.of_heap hh) ownKn started (by kernel_rfl) funcOf
    (ChangeSpec.witness_shaped (enc := enc) (C := Tryd.checked) (os := os) (X := fun w _ => laidMetH Tryd.prog laidL w) false (World.laidAll Tryd.prog os laidL) #[.agg #[.int .u32 0, .int .i64 0]] 8 (World.laidAll_os _ _ _)
      (World.shaped_of_ZipB (by kernel_rfl) (by kernel_rfl)) (by kernel_rfl) (by kernel_rfl) (by kernel_rfl)
      (by rw [MakeChecks.laidMetH_plain _ _ _ (by kernel_rfl)]; exact laidMet_laidAll _ (by kernel_rfl) (by kernel_rfl))) ?_
  intro W base args ds gs before hval hW _ hsz hX hsh _
  exact rowAll (tb := T.bool) argsL argsOk argsCall rfl (of_decide_eq_true (by kernel_rfl)) rfl (fun H ds hl => by
    match ds, hl with
    | [d0], _ => rfl) rfl (by kernel_rfl) H enc W base args ds gs before (tabs_of hX (by kernel_rfl) (.tail _ (.tail _ (.head _))) (.tail _ (.tail _ (.tail _ (.tail _ (.tail _ (.head _)))))) (.tail _ (.tail _ (.tail _ (.tail _ (.head _))))) hsh) hval hW hsz
theorem rowHolds : Rows.PrefixSplitSaid :=
  OpenClaim.holds_of_wide 6 Tryd.f6 rfl rfl rfl rfl rfl rfl rfl ⟨rfl, rfl, rfl, rfl, rfl⟩ rfl rfl rfl rfl rfl (by kernel_rfl) funcOf (by kernel_rfl)
    (of_decide_eq_true (by kernel_rfl)) (by unfold Func.isWrapper; first | (rw [if_pos (by decide +kernel)]; kernel_rfl) | (rw [if_neg (by decide +kernel)]; exact ⟨rfl, rfl⟩))
    (fun os started H enc _ => lifted os started H enc)
theorem holds : Rows.PrefixSplitCardSaid :=
  Claim7.holds_tied_plain_at .later [] [.data, .data, .data, .data, .sentinel, .sentinel, .pinned] true (true, "83c67fa187e2cca1a37564437a9d8fea164d1f11ddffe3fed510b0fcccb9ff3f") true
    rowHolds (fun _ h => by cases h) (by kernel_rfl) (fun _ h => by cases h) prefixSplit_row_tie rfl ⟨rfl, rfl⟩ (by kernel_rfl) rfl
    (fun f fn hf hfn => by
      obtain rfl : f = 6 := Option.some.inj ((show Tryd.prog.funcNamed Rows.prefixSplitRow.func = some 6 by kernel_rfl).symm.trans hf) |>.symm
      obtain rfl : fn = Tryd.f6 := (Option.some.inj (funcOf.symm.trans hfn)).symm
      exact ⟨by kernel_rfl, fun j t ht => by
        rw [show Tryd.f6.params = #[24] from rfl] at ht
        have hm : t ∈ [24] := by simpa using Array.mem_of_getElem? ht
        have hall : ([24].all fun u => !Tryd.prog.wantsStandIn u) = true := by kernel_rfl
        exact (show Tryd.prog.wantsStandIn t = false by simpa using List.all_eq_true.1 hall t hm)⟩)
    (by kernel_rfl)
end Go.Proofs.YtllpenkgaomdfaaDoor
