/- The statement ComponentAllCardSaid holds: for every input the function returns true and leaves its arguments as they were.
   Conditions: none beyond those of the given row. -/
import Derived.Test.YtnlelalkkabihaaDoorP05
set_option linter.all false
namespace Go.Proofs.YtnlelalkkabihaaDoor
open Go Go.ChangeShapes Go.WideShapes Go.ChangeAt Go.RowKit Go.Proofs.YtnlelalkkabihaaDoor Go.Proofs.YtnlelalkkabihaaDoor.Vm
set_option maxRecDepth 100000
theorem funcOf : Tryd.prog.funcs[10]? = some Tryd.f10 := by kernel_rfl
abbrev laidL : List (String × DataW Unit) := Rows.componentAllRow.laid
theorem lifted (os : Os) (started : os.Started) (H : Type) (enc : TypeId × Value → H) :
    ReturnsInHanded {} Tryd.checked os 10 .any (fun w args => (Rows.componentAllSpec.pre enc Tryd.prog Tryd.f10 Rows.componentAllRow.domain false w args ∧ laidMetH Tryd.prog laidL w) ∧ sizedMet enc Tryd.prog Tryd.f10 (OpenSpec.ofChange Rows.componentAllSpec) false w args)
      (Rows.componentAllSpec.post enc Tryd.prog Tryd.f10 false true false false) := by
  refine returnsInHanded_of_change_and (C := Tryd.checked) (X := fun w _ => laidMetH Tryd.prog laidL w) (fun _ _ _ hh h => h.of_heap hh) ownKn started (by kernel_rfl) funcOf
    (ChangeSpec.witness_shaped (enc := enc) (C := Tryd.checked) (os := os) (X := fun w _ => laidMetH Tryd.prog laidL w) false (World.laidAll Tryd.prog os laidL) #[.agg #[.int .i64 0, .slice none 0 0, .slice none 0 0]] 8 (World.laidAll_os _ _ _)
      (World.shaped_of_ZipB (by kernel_rfl) (by kernel_rfl)) (by kernel_rfl) (by kernel_rfl) (by kernel_rfl)
      (by rw [MakeChecks.laidMetH_plain _ _ _ (by kernel_rfl)]; exact laidMet_laidAll _ (by kernel_rfl) (by kernel_rfl))) ?_
  intro W base args ds gs before hval hW _ hsz _ _
  exact rowA1 (a_struct o_topology (l := [(3, 0), (22, 1), (23, 2)]) (by kernel_rfl)) (fun x _ => sAll_c x) rfl (by decide +kernel) rfl (fun H d => rfl) rfl H enc W base args ds gs before hval hW hsz
theorem rowHolds : Rows.ComponentAllSaid :=
  OpenClaim.holds_of_wide 10 Tryd.f10 rfl rfl rfl rfl rfl rfl rfl ⟨rfl, rfl, rfl, rfl, rfl⟩ rfl rfl rfl rfl rfl (by kernel_rfl) funcOf (by kernel_rfl)
    (of_decide_eq_true (by kernel_rfl)) (by unfold Func.isWrapper; first | (rw [if_pos (by decide +kernel)]; kernel_rfl) | (rw [if_neg (by decide +kernel)]; exact ⟨rfl, rfl⟩))
    (fun os started H enc _ => lifted os started H enc)
theorem holds : Rows.ComponentAllCardSaid :=
  Claim7.holds_tied_plain_at .later [] [.data, .data, .data] true (true, "41db66e580fbfa2c62bcb71c15a8b552d703e71ec8647df97e4be05a0cbce20d") false
    rowHolds (fun _ h => by cases h) (by kernel_rfl) (fun _ h => by cases h) componentAll_row_tie rfl ⟨rfl, rfl⟩ (by kernel_rfl) rfl
    (fun f fn hf hfn => by
      obtain rfl : f = 10 := Option.some.inj ((show Tryd.prog.funcNamed Rows.componentAllRow.func = some 10 by kernel_rfl).symm.trans hf) |>.symm
      obtain rfl : fn = Tryd.f10 := (Option.some.inj (funcOf.symm.trans hfn)).symm
      exact ⟨by kernel_rfl, fun j t ht => by
        rw [show Tryd.f10.params = #[25] from rfl] at ht
        have hm : t ∈ [25] := by simpa using Array.mem_of_getElem? ht
        have hall : ([25].all fun u => !Tryd.prog.wantsStandIn u) = true := by kernel_rfl
        exact (show Tryd.prog.wantsStandIn t = false by simpa using List.all_eq_true.1 hall t hm)⟩)
    (by kernel_rfl)
end Go.Proofs.YtnlelalkkabihaaDoor
