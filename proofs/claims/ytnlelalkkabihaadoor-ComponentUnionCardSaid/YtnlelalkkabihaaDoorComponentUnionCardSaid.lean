/- The statement ComponentUnionCardSaid holds: for every input the function returns true and leaves its arguments as they were.
   Conditions: none beyond those of the given row. -/
import Derived.Test.YtnlelalkkabihaaDoorP05
set_option linter.all false
namespace Go.Proofs.YtnlelalkkabihaaDoor
open Go Go.ChangeShapes Go.WideShapes Go.ChangeAt Go.RowKit Go.Proofs.YtnlelalkkabihaaDoor Go.Proofs.YtnlelalkkabihaaDoor.Vm
set_option maxRecDepth 100000
theorem funcOf : Tryd.prog.funcs[9]? = some Tryd.f9 := by kernel_rfl
abbrev laidL : List (String × DataW Unit) := Rows.componentUnionRow.laid
theorem lifted (os : Os) (started : os.Started) (H : Type) (enc : TypeId × Value → H) :
    ReturnsInHanded {} Tryd.checked os 9 .any (fun w args => (Rows.componentUnionSpec.pre enc Tryd.prog Tryd.f9 Rows.componentUnionRow.domain false w args ∧ laidMetH Tryd.prog laidL w) ∧ sizedMet enc Tryd.prog Tryd.f9 (OpenSpec.ofChange Rows.componentUnionSpec) false w args)
      (Rows.componentUnionSpec.post enc Tryd.prog Tryd.f9 false true false false) := by
  refine returnsInHanded_of_change_and (C := Tryd.checked) (X := fun w _ => laidMetH Tryd.prog laidL w) (fun _ _ _ hh h => h.of_heap hh) ownKn started (by kernel_rfl) funcOf
    (ChangeSpec.witness_shaped (enc := enc) (C := Tryd.checked) (os := os) (X := fun w _ => laidMetH Tryd.prog laidL w) false (World.laidAll Tryd.prog os laidL) #[.agg #[.int .i64 0, .slice none 0 0, .slice none 0 0], .slice none 0 0] 8 (World.laidAll_os _ _ _)
      (World.shaped_of_ZipB (by kernel_rfl) (by kernel_rfl)) (by kernel_rfl) (by kernel_rfl) (by kernel_rfl)
      (by rw [MakeChecks.laidMetH_plain _ _ _ (by kernel_rfl)]; exact laidMet_laidAll _ (by kernel_rfl) (by kernel_rfl))) ?_
  intro W base args ds gs before hval hW _ hsz _ _
  exact rowA2 (a_struct o_topology (l := [(3, 0), (22, 1), (23, 2)]) (by kernel_rfl)) (a_cell o_comps (d2 := .slice 42) (by kernel_rfl) nofun nofun) (fun x b _ hb => sUnion_c x b (Nat.lt_of_le_of_lt hb (by decide))) rfl (by decide +kernel) (by decide +kernel) rfl (fun H d d' => rfl) rfl H enc W base args ds gs before hval hW hsz
theorem rowHolds : Rows.ComponentUnionSaid :=
  OpenClaim.holds_of_wide 9 Tryd.f9 rfl rfl rfl rfl rfl rfl rfl ⟨rfl, rfl, rfl, rfl, rfl⟩ rfl rfl rfl rfl rfl (by kernel_rfl) funcOf (by kernel_rfl)
    (of_decide_eq_true (by kernel_rfl)) (by unfold Func.isWrapper; first | (rw [if_pos (by decide +kernel)]; kernel_rfl) | (rw [if_neg (by decide +kernel)]; exact ⟨rfl, rfl⟩))
    (fun os started H enc _ => lifted os started H enc)
theorem holds : Rows.ComponentUnionCardSaid :=
  Claim7.holds_tied_plain_at .later [] [.data, .data, .data] true (true, "41db66e580fbfa2c62bcb71c15a8b552d703e71ec8647df97e4be05a0cbce20d") false
    rowHolds (fun _ h => by cases h) (by kernel_rfl) (fun _ h => by cases h) componentUnion_row_tie rfl ⟨rfl, rfl⟩ (by kernel_rfl) rfl
    (fun f fn hf hfn => by
      obtain rfl : f = 9 := Option.some.inj ((show Tryd.prog.funcNamed Rows.componentUnionRow.func = some 9 by kernel_rfl).symm.trans hf) |>.symm
      obtain rfl : fn = Tryd.f9 := (Option.some.inj (funcOf.symm.trans hfn)).symm
      exact ⟨by kernel_rfl, fun j t ht => by
        rw [show Tryd.f9.params = #[25, 49] from rfl] at ht
        have hm : t ∈ [25, 49] := by simpa using Array.mem_of_getElem? ht
        have hall : ([25, 49].all fun u => !Tryd.prog.wantsStandIn u) = true := by kernel_rfl
        exact (show Tryd.prog.wantsStandIn t = false by simpa using List.all_eq_true.1 hall t hm)⟩)
    (by kernel_rfl)
end Go.Proofs.YtnlelalkkabihaaDoor
