/- The statement PrefixContainsCardSaid holds: for every input the function returns true and leaves its arguments as they were.
   Conditions: none beyond those of the given row. -/
import Derived.Test.YtllpenkgaomdfaaDoorP04
import Derived.Test.YtllpenkgaomdfaaDoorP05
set_option linter.all false
namespace Go.Proofs.YtllpenkgaomdfaaDoor
open Go Go.ChangeShapes Go.WideShapes Go.ChangeAt Go.RowKit Go.Proofs.YtllpenkgaomdfaaDoor Go.Proofs.YtllpenkgaomdfaaDoor.Vm
set_option maxRecDepth 100000
theorem funcOf : Tryd.prog.funcs[7]? = some Tryd.f7 := by kernel_rfl
abbrev laidL : List (String × DataW Unit) := Rows.prefixContainsRow.laid
def argsL : List (TypeId × (AV → Prop)) := [(T.Prefix, (Is (fun x : Int × Int => .agg (ePfx x)) okPfx)), (T.Prefix, (Is (fun x : Int × Int => .agg (ePfx x)) okPfx)), (T.uint32, (Is (fun n : Int => .int .u32 n) fun n => 0 ≤ n ∧ n ≤ 4294967295))]
theorem argsOk : ∀ x ∈ argsL, ArgP x.1 x.2 := by
  intro x hx
  simp only [argsL, List.mem_cons, List.mem_nil_iff, or_false] at hx
  rcases hx with rfl | rfl | rfl
  · exact p_pfx
  · exact p_pfx
  · exact p_u32
theorem argsCall : ∀ ys, Fits2 argsL ys → PureCall Tryd.prog 7 ys (.bool true) := by
  intro ys h
  match ys, h with
  | [_, _, _], ⟨⟨x0, rfl, h0⟩, ⟨⟨x1, rfl, h1⟩, ⟨⟨x2, rfl, h2⟩, _⟩⟩⟩ => exact sPxContains_c h0 x0.2 h1 x1.2 h2
theorem lifted (os : Os) (started : os.Started) (H : Type) (enc : TypeId × Value → H) :
    ReturnsInHanded {} Tryd.checked os 7 .any (fun w args => (Rows.prefixContainsSpec.pre enc Tryd.prog Tryd.f7 Rows.prefixContainsRow.domain false w args ∧ laidMetH Tryd.prog laidL w) ∧ sizedMet enc Tryd.prog Tryd.f7 (OpenSpec.ofChange Rows.prefixContainsSpec) false w args)
      (Rows.prefixContainsSpec.post enc Tryd.prog Tryd.f7 false true false false) := by
  refine handed_shaped_and (C := Tryd.checked) (X := fun w _ => laidMetH Tryd.prog laidL w) (fun _ _ _ hh h => h.of_heap hh) ownKn started (by kernel_rfl) funcOf
    (ChangeSpec.witness_shaped (enc := enc) (C := Tryd.checked) (os := os) (X := fun w _ => laidMetH Tryd.prog laidL w) false (World.laidAll Tryd.prog os laidL) #[.agg #[.int .u32 0, .int .i64 0], .agg #[.int .u32 0, .int .i64 0], .int .u32 0] 8 (World.laidAll_os _ _ _)
      (World.shaped_of_ZipB (by kernel_rfl) (by kernel_rfl)) (by kernel_rfl) (by kernel_rfl) (by kernel_rfl)
      (by rw [MakeChecks.laidMetH_plain _ _ _ (by kernel_rfl)]; exact laidMet_laidAll _ (by kernel_rfl) (by kernel_rfl))) ?_
  intro W base args ds gs before hval hW _ hsz hX hsh _
  exact rowAll (tb := T.bool) argsL argsOk argsCall rfl (of_decide_eq_true (by kernel_rfl)) rfl (fun H ds hl => by
    match ds, hl with
    | [d0, d1, d2], _ => rfl) rfl (by kernel_rfl) H enc W base args ds gs before (tabs_of hX (by kernel_rfl) (.tail _ (.tail _ (.head _))) (.tail _ (.tail _ (.tail _ (.tail _ (.tail _ (.head _)))))) (.tail _ (.tail _ (.tail _ (.tail _ (.head _))))) hsh) hval hW hsz
theorem rowHolds : Rows.PrefixContainsSaid :=
  OpenClaim.holds_of_wide 7 Tryd.f7 rfl rfl rfl rfl rfl rfl rfl ⟨rfl, rfl, rfl, rfl, rfl⟩ rfl rfl rfl rfl rfl (by kernel_rfl) funcOf (by kernel_rfl)
    (of_decide_eq_true (by kernel_rfl)) (by unfold Func.isWrapper; first | (rw [if_pos (by decide +kernel)]; kernel_rfl) | (rw [if_neg (by decide +kernel)]; exact ⟨rfl, rfl⟩))
    (fun os started H enc _ => lifted os started H enc)
theorem holds : Rows.PrefixContainsCardSaid :=
  Claim7.holds_tied_plain_at .later [] [.data, .data, .data, .data, .sentinel, .sentinel, .pinned] true (true, "83c67fa187e2cca1a37564437a9d8fea164d1f11ddffe3fed510b0fcccb9ff3f") true
    rowHolds (fun _ h => by cases h) (by kernel_rfl) (fun _ h => by cases h) prefixContains_row_tie rfl ⟨rfl, rfl⟩ (by kernel_rfl) rfl
    (fun f fn hf hfn => by
      obtain rfl : f = 7 := Option.some.inj ((show Tryd.prog.funcNamed Rows.prefixContainsRow.func = some 7 by kernel_rfl).symm.trans hf) |>.symm
      obtain rfl : fn = Tryd.f7 := (Option.some.inj (funcOf.symm.trans hfn)).symm
      exact ⟨by kernel_rfl, fun j t ht => by
        rw [show Tryd.f7.params = #[24, 24, 22] from rfl] at ht
        have hm : t ∈ [24, 24, 22] := by simpa using Array.mem_of_getElem? ht
        have hall : ([24, 24, 22].all fun u => !Tryd.prog.wantsStandIn u) = true := by kernel_rfl
        exact (show Tryd.prog.wantsStandIn t = false by simpa using List.all_eq_true.1 hall t hm)⟩)
    (by kernel_rfl)
end Go.Proofs.YtllpenkgaomdfaaDoor
