/- The statement SegmentJoinedCardSaid holds: for every input the function returns true and leaves its arguments as they were.
   Conditions: none beyond those of the given row. -/
import Derived.Test.YtakkfpiibeokiaaDoorP04
import Derived.Test.YtakkfpiibeokiaaDoorP05
set_option linter.all false
namespace Go.Proofs.YtakkfpiibeokiaaDoor
open Go Go.ChangeShapes Go.WideShapes Go.ChangeAt Go.RowKit Go.Proofs.YtakkfpiibeokiaaDoor Go.Proofs.YtakkfpiibeokiaaDoor.Vm
set_option maxRecDepth 100000
theorem funcOf : Tryd.prog.funcs[5]? = some Tryd.f5 := by kernel_rfl
abbrev laidL : List (String × DataW Unit) := Rows.segmentJoinedRow.laid
def argsL : List (TypeId × (AV → Prop)) := [(T.Topology, (Is (fun t : Topology => .agg t.enc) (okAny _))), (T.sl_Segment, (Is (fun xs : List Segment => asl (xs.map Segment.enc)) fun xs => xs.length ≤ 140737488355328)), (T.int, (Is (fun n : Int => ai n) (okAny _))), (T.uint8, (Is (fun n : Int => .int .u8 n) fun n => 0 ≤ n ∧ n ≤ 255))]
theorem argsOk : ∀ x ∈ argsL, ArgP x.1 x.2 := by
  intro x hx
  simp only [argsL, List.mem_cons, List.mem_nil_iff, or_false] at hx
  rcases hx with rfl | rfl | rfl | rfl
  · exact p_topology
  · exact p_segs
  · exact p_int
  · exact p_u8
theorem argsCall : ∀ ys, Fits2 argsL ys → PureCall Tryd.prog 5 ys (.bool true) := by
  intro ys h
  match ys, h with
  | [_, _, _, _], ⟨⟨x0, rfl, h0⟩, ⟨⟨x1, rfl, h1⟩, ⟨⟨x2, rfl, h2⟩, ⟨⟨x3, rfl, h3⟩, _⟩⟩⟩⟩ => exact sSegJoined_c x0 x1 x2 x3 h3 h1
theorem lifted (os : Os) (started : os.Started) (H : Type) (enc : TypeId × Value → H) :
    ReturnsInHanded {} Tryd.checked os 5 .any (fun w args => (Rows.segmentJoinedSpec.pre enc Tryd.prog Tryd.f5 Rows.segmentJoinedRow.domain false w args ∧ laidMetH Tryd.prog laidL w) ∧ sizedMet enc Tryd.prog Tryd.f5 (OpenSpec.ofChange Rows.segmentJoinedSpec) false w args)
      (Rows.segmentJoinedSpec.post enc Tryd.prog Tryd.f5 false true false false) := by
  refine returnsInHanded_of_change_and (C := Tryd.checked) (X := fun w _ => laidMetH Tryd.prog laidL w) (fun _ _ _ hh h => h.of_heap hh) ownKn started (by kernel_rfl) funcOf
    (ChangeSpec.witness_shaped (enc := enc) (C := Tryd.checked) (os := os) (X := fun w _ => laidMetH Tryd.prog laidL w) false (World.laidAll Tryd.prog os laidL) #[.agg #[.int .i64 0, .slice none 0 0, .slice none 0 0], .slice none 0 0, .int .i64 0, .int .u8 0] 8 (World.laidAll_os _ _ _)
      (World.shaped_of_ZipB (by kernel_rfl) (by kernel_rfl)) (by kernel_rfl) (by kernel_rfl) (by kernel_rfl)
      (by rw [MakeChecks.laidMetH_plain _ _ _ (by kernel_rfl)]; exact laidMet_laidAll _ (by kernel_rfl) (by kernel_rfl))) ?_
  intro W base args ds gs before hval hW _ hsz hX _
  exact rowAll (tb := T.bool) argsL argsOk argsCall rfl (of_decide_eq_true (by kernel_rfl)) rfl (fun H ds hl => by
    match ds, hl with
    | [d0, d1, d2, d3], _ => rfl) rfl (by kernel_rfl) H enc W base args ds gs before (tabs_of_laid hX) hval hW hsz
theorem rowHolds : Rows.SegmentJoinedSaid :=
  OpenClaim.holds_of_wide 5 Tryd.f5 rfl rfl rfl rfl rfl rfl rfl ⟨rfl, rfl, rfl, rfl, rfl⟩ rfl rfl rfl rfl rfl (by kernel_rfl) funcOf (by kernel_rfl)
    (of_decide_eq_true (by kernel_rfl)) (by unfold Func.isWrapper; first | (rw [if_pos (by decide +kernel)]; kernel_rfl) | (rw [if_neg (by decide +kernel)]; exact ⟨rfl, rfl⟩))
    (fun os started H enc _ => lifted os started H enc)
theorem holds : Rows.SegmentJoinedCardSaid :=
  Claim7.holds_tied_plain_at .later [] [.data, .data, .data] true (true, "dc0ccd1f067524479a82765ff0e11a75fb859921f6e61d43fe87183226c75877") true
    rowHolds (fun _ h => by cases h) (by kernel_rfl) (fun _ h => by cases h) segmentJoined_row_tie rfl ⟨rfl, rfl⟩ (by kernel_rfl) rfl
    (fun f fn hf hfn => by
      obtain rfl : f = 5 := Option.some.inj ((show Tryd.prog.funcNamed Rows.segmentJoinedRow.func = some 5 by kernel_rfl).symm.trans hf) |>.symm
      obtain rfl : fn = Tryd.f5 := (Option.some.inj (funcOf.symm.trans hfn)).symm
      exact ⟨by kernel_rfl, fun j t ht => by
        rw [show Tryd.f5.params = #[25, 31, 3, 5] from rfl] at ht
        have hm : t ∈ [25, 31, 3, 5] := by simpa using Array.mem_of_getElem? ht
        have hall : ([25, 31, 3, 5].all fun u => !Tryd.prog.wantsStandIn u) = true := by kernel_rfl
        exact (show Tryd.prog.wantsStandIn t = false by simpa using List.all_eq_true.1 hall t hm)⟩)
    (by kernel_rfl)
end Go.Proofs.YtakkfpiibeokiaaDoor
