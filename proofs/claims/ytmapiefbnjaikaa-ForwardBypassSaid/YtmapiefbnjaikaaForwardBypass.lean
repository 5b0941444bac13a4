/- The statement ForwardBypass holds: for every input the function returns true and leaves its arguments as they were.
   Conditions: none beyond those of the given row. -/
import Derived.Test.YtmapiefbnjaikaaP04
import Derived.Test.YtmapiefbnjaikaaP05
set_option linter.all false
namespace Go.Proofs.Ytmapiefbnjaikaa
open Go Go.ChangeShapes Go.WideShapes Go.ChangeAt Go.RowKit Go.Proofs.Ytmapiefbnjaikaa Go.Proofs.Ytmapiefbnjaikaa.Vm
set_option maxRecDepth 100000
def wit52 : Value := .agg #[.int .i64 0, .slice none 0 0, .slice none 0 0, .int .i64 0, .slice none 0 0, .slice none 0 0, .int .i64 0, .int .i64 0, .int .i64 0, .int .i64 0, .slice none 0 0, .int .i64 0]
theorem funcOf : Try.prog.funcs[12]? = some Try.f12 := by kernel_rfl
theorem rd52 : Try.prog.readableRec 52 = true ∧ 52 < Try.prog.types.size := by decide +kernel
theorem rd5 : Try.prog.readableRec 5 = true ∧ 5 < Try.prog.types.size := by decide +kernel
theorem fl52 : fldsOf Try.prog 52 = some [(25, 0), (48, 3), (50, 6)] := by kernel_rfl
theorem lifted (os : Os) (started : os.Started) (H : Type) (enc : TypeId × Value → H) :
    ReturnsInHanded {} Try.checked os 12 .any (Rows.forwardBypassSpec.pre6 enc Try.prog Try.f12 Rows.forwardBypassRow.domain false) (Rows.forwardBypassSpec.post enc Try.prog Try.f12 false true false false) := by
  refine returnsInHanded_of_change_sized (C := Try.checked) ownKn started (by kernel_rfl) funcOf
    (ChangeSpec.witness6 (enc := enc) (C := Try.checked) false ⟨#[], #[wit52], []⟩ 8 (by kernel_rfl) (by kernel_rfl) (by kernel_rfl) (by kernel_rfl)) ?_
  intro W base args ds gs before hval hW _ hsz _
  exact rowK1 o_case fl52 (fun x h => forwardBypass_c x ⟨h.1.1.2, h.1.2, h.2, h.1.1.1⟩) rfl rd52 rfl (fun H d => rfl) rfl H enc W base args ds gs before hval hW hsz
theorem holds : Rows.ForwardBypassSaid :=
  OpenClaim.holds_of_wide 12 Try.f12 rfl rfl rfl rfl rfl rfl rfl ⟨rfl, rfl, rfl, rfl, rfl⟩ rfl rfl rfl rfl rfl (by kernel_rfl) funcOf (by kernel_rfl)
    (of_decide_eq_true (by kernel_rfl)) (by unfold Func.isWrapper; first | (rw [if_pos (by decide +kernel)]; kernel_rfl) | (rw [if_neg (by decide +kernel)]; exact ⟨rfl, rfl⟩))
    (fun os started H enc _ => lifted os started H enc)
end Go.Proofs.Ytmapiefbnjaikaa
