/- LinkDetour returns true for every input and leaves its arguments as they were; no conditions. -/
import Derived.Test.YtcmbahhinnojaaaSwb
import Derived.Test.YtcmbahhinnojaaaDet
import Derived.Test.YtcmbahhinnojaaaRows
namespace Go.Proofs.Ytcmbahhinnojaaa
open Go.ChangeShapes Go.WideShapes Go.ChangeAt Go.RowKit Go.Sw

theorem own : ownKnob Try.prog.godebug = none := by kernel_rfl
theorem laidOut : laidOutB Try.prog = true := by kernel_rfl

set_option maxRecDepth 100000 in
theorem detour_lifted (os : Os) (started : os.Started) (H : Type) (enc : TypeId × Value → H) :
    ReturnsInHanded {} Try.checked os 4 .any (Rows.linkDetourSpec.pre6 enc Try.prog Try.f4 Rows.linkDetourRow.domain false) (Rows.linkDetourSpec.post enc Try.prog Try.f4 false true false false) := by
  refine returnsInHanded_of_change (C := Try.checked) own started (by kernel_rfl) Try.func4
    (ChangeSpec.witness6 (enc := enc) (C := Try.checked) false ⟨#[], #[.agg #[.int .i64 0, .int .i64 0, .int .i64 0, .int .i64 0, .int .i64 0, .int .i64 0, .slice none 0 0, .int .i64 0], .agg #[.int .i64 0, .int .i64 0, .int .i64 0, .int .i64 0, .int .i64 0, .int .i64 0], .agg #[.int .i64 0, .int .i64 0, .int .i64 0]], []⟩ 8 (by kernel_rfl) (by kernel_rfl) (by kernel_rfl) (by kernel_rfl)) ?_
  intro W base args ds gs before hval hW _ _
  exact law3 (H := H) (enc := enc) (X := X0) hX laidOut (spec := Rows.linkDetourSpec) rfl (fun _ _ _ => rfl) Try.params4 (tb := 4) (by kernel_rfl) (by kernel_rfl) (τ0 := t23) (τ1 := t27) (τ2 := t25) (by kernel_rfl) (by kernel_rfl) (by kernel_rfl)
    (by kernel_rfl) (by kernel_rfl) (by kernel_rfl) (by kernel_rfl) (by kernel_rfl) (by kernel_rfl) (of_decide_eq_true (by kernel_rfl)) (of_decide_eq_true (by kernel_rfl)) (of_decide_eq_true (by kernel_rfl))
    (fun x0 x1 x2 o0 o1 o2 => c4 (truth4 x0 x1 x2)) hval hW

theorem detour_holds : Rows.LinkDetourSaid :=
  OpenClaim.holds_of_wide 4 Try.f4 rfl rfl rfl rfl rfl rfl rfl ⟨rfl, rfl, rfl, rfl, rfl⟩ rfl rfl rfl rfl rfl (by kernel_rfl) Try.func4 (by kernel_rfl)
    (of_decide_eq_true (by kernel_rfl)) (by unfold Func.isWrapper; first | (rw [if_pos (by decide +kernel)]; kernel_rfl) | (rw [if_neg (by decide +kernel)]; exact ⟨rfl, rfl⟩))
    (fun os started H enc _ => detour_lifted os started H enc)

end Go.Proofs.Ytcmbahhinnojaaa
