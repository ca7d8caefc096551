/- What the proofs of the lexer's laws share, part 12 of 12. -/
import Derived.Test.YtnnhlphbfpnaaaaGreatDoorA10
import Derived.Test.YtnnhlphbfpnaaaaGreatDoorA11
set_option linter.unusedVariables false
set_option linter.unusedSimpArgs false
section
set_option linter.unusedVariables false
set_option linter.unusedSimpArgs false
namespace Go.Proofs.YtnnhlphbfpnaaaaGreatDoor.algebraParts
open Go.ChangeShapes Go.WideShapes Go.ChangeAt Go.ChangeMaps Go.RowKit Go.Proofs.YtnnhlphbfpnaaaaGreatDoor Go.Ev Go.Ev.R2
theorem j_place : (Rows.algebraPartsRow.inPlace == Tryz.prog.inPlace 9) = true := by kernel_rfl
theorem j_unf : (Rows.algebraPartsRow.unfollowed == Tryz.prog.unfollowed 9) = true := by kernel_rfl
theorem j_rec : (Rows.algebraPartsRow.recurses == Tryz.prog.recurses 9) = true := by kernel_rfl
theorem j_named : (Rows.algebraPartsRow.named == Tryz.prog.varsNamed 9) = true := by kernel_rfl
theorem facts : joinedFacts Tryz.prog 9 Tryz.f9 (OpenSpec.ofChange Rows.algebraPartsSpec).bare Rows.algebraPartsRow = true :=
  joined_of ⟨(by kernel_rfl), j_laid, j_maps, (by kernel_rfl), (by kernel_rfl), (by kernel_rfl), j_stops, (by kernel_rfl), j_knobs, j_place, j_unf, j_rec, j_named, (by kernel_rfl), (by kernel_rfl), (by kernel_rfl), (by kernel_rfl), (by kernel_rfl), (by kernel_rfl), (by kernel_rfl), (by kernel_rfl), (by kernel_rfl), j_keys, (by kernel_rfl), j_heard, j_enter, j_lift, (by kernel_rfl), (by kernel_rfl), (by kernel_rfl), (by kernel_rfl), (by kernel_rfl)⟩
theorem said : Rows.AlgebraPartsSaid :=
  OpenClaim.holds_of_cond 9 Tryz.f9 rfl rfl rfl rfl rfl rfl rfl ⟨rfl, rfl, rfl, rfl, rfl⟩ rfl rfl rfl rfl rfl (by kernel_rfl) Tryz.func9 facts
    (of_decide_eq_true (by kernel_rfl)) (by unfold Func.isWrapper; first | (rw [if_pos (by decide +kernel)]; kernel_rfl) | (rw [if_neg (by decide +kernel)]; exact ⟨rfl, rfl⟩))
    (fun os started H enc _ F => by rw [OpenClaim.pre_eq_preRow]; exact lifted os started H enc F)
end Go.Proofs.YtnnhlphbfpnaaaaGreatDoor.algebraParts
end
