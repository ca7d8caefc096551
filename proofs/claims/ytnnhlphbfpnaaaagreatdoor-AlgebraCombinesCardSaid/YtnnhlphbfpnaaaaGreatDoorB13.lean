/- What the proofs of the lexer's laws share, part 13 of 13. -/
import Derived.Test.YtnnhlphbfpnaaaaGreatDoorB11
import Derived.Test.YtnnhlphbfpnaaaaGreatDoorB12
set_option linter.unusedVariables false
set_option linter.unusedSimpArgs false
section
set_option linter.unusedVariables false
set_option linter.unusedSimpArgs false
namespace Go.Proofs.YtnnhlphbfpnaaaaGreatDoor.algebraCombines
open Go.ChangeShapes Go.WideShapes Go.ChangeAt Go.ChangeMaps Go.RowKit Go.Proofs.YtnnhlphbfpnaaaaGreatDoor Go.Ev Go.Ev.R2
theorem j_place : (Rows.algebraCombinesRow.inPlace == Tryz.prog.inPlace 10) = true := by kernel_rfl
theorem j_unf : (Rows.algebraCombinesRow.unfollowed == Tryz.prog.unfollowed 10) = true := by kernel_rfl
theorem j_rec : (Rows.algebraCombinesRow.recurses == Tryz.prog.recurses 10) = true := by kernel_rfl
theorem j_named : (Rows.algebraCombinesRow.named == Tryz.prog.varsNamed 10) = true := by kernel_rfl
theorem facts : joinedFacts Tryz.prog 10 Tryz.f10 (OpenSpec.ofChange Rows.algebraCombinesSpec).bare Rows.algebraCombinesRow = true :=
  joined_of ⟨(by kernel_rfl), j_laid, j_maps, (by kernel_rfl), (by kernel_rfl), (by kernel_rfl), j_stops, (by kernel_rfl), j_knobs, j_place, j_unf, j_rec, j_named, (by kernel_rfl), (by kernel_rfl), (by kernel_rfl), (by kernel_rfl), (by kernel_rfl), (by kernel_rfl), (by kernel_rfl), (by kernel_rfl), (by kernel_rfl), j_keys, (by kernel_rfl), j_heard, j_enter, j_lift, (by kernel_rfl), (by kernel_rfl), (by kernel_rfl), (by kernel_rfl), (by kernel_rfl)⟩
theorem said : Rows.AlgebraCombinesSaid :=
  OpenClaim.holds_of_cond 10 Tryz.f10 rfl rfl rfl rfl rfl rfl rfl ⟨rfl, rfl, rfl, rfl, rfl⟩ rfl rfl rfl rfl rfl (by kernel_rfl) Tryz.func10 facts
    (of_decide_eq_true (by kernel_rfl)) (by unfold Func.isWrapper; first | (rw [if_pos (by decide +kernel)]; kernel_rfl) | (rw [if_neg (by decide +kernel)]; exact ⟨rfl, rfl⟩))
    (fun os started H enc _ F => by rw [OpenClaim.pre_eq_preRow]; exact lifted os started H enc F)
end Go.Proofs.YtnnhlphbfpnaaaaGreatDoor.algebraCombines
end
