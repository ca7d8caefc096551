/- What the proofs of the lexer's laws share, part 13 of 13. -/
import Derived.Test.YtnnhlphbfpnaaaaGreatDoorD11
import Derived.Test.YtnnhlphbfpnaaaaGreatDoorD12
set_option linter.unusedVariables false
set_option linter.unusedSimpArgs false
section
set_option linter.unusedVariables false
set_option linter.unusedSimpArgs false
namespace Go.Proofs.YtnnhlphbfpnaaaaGreatDoor.algebraPatterns
open Go.ChangeShapes Go.WideShapes Go.ChangeAt Go.ChangeMaps Go.RowKit Go.Proofs.YtnnhlphbfpnaaaaGreatDoor Go.Ev Go.Ev.R2
theorem j_place : (Rows.algebraPatternsRow.inPlace == Tryz.prog.inPlace 4) = true := by kernel_rfl
theorem j_unf : (Rows.algebraPatternsRow.unfollowed == Tryz.prog.unfollowed 4) = true := by kernel_rfl
theorem j_rec : (Rows.algebraPatternsRow.recurses == Tryz.prog.recurses 4) = true := by kernel_rfl
theorem j_named : (Rows.algebraPatternsRow.named == Tryz.prog.varsNamed 4) = true := by kernel_rfl
theorem facts : joinedFacts Tryz.prog 4 Tryz.f4 (OpenSpec.ofChange Rows.algebraPatternsSpec).bare Rows.algebraPatternsRow = true :=
  joined_of ⟨(by kernel_rfl), j_laid, j_maps, (by kernel_rfl), (by kernel_rfl), (by kernel_rfl), j_stops, (by kernel_rfl), j_knobs, j_place, j_unf, j_rec, j_named, (by kernel_rfl), (by kernel_rfl), (by kernel_rfl), (by kernel_rfl), (by kernel_rfl), (by kernel_rfl), (by kernel_rfl), (by kernel_rfl), (by kernel_rfl), j_keys, (by kernel_rfl), j_heard, j_enter, j_lift, (by kernel_rfl), (by kernel_rfl), (by kernel_rfl), (by kernel_rfl), (by kernel_rfl)⟩
theorem said : Rows.AlgebraPatternsSaid :=
  OpenClaim.holds_of_cond 4 Tryz.f4 rfl rfl rfl rfl rfl rfl rfl ⟨rfl, rfl, rfl, rfl, rfl⟩ rfl rfl rfl rfl rfl (by kernel_rfl) Tryz.func4 facts
    (of_decide_eq_true (by kernel_rfl)) (by unfold Func.isWrapper; first | (rw [if_pos (by decide +kernel)]; kernel_rfl) | (rw [if_neg (by decide +kernel)]; exact ⟨rfl, rfl⟩))
    (fun os started H enc _ F => by rw [OpenClaim.pre_eq_preRow]; exact lifted os started H enc F)
end Go.Proofs.YtnnhlphbfpnaaaaGreatDoor.algebraPatterns
end
