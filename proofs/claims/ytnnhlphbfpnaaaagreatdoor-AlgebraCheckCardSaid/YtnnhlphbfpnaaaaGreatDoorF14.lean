/- What the proofs of the lexer's laws share, part 14 of 14. -/
import Derived.Test.YtnnhlphbfpnaaaaGreatDoorF12
import Derived.Test.YtnnhlphbfpnaaaaGreatDoorF13
set_option linter.unusedVariables false
set_option linter.unusedSimpArgs false
section
namespace Go.Proofs.YtnnhlphbfpnaaaaGreatDoor.algebraCheck
open Go.ChangeShapes Go.WideShapes Go.ChangeAt Go.ChangeMaps Go.RowKit Go.Proofs.YtnnhlphbfpnaaaaGreatDoor Go.Ev Go.Ev.R2
theorem j_place : (Rows.algebraCheckRow.inPlace == Tryz.prog.inPlace 3) = true := by kernel_rfl
theorem j_unf : (Rows.algebraCheckRow.unfollowed == Tryz.prog.unfollowed 3) = true := by kernel_rfl
theorem j_rec : (Rows.algebraCheckRow.recurses == Tryz.prog.recurses 3) = true := by kernel_rfl
theorem j_named : (Rows.algebraCheckRow.named == Tryz.prog.varsNamed 3) = true := by kernel_rfl
theorem facts : joinedFacts Tryz.prog 3 Tryz.f3 (OpenSpec.ofChange Rows.algebraCheckSpec).bare Rows.algebraCheckRow = true :=
 joined_of ⟨(by kernel_rfl), j_laid, j_maps, (by kernel_rfl), (by kernel_rfl), (by kernel_rfl), j_stops, (by kernel_rfl), j_knobs, j_place, j_unf, j_rec, j_named, (by kernel_rfl), (by kernel_rfl), (by kernel_rfl), (by kernel_rfl), (by kernel_rfl), (by kernel_rfl), (by kernel_rfl), (by kernel_rfl), (by kernel_rfl), j_keys, (by kernel_rfl), j_heard, j_enter, j_lift, (by kernel_rfl), (by kernel_rfl), (by kernel_rfl), (by kernel_rfl), (by kernel_rfl)⟩
theorem said : Rows.AlgebraCheckSaid :=
 OpenClaim.holds_of_cond 3 Tryz.f3 rfl rfl rfl rfl rfl rfl rfl ⟨rfl, rfl, rfl, rfl, rfl⟩ rfl rfl rfl rfl rfl (by kernel_rfl) Tryz.func3 facts
  (of_decide_eq_true (by kernel_rfl)) (by unfold Func.isWrapper; first | (rw [if_pos (by decide +kernel)]; kernel_rfl) | (rw [if_neg (by decide +kernel)]; exact ⟨rfl, rfl⟩))
  (fun os started H enc _ F => by rw [OpenClaim.pre_eq_preRow]; exact lifted os started H enc F)
end Go.Proofs.YtnnhlphbfpnaaaaGreatDoor.algebraCheck
end
