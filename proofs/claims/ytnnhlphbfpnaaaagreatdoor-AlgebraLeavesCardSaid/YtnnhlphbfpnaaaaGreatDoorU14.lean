/- What the proofs of the lexer's laws share, part 14 of 14. -/
import Derived.Test.YtnnhlphbfpnaaaaGreatDoorU12
import Derived.Test.YtnnhlphbfpnaaaaGreatDoorU13
set_option linter.unusedVariables false
set_option linter.unusedSimpArgs false
section
namespace Go.Proofs.YtnnhlphbfpnaaaaGreatDoor.algebraLeaves
open Go.ChangeShapes Go.WideShapes Go.ChangeAt Go.ChangeMaps Go.RowKit Go.Proofs.YtnnhlphbfpnaaaaGreatDoor Go.Ev Go.Ev.R2
theorem f4a:(Rows.algebraLeavesRow.inPlace==Tryz.prog.inPlace 12)=true:=by kernel_rfl
theorem g8b:(Rows.algebraLeavesRow.unfollowed==Tryz.prog.unfollowed 12)=true:=by kernel_rfl
theorem g8c:(Rows.algebraLeavesRow.recurses==Tryz.prog.recurses 12)=true:=by kernel_rfl
theorem f4b:(Rows.algebraLeavesRow.named==Tryz.prog.varsNamed 12)=true:=by kernel_rfl
theorem g8n:joinedFacts Tryz.prog 12 Tryz.f12 (OpenSpec.ofChange Rows.algebraLeavesSpec).bare Rows.algebraLeavesRow=true :=
 e3t ⟨(by kernel_rfl),g3h,g3f,(by kernel_rfl),(by kernel_rfl),(by kernel_rfl),f3z,(by kernel_rfl),f4c,f4a,g8b,g8c,f4b,(by kernel_rfl),(by kernel_rfl),(by kernel_rfl),(by kernel_rfl),(by kernel_rfl),(by kernel_rfl),(by kernel_rfl),(by kernel_rfl),(by kernel_rfl),g3i,(by kernel_rfl),f4d,f4e,g3g,(by kernel_rfl),(by kernel_rfl),(by kernel_rfl),(by kernel_rfl),(by kernel_rfl)⟩
theorem h7f:Rows.AlgebraLeavesSaid :=
 OpenClaim.holds_of_cond 12 Tryz.f12 rfl rfl rfl rfl rfl rfl rfl ⟨rfl,rfl,rfl,rfl,rfl⟩ rfl rfl rfl rfl rfl (by kernel_rfl) Tryz.func12 g8n
  (of_decide_eq_true (by kernel_rfl)) (by unfold Func.isWrapper;first | (rw[if_pos (by decide +kernel)];kernel_rfl) | (rw[if_neg (by decide +kernel)];exact ⟨rfl,rfl⟩))
  (fun os started H enc _ F=>by rw[OpenClaim.pre_eq_preRow];exact lifted os started H enc F)
end Go.Proofs.YtnnhlphbfpnaaaaGreatDoor.algebraLeaves
end
