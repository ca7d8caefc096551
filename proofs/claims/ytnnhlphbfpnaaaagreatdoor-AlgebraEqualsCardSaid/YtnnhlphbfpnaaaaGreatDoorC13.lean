/- What the proofs of the lexer's laws share, part 13 of 13. -/
import Derived.Test.YtnnhlphbfpnaaaaGreatDoorC11
import Derived.Test.YtnnhlphbfpnaaaaGreatDoorC12
set_option linter.unusedVariables false
set_option linter.unusedSimpArgs false
section
namespace Go.Proofs.YtnnhlphbfpnaaaaGreatDoor.algebraEquals
open Go.ChangeShapes Go.WideShapes Go.ChangeAt Go.ChangeMaps Go.RowKit Go.Proofs.YtnnhlphbfpnaaaaGreatDoor Go.Ev Go.Ev.R2
theorem f4a:(Rows.algebraEqualsRow.inPlace==Tryz.prog.inPlace 11)=true:=by kernel_rfl
theorem g6x:(Rows.algebraEqualsRow.unfollowed==Tryz.prog.unfollowed 11)=true:=by kernel_rfl
theorem g6y:(Rows.algebraEqualsRow.recurses==Tryz.prog.recurses 11)=true:=by kernel_rfl
theorem f4b:(Rows.algebraEqualsRow.named==Tryz.prog.varsNamed 11)=true:=by kernel_rfl
theorem g7j:joinedFacts Tryz.prog 11 Tryz.f11 (OpenSpec.ofChange Rows.algebraEqualsSpec).bare Rows.algebraEqualsRow=true :=
 e3u ⟨(by kernel_rfl),g2e,g2c,(by kernel_rfl),(by kernel_rfl),(by kernel_rfl),f3z,(by kernel_rfl),f4c,f4a,g6x,g6y,f4b,(by kernel_rfl),(by kernel_rfl),(by kernel_rfl),(by kernel_rfl),(by kernel_rfl),(by kernel_rfl),(by kernel_rfl),(by kernel_rfl),(by kernel_rfl),g2f,(by kernel_rfl),f4d,f4e,g2d,(by kernel_rfl),(by kernel_rfl),(by kernel_rfl),(by kernel_rfl),(by kernel_rfl)⟩
theorem h3m:Rows.AlgebraEqualsSaid :=
 OpenClaim.holds_of_cond 11 Tryz.f11 rfl rfl rfl rfl rfl rfl rfl ⟨rfl,rfl,rfl,rfl,rfl⟩ rfl rfl rfl rfl rfl (by kernel_rfl) Tryz.func11 g7j
  (of_decide_eq_true (by kernel_rfl)) (by unfold Func.isWrapper;first | (rw[if_pos (by decide +kernel)];kernel_rfl) | (rw[if_neg (by decide +kernel)];exact ⟨rfl,rfl⟩))
  (fun os started H enc _ F=>by rw[OpenClaim.pre_eq_preRow];exact lifted os started H enc F)
end Go.Proofs.YtnnhlphbfpnaaaaGreatDoor.algebraEquals
end
