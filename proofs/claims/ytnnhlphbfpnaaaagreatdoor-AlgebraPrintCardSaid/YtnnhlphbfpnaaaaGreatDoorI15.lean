/- What the proofs of the lexer's laws share, part 15 of 15. -/
import Derived.Test.YtnnhlphbfpnaaaaGreatDoorI13
import Derived.Test.YtnnhlphbfpnaaaaGreatDoorI14
set_option linter.unusedVariables false
set_option linter.unusedSimpArgs false
section
namespace Go.Proofs.YtnnhlphbfpnaaaaGreatDoor.algebraPrint
open Go.ChangeShapes Go.WideShapes Go.ChangeAt Go.ChangeMaps Go.RowKit Go.Proofs.YtnnhlphbfpnaaaaGreatDoor Go.Ev Go.Ev.R2
theorem f8a:(Rows.algebraPrintRow.inPlace==Tryz.prog.inPlace 5)=true:=by kernel_rfl
theorem h6j:(Rows.algebraPrintRow.unfollowed==Tryz.prog.unfollowed 5)=true:=by kernel_rfl
theorem h6k:(Rows.algebraPrintRow.recurses==Tryz.prog.recurses 5)=true:=by kernel_rfl
theorem f8b:(Rows.algebraPrintRow.named==Tryz.prog.varsNamed 5)=true:=by kernel_rfl
theorem h6v:joinedFacts Tryz.prog 5 Tryz.f5 (OpenSpec.ofChange Rows.algebraPrintSpec).bare Rows.algebraPrintRow=true :=
 e6r ⟨(by kernel_rfl),g8m,g8j,(by kernel_rfl),(by kernel_rfl),(by kernel_rfl),f7z,(by kernel_rfl),f8c,f8a,h6j,h6k,f8b,(by kernel_rfl),(by kernel_rfl),(by kernel_rfl),(by kernel_rfl),(by kernel_rfl),(by kernel_rfl),(by kernel_rfl),(by kernel_rfl),(by kernel_rfl),g8n,(by kernel_rfl),f8d,f8e,g8k,(by kernel_rfl),(by kernel_rfl),(by kernel_rfl),(by kernel_rfl),(by kernel_rfl)⟩
theorem i6f:Rows.AlgebraPrintSaid :=
 OpenClaim.holds_of_cond 5 Tryz.f5 rfl rfl rfl rfl rfl rfl rfl ⟨rfl,rfl,rfl,rfl,rfl⟩ rfl rfl rfl rfl rfl (by kernel_rfl) Tryz.func5 h6v
  (of_decide_eq_true (by kernel_rfl)) (by unfold Func.isWrapper;first | (rw[if_pos (by decide +kernel)];kernel_rfl) | (rw[if_neg (by decide +kernel)];exact ⟨rfl,rfl⟩))
  (fun os started H enc _ F=>by rw[OpenClaim.pre_eq_preRow];exact lifted os started H enc F)
end Go.Proofs.YtnnhlphbfpnaaaaGreatDoor.algebraPrint
end
