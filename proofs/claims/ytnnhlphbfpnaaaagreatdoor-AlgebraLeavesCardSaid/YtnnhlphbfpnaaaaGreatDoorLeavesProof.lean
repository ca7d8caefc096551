/- The law AlgebraLeaves: the leaves of any expressions, of the two F1 a binary, and their types, as the reference implementation has them; no conditions. -/
import Derived.Test.YtnnhlphbfpnaaaaGreatDoorU14
set_option linter.unusedVariables false
set_option linter.unusedSimpArgs false
section
namespace Go.Proofs.YtnnhlphbfpnaaaaGreatDoor.algebraLeaves
open Go.ChangeShapes Go.WideShapes Go.ChangeAt Go.ChangeMaps Go.RowKit Go.Proofs.YtnnhlphbfpnaaaaGreatDoor Go.Ev Go.Ev.R2
theorem plain (f:FuncId) (fn:Func) (hf:Tryz.pinned.checked.prog.funcNamed "lookout/lookoutlaw34.AlgebraLeaves" = some f) (hfn:Tryz.pinned.checked.prog.funcs[f]?=some fn) :
  true=Tryz.pinned.checked.prog.looks []∧∀(j:Nat) t,fn.params[j]?=some t→Tryz.pinned.checked.prog.wantsStandIn t=false:=by
 obtain rfl:f=12:=Option.some.inj ((show Tryz.prog.funcNamed "lookout/lookoutlaw34.AlgebraLeaves" = some 12 by kernel_rfl).symm.trans hf) |>.symm
 obtain rfl:fn=Tryz.f12:=(Option.some.inj (Tryz.func12.symm.trans hfn)).symm
 refine ⟨by kernel_rfl,fun j t ht=>?_⟩
 rw[Tryz.params12] at ht
 have hm:=Array.mem_of_getElem? ht
 simp only[List.mem_toArray,List.mem_cons,List.not_mem_nil,or_false] at hm
 rcases hm with rfl|rfl
 ·exact (show Tryz.prog.wantsStandIn 33=false by kernel_rfl)
 ·exact (show Tryz.prog.wantsStandIn 33=false by kernel_rfl)
theorem card:Rows.AlgebraLeavesCardSaid :=
 Claim7.holds_tied_plain_at .later [] _ _ _ _ h7f (fun _ h=>by cases h) (by kernel_rfl) (fun _ h=>by cases h) algebraLeaves_row_tie rfl ⟨rfl,rfl⟩ (by kernel_rfl) rfl plain (by kernel_rfl)
end Go.Proofs.YtnnhlphbfpnaaaaGreatDoor.algebraLeaves
end
