/- The law AlgebraPrint: Print, Leaves and Equal return the results of the reference implementation for any expressions; no conditions. -/
import Derived.Test.YtnnhlphbfpnaaaaGreatDoorI15
set_option linter.unusedVariables false
set_option linter.unusedSimpArgs false
section
namespace Go.Proofs.YtnnhlphbfpnaaaaGreatDoor.algebraPrint
open Go.ChangeShapes Go.WideShapes Go.ChangeAt Go.ChangeMaps Go.RowKit Go.Proofs.YtnnhlphbfpnaaaaGreatDoor Go.Ev Go.Ev.R2
theorem plain (f:FuncId) (fn:Func) (hf:Tryz.pinned.checked.prog.funcNamed "lookout/lookoutlaw34.AlgebraPrint" = some f) (hfn:Tryz.pinned.checked.prog.funcs[f]?=some fn) :
  true=Tryz.pinned.checked.prog.looks []∧∀(j:Nat) t,fn.params[j]?=some t→Tryz.pinned.checked.prog.wantsStandIn t=false:=by
 obtain rfl:f=5:=Option.some.inj ((show Tryz.prog.funcNamed "lookout/lookoutlaw34.AlgebraPrint" = some 5 by kernel_rfl).symm.trans hf) |>.symm
 obtain rfl:fn=Tryz.f5:=(Option.some.inj (Tryz.func5.symm.trans hfn)).symm
 refine ⟨by kernel_rfl,fun j t ht=>?_⟩
 rw[Tryz.params5] at ht
 have hm:=Array.mem_of_getElem? ht
 simp only[List.mem_toArray,List.mem_cons,List.not_mem_nil,or_false] at hm
 rcases hm with rfl|rfl
 ·exact (show Tryz.prog.wantsStandIn 33=false by kernel_rfl)
 ·exact (show Tryz.prog.wantsStandIn 33=false by kernel_rfl)
theorem card:Rows.AlgebraPrintCardSaid :=
 Claim7.holds_tied_plain_at .later [] _ _ _ _ i6f (fun _ h=>by cases h) (by kernel_rfl) (fun _ h=>by cases h) algebraPrint_row_tie rfl ⟨rfl,rfl⟩ (by kernel_rfl) rfl plain (by kernel_rfl)
end Go.Proofs.YtnnhlphbfpnaaaaGreatDoor.algebraPrint
end
