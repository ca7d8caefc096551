/- What the proofs of the lexer's laws share, part 13 of 14. -/
import Derived.Test.YtnnhlphbfpnaaaaGreatDoorU8
import Derived.JoinedOf
set_option linter.unusedVariables false
set_option linter.unusedSimpArgs false
section
namespace Go.Ev.R2
open Go Go.Proofs Go.Proofs.YtnnhlphbfpnaaaaGreatDoor
theorem e3t {P:Program} {f:FuncId} {fn:Func} {s:ChangeSpec} {c:OpenClaim} (h:OpenClaim.wf (OpenSpec.ofChange s) c=true∧laidOutB P=true∧mapsRowed P=true∧(fn.params.all fun x=>P.readableRec x)=true∧namedTie P c.named s.vars=true∧
  (c.stops== [])=true∧(P.stops== [])=true∧(c.knobs== [])=true∧(P.stopKnobs== [])=true∧(c.inPlace==P.inPlace f)=true∧(c.unfollowed==P.unfollowed f)=true∧(c.recurses==P.recurses f)=true∧(c.named==P.varsNamed f)=true∧
  (c.maps==(fn.params.toList++DataSpec.varTypes P s.plain).any fun x=>P.mapsRec x)=true∧(c.ifaces==(fn.params.toList++DataSpec.varTypes P s.plain).any fun x=>P.ifacesRec x)=true∧(c.mapsOut==P.mapsAmong fn.resultTypes.toList)=true∧
  (c.loops==(fn.params.toList++DataSpec.varTypes P s.plain).any fun x=>P.loopsFrom x)=true∧(c.wideKeys==(fn.params.toList++DataSpec.varTypes P s.plain++fn.resultTypes.toList).any fun x=>P.wideKeysFrom x)=true∧
  (s.vars.all fun x=>P.varReadable x)=true∧(fn.resultTypes.all fun t=>P.readableRec t&&decide (t<P.types.size))=true∧(c.ifacesOut==fn.resultTypes.toList.any fun x=>P.ifacesRec x)=true∧(c.loopsOut==fn.resultTypes.toList.any fun x=>P.loopsFrom x)=true∧
  (c.plainKeys==P.plainKeys)=true∧c.shortTexts.isNone=true∧P.stopsHeard=true∧P.mayEnter=true∧(c.lifted==P.liftsFinal)=true∧(P.make==some c.make)=true∧
  (c.kinds==if c.domain.isEmpty=true then [] else List.map (fun t=>match P.underlying t with|some (TypeDesc.int k)=>some k|x=>none) fn.params.toList)=true∧(c.pinned==c.pinnedBy)=true∧
  (c.veiled==(fn.params.toList++DataSpec.varTypes P s.plain++fn.resultTypes.toList).any fun x=>P.veiledRec x)=true∧c.veiledFits P fn.params.toList (fn.params.toList++DataSpec.varTypes P s.plain++fn.resultTypes.toList)=true):joinedFacts P f fn s c=true:=by
 simp only[joinedFacts,Bool.and_eq_true,and_assoc]
 exact h
theorem g3h:laidOutB Tryz.prog=true:=by kernel_rfl
theorem g3f:mapsRowed Tryz.prog=true:=by kernel_rfl
theorem f3z:(Tryz.prog.stops== [])=true:=by kernel_rfl
theorem f4c:(Tryz.prog.stopKnobs== [])=true:=by kernel_rfl
theorem g3i:(Rows.algebraPartsRow.plainKeys==Tryz.prog.plainKeys)=true:=by kernel_rfl
theorem f4d:Tryz.prog.stopsHeard=true:=by kernel_rfl
theorem f4e:Tryz.prog.mayEnter=true:=by kernel_rfl
theorem g3g:(Rows.algebraPartsRow.lifted==Tryz.prog.liftsFinal)=true:=by kernel_rfl
end Go.Ev.R2
end
