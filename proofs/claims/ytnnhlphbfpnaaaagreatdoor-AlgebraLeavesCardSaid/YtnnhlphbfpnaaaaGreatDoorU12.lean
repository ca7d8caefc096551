/- What the proofs of the lexer's laws share, part 12 of 14. -/
import Derived.Test.YtnnhlphbfpnaaaaGreatDoorU8
import Derived.Test.YtnnhlphbfpnaaaaGreatDoorU9
import Derived.Test.YtnnhlphbfpnaaaaGreatDoorU11
import Derived.Test.YtnnhlphbfpnaaaaGreatDoorU7
set_option linter.unusedVariables false
set_option linter.unusedSimpArgs false
section
namespace Go.Proofs.YtnnhlphbfpnaaaaGreatDoor.algebraLeaves
open Go.ChangeShapes Go.WideShapes Go.ChangeAt Go.ChangeMaps Go.RowKit Go.Proofs.YtnnhlphbfpnaaaaGreatDoor Go.Ev Go.Ev.R2
set_option maxRecDepth 1000000 in
theorem e8i (H:Type) (enc:TypeId×Value→H) (W:World) (C4:Nat) (args:Array Value) (ds gs:List (DataW H)) (before:List MemPlace)
  (hval:∀(j:Nat) t v,Tryz.f12.params[j]?=some t→args[j]?=some v→Value.okWide Tryz.prog W .any C4 t v)
  (hW:DataW.Whole enc Tryz.prog Tryz.f12.params.toList Rows.algebraLeavesSpec.vars false W args.toList ds gs before)
  (hsz:(DataW.weightsEach Tryz.prog (Tryz.f12.params.toList++(OpenSpec.ofChange Rows.algebraLeavesSpec).bare.plain.varTypes Tryz.prog) (ds++gs)).all (· ≤reachBytes)=true)
  (hL:laidMetH Tryz.prog Rows.algebraLeavesRow.laid W) :
  Calls Tryz.prog 12 args W fun e W'=>∃v,e= .returned v∧Rows.algebraLeavesSpec.post enc Tryz.prog Tryz.f12 false true false false W args v W':=by
 have hW':=hW
 obtain ⟨p,q,hA0,hV,rfl,hfz,hnd⟩:=hW
 have hA:DataW.TrodAll enc Tryz.prog W 0 (fun _=>true) true Tryz.f12.params.toList args.toList ds p:=hA0
 rw[Tryz.params12] at hA hval
 obtain ⟨v0,vs0,d0,ds0,p0,q0,hargs,rfl,rfl,h0,r0⟩:=trodAll_cons hA
 obtain ⟨v1,vs1,d1,ds1,p1,q1,rfl,rfl,rfl,h1,r1⟩:=trodAll_cons r0
 obtain ⟨rfl,rfl,rfl⟩:=trodAll_nil r1
 obtain rfl:args= #[v0,v1]:=by cases args;simp_all
 obtain ⟨rfl,rfl⟩:=trodVars_none hV
 have hw0:∀m∈d0.weights Tryz.prog 33,m≤reachBytes:=fun m hm=>by
  have:=List.all_eq_true.1 hsz m (DataW.weights_mem_each (j:=0) (t:=33) (d:=d0) (by rw[Tryz.params12];rfl) rfl m hm)
  simpa using this
 obtain ⟨x0,y0,hfit0⟩:=e9d (hval 0 33 v0 rfl rfl) h0 hw0
 have hw1:∀m∈d1.weights Tryz.prog 33,m≤reachBytes:=fun m hm=>by
  have:=List.all_eq_true.1 hsz m (DataW.weights_mem_each (j:=1) (t:=33) (d:=d1) (by rw[Tryz.params12];rfl) rfl m hm)
  simpa using this
 obtain ⟨x1,y1,hfit1⟩:=e9d (hval 1 33 v1 rfl rfl) h1 hw1
 clear hA0
 simp only[List.append_nil] at hW'
 refine (e8n (ct:=c12) (k12) (K:=12) hL (by rfl) (ds:=[x0,x1]) ⟨hfit0,hfit1⟩ rfl (.cons y0 (.cons y1 .nil))).mono fun e W' ⟨v,lim',he,hE,hr⟩=>?_
 subst he
 have hv:=hr.lit_inv
 subst hv
 exact ⟨_,rfl,_,_,_, [],_, [],hW',trodAll_cons_mk (shut_bool Tryz.underlying4 _) trodAll_mk0,
  trodAll_cons_mk (b8e (by decide) h0 hE) (trodAll_cons_mk (b8e (by decide) h1 hE) trodAll_mk0),rfl,e4c hE _,fun h=>by cases h⟩
def c3t:Value:=.agg #[.int .i64 0, .int .i64 0, .slice none 0 0, .int .i64 0, .int .i64 0, .int .i64 0, .int .i64 0, .slice none 0 0, .bool false, .int .i64 0, .slice none 0 0, .int .i64 0, .slice none 0 0, .slice none 0 0, .string ⟨#[]⟩, .slice none 0 0]
def f8m {H:Type}:DataW H:=.agg [.lit (.int .i64 0), .lit (.int .i64 0), .nil, .lit (.int .i64 0), .lit (.int .i64 0), .agg [.lit (.int .i64 0), .lit (.int .i64 0)], .nil, .lit (.bool false), .lit (.int .i64 0), .nil, .agg [.lit (.int .i64 0), .nil, .nil], .lit (.string []), .nil]
theorem g5v (os:Os) {H:Type} (enc:TypeId×Value→H):∃places,DataW.whole enc Tryz.prog ((b5m os).forCall (fun _ _=>0) ⟨#[], #[c3t,c3t], []⟩).memory Tryz.f12.params.toList Rows.algebraLeavesSpec.vars false (#[c3t,c3t]:Array Value).toList 8=some ([f8m,f8m], [],places) :=
 ⟨[],by kernel_rfl⟩
set_option maxRecDepth 100000 in
theorem lifted (os : Os) (started : os.Started) (H : Type) (enc : TypeId × Value → H) (F : Stop.Interp) :
  ReturnsInHanded {} Tryz.checked os 12 .any ((OpenSpec.ofChange Rows.algebraLeavesSpec).preRow enc Tryz.prog Tryz.f12 Rows.algebraLeavesRow.domain false Rows.algebraLeavesRow.laid) (((OpenSpec.ofChange Rows.algebraLeavesSpec).at F).post enc Tryz.prog Tryz.f12 false true false false) := by
 obtain ⟨places, hx⟩ := g5v os enc
 refine returnsInHanded_of_row (C := Tryz.checked) (s := OpenSpec.ofChange Rows.algebraLeavesSpec) own started (by kernel_rfl) Tryz.func12
  (witness_row_atRef (enc := enc) (C := Tryz.checked) false (b5m os) #[c3t, c3t] rfl (by kernel_rfl) (by kernel_rfl) (by kernel_rfl)
   (OpenSpec.preRow_of_cond 8 hx (by kernel_rfl) (fun k hk => by cases hk) (by kernel_rfl) (e6y os _))) ?_
 intro W C4 args ds gs before hval hW _ _ hsz hL hs _
 exact e8i H enc W C4 args ds gs before hval hW hsz hL
end Go.Proofs.YtnnhlphbfpnaaaaGreatDoor.algebraLeaves
end
