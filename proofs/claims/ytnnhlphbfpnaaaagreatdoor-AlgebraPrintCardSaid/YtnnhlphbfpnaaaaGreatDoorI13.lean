/- What the proofs of the lexer's laws share, part 13 of 15. -/
import Derived.Test.YtnnhlphbfpnaaaaGreatDoorI8
import Derived.Test.YtnnhlphbfpnaaaaGreatDoorI9
import Derived.Test.YtnnhlphbfpnaaaaGreatDoorI12
import Derived.Test.YtnnhlphbfpnaaaaGreatDoorI7
set_option linter.unusedVariables false
set_option linter.unusedSimpArgs false
section
namespace Go.Proofs.YtnnhlphbfpnaaaaGreatDoor.algebraPrint
open Go.ChangeShapes Go.WideShapes Go.ChangeAt Go.ChangeMaps Go.RowKit Go.Proofs.YtnnhlphbfpnaaaaGreatDoor Go.Ev Go.Ev.R2
set_option maxRecDepth 1000000 in
theorem f3u (H:Type) (enc:TypeId×Value→H) (W:World) (B9:Nat) (args:Array Value) (ds gs:List (DataW H)) (before:List MemPlace)
  (hval:∀(j:Nat) t v,Tryz.f5.params[j]?=some t→args[j]?=some v→Value.okWide Tryz.prog W .any B9 t v)
  (hW:DataW.Whole enc Tryz.prog Tryz.f5.params.toList Rows.algebraPrintSpec.vars false W args.toList ds gs before)
  (hsz:(DataW.weightsEach Tryz.prog (Tryz.f5.params.toList++(OpenSpec.ofChange Rows.algebraPrintSpec).bare.plain.varTypes Tryz.prog) (ds++gs)).all (· ≤reachBytes)=true)
  (hL:laidMetH Tryz.prog Rows.algebraPrintRow.laid W) :
  Calls Tryz.prog 5 args W fun e W'=>∃v,e= .returned v∧Rows.algebraPrintSpec.post enc Tryz.prog Tryz.f5 false true false false W args v W':=by
 have hW':=hW
 obtain ⟨p,q,hA0,hV,rfl,hfz,hnd⟩:=hW
 have hA:DataW.TrodAll enc Tryz.prog W 0 (fun _=>true) true Tryz.f5.params.toList args.toList ds p:=hA0
 rw[Tryz.params5] at hA hval
 obtain ⟨v0,vs0,d0,ds0,p0,q0,hargs,rfl,rfl,h0,r0⟩:=trodAll_cons hA
 obtain ⟨v1,vs1,d1,ds1,p1,q1,rfl,rfl,rfl,h1,r1⟩:=trodAll_cons r0
 obtain ⟨rfl,rfl,rfl⟩:=trodAll_nil r1
 obtain rfl:args= #[v0,v1]:=by cases args;simp_all
 obtain ⟨rfl,rfl⟩:=trodVars_none hV
 have hw0:∀m∈d0.weights Tryz.prog 33,m≤reachBytes:=fun m hm=>by
  have:=List.all_eq_true.1 hsz m (DataW.weights_mem_each (j:=0) (t:=33) (d:=d0) (by rw[Tryz.params5];rfl) rfl m hm)
  simpa using this
 obtain ⟨x0,y0,hfit0⟩:=f4p (hval 0 33 v0 rfl rfl) h0 hw0
 have hw1:∀m∈d1.weights Tryz.prog 33,m≤reachBytes:=fun m hm=>by
  have:=List.all_eq_true.1 hsz m (DataW.weights_mem_each (j:=1) (t:=33) (d:=d1) (by rw[Tryz.params5];rfl) rfl m hm)
  simpa using this
 obtain ⟨x1,y1,hfit1⟩:=f4p (hval 1 33 v1 rfl rfl) h1 hw1
 clear hA0
 simp only[List.append_nil] at hW'
 refine (f3y (ct:=c5) (k5) (K:=5) hL (by rfl) (ds:=[x0,x1]) ⟨hfit0,hfit1⟩ rfl (.cons y0 (.cons y1 .nil))).mono fun e W' ⟨v,lim',he,hE,hr⟩=>?_
 subst he
 have hv:=hr.lit_inv
 subst hv
 exact ⟨_,rfl,_,_,_, [],_, [],hW',trodAll_cons_mk (shut_bool Tryz.underlying4 _) trodAll_mk0,
  trodAll_cons_mk (c2e (by decide) h0 hE) (trodAll_cons_mk (c2e (by decide) h1 hE) trodAll_mk0),rfl,e6z hE _,fun h=>by cases h⟩
def c5v:Value:=.agg #[.int .i64 0, .int .i64 0, .slice none 0 0, .int .i64 0, .int .i64 0, .int .i64 0, .int .i64 0, .slice none 0 0, .bool false, .int .i64 0, .slice none 0 0, .int .i64 0, .slice none 0 0, .slice none 0 0, .string ⟨#[]⟩, .slice none 0 0]
def g4p {H:Type}:DataW H:=.agg [.lit (.int .i64 0), .lit (.int .i64 0), .nil, .lit (.int .i64 0), .lit (.int .i64 0), .agg [.lit (.int .i64 0), .lit (.int .i64 0)], .nil, .lit (.bool false), .lit (.int .i64 0), .nil, .agg [.lit (.int .i64 0), .nil, .nil], .lit (.string []), .nil]
theorem h4h (os:Os) {H:Type} (enc:TypeId×Value→H):∃places,DataW.whole enc Tryz.prog ((b7i os).forCall (fun _ _=>0) ⟨#[], #[c5v,c5v], []⟩).memory Tryz.f5.params.toList Rows.algebraPrintSpec.vars false (#[c5v,c5v]:Array Value).toList 8=some ([g4p,g4p], [],places) :=
 ⟨[],by kernel_rfl⟩
set_option maxRecDepth 100000 in
theorem lifted (os : Os) (started : os.Started) (H : Type) (enc : TypeId × Value → H) (F : Stop.Interp) :
  ReturnsInHanded {} Tryz.checked os 5 .any ((OpenSpec.ofChange Rows.algebraPrintSpec).preRow enc Tryz.prog Tryz.f5 Rows.algebraPrintRow.domain false Rows.algebraPrintRow.laid) (((OpenSpec.ofChange Rows.algebraPrintSpec).at F).post enc Tryz.prog Tryz.f5 false true false false) := by
 obtain ⟨places, hx⟩ := h4h os enc
 refine returnsInHanded_of_row (C := Tryz.checked) (s := OpenSpec.ofChange Rows.algebraPrintSpec) own started (by kernel_rfl) Tryz.func5
  (witness_row_atRef (enc := enc) (C := Tryz.checked) false (b7i os) #[c5v, c5v] rfl (by kernel_rfl) (by kernel_rfl) (by kernel_rfl)
   (OpenSpec.preRow_of_cond 8 hx (by kernel_rfl) (fun k hk => by cases hk) (by kernel_rfl) (f2f os _))) ?_
 intro W B9 args ds gs before hval hW _ _ hsz hL hs _
 exact f3u H enc W B9 args ds gs before hval hW hsz hL
end Go.Proofs.YtnnhlphbfpnaaaaGreatDoor.algebraPrint
end
