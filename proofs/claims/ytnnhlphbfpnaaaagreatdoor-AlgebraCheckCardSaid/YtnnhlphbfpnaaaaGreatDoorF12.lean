/- What the proofs of the lexer's laws share, part 12 of 14. -/
import Derived.Test.YtnnhlphbfpnaaaaGreatDoorF9
import Derived.Test.YtnnhlphbfpnaaaaGreatDoorF10
import Derived.Test.YtnnhlphbfpnaaaaGreatDoorF11
import Derived.Test.YtnnhlphbfpnaaaaGreatDoorF8
set_option linter.unusedVariables false
set_option linter.unusedSimpArgs false
section
namespace Go.Proofs.YtnnhlphbfpnaaaaGreatDoor.algebraCheck
open Go.ChangeShapes Go.WideShapes Go.ChangeAt Go.ChangeMaps Go.RowKit Go.Proofs.YtnnhlphbfpnaaaaGreatDoor Go.Ev Go.Ev.R2
set_option maxRecDepth 1000000 in
theorem contract (H : Type) (enc : TypeId × Value → H) (W : World) (base : Nat) (args : Array Value) (ds gs : List (DataW H)) (before : List MemPlace)
  (hval : ∀ (j : Nat) t v, Tryz.f3.params[j]? = some t → args[j]? = some v → Value.okWide Tryz.prog W .any base t v)
  (hW : DataW.Whole enc Tryz.prog Tryz.f3.params.toList Rows.algebraCheckSpec.vars false W args.toList ds gs before)
  (hsz : (DataW.weightsEach Tryz.prog (Tryz.f3.params.toList ++ (OpenSpec.ofChange Rows.algebraCheckSpec).bare.plain.varTypes Tryz.prog) (ds ++ gs)).all (· ≤ reachBytes) = true)
  (hL : laidMetH Tryz.prog Rows.algebraCheckRow.laid W) :
  Calls Tryz.prog 3 args W fun e W' => ∃ v, e = .returned v ∧ Rows.algebraCheckSpec.post enc Tryz.prog Tryz.f3 false true false false W args v W' := by
 have hW' := hW
 obtain ⟨p, q, hA0, hV, rfl, hfz, hnd⟩ := hW
 have hA : DataW.TrodAll enc Tryz.prog W 0 (fun _ => true) true Tryz.f3.params.toList args.toList ds p := hA0
 rw [Tryz.params3] at hA hval
 obtain ⟨v0, vs0, d0, ds0, p0, q0, hargs, rfl, rfl, h0, r0⟩ := trodAll_cons hA
 obtain ⟨rfl, rfl, rfl⟩ := trodAll_nil r0
 obtain rfl : args = #[v0] := by cases args; simp_all
 obtain ⟨rfl, rfl⟩ := trodVars_none hV
 have hw0 : ∀ m ∈ d0.weights Tryz.prog 33, m ≤ reachBytes := fun m hm => by
  have := List.all_eq_true.1 hsz m (DataW.weights_mem_each (j := 0) (t := 33) (d := d0) (by rw [Tryz.params3]; rfl) rfl m hm)
  simpa using this
 obtain ⟨x0, y0, hfit0⟩ := arg33b (hval 0 33 v0 rfl rfl) h0 hw0
 clear hA0
 simp only [List.append_nil] at hW'
 refine (call_row (ct := c3) (k3 (add_ok k16 fun ds r hp hr => k14 14 c14 ds r rfl hp hr)) (K := 3) hL (by rfl) (ds := [x0]) hfit0 rfl (.cons y0 .nil)).mono fun e W' ⟨v, lim', he, hE, hr⟩ => ?_
 subst he
 have hv := hr.lit_inv
 subst hv
 exact ⟨_, rfl, _, _, _, [], _, [], hW', trodAll_cons_mk (shut_bool Tryz.underlying4 _) trodAll_mk0,
  trodAll_cons_mk (trod_later (by decide) h0 hE) trodAll_mk0, rfl, ext_frame hE _, fun h => by cases h⟩
def zeroE : Value := .agg #[.int .i64 0, .int .i64 0, .slice none 0 0, .int .i64 0, .int .i64 0, .int .i64 0, .int .i64 0, .slice none 0 0, .bool false, .int .i64 0, .slice none 0 0, .int .i64 0, .slice none 0 0, .slice none 0 0, .string ⟨#[]⟩, .slice none 0 0]
def zeroD {H : Type} : DataW H := .agg [.lit (.int .i64 0), .lit (.int .i64 0), .nil, .lit (.int .i64 0), .lit (.int .i64 0), .agg [.lit (.int .i64 0), .lit (.int .i64 0)], .nil, .lit (.bool false), .lit (.int .i64 0), .nil, .agg [.lit (.int .i64 0), .nil, .nil], .lit (.string []), .nil]
theorem reads (os : Os) {H : Type} (enc : TypeId × Value → H) : ∃ places, DataW.whole enc Tryz.prog ((laidWorld os).forCall (fun _ _ => 0) ⟨#[], #[zeroE], []⟩).memory Tryz.f3.params.toList Rows.algebraCheckSpec.vars false (#[zeroE] : Array Value).toList 8 = some ([zeroD], [], places) :=
 ⟨[], by kernel_rfl⟩
set_option maxRecDepth 100000 in
theorem lifted (os : Os) (started : os.Started) (H : Type) (enc : TypeId × Value → H) (F : Stop.Interp) :
  ReturnsInHanded {} Tryz.checked os 3 .any ((OpenSpec.ofChange Rows.algebraCheckSpec).preRow enc Tryz.prog Tryz.f3 Rows.algebraCheckRow.domain false Rows.algebraCheckRow.laid) (((OpenSpec.ofChange Rows.algebraCheckSpec).at F).post enc Tryz.prog Tryz.f3 false true false false) := by
 obtain ⟨places, hx⟩ := reads os enc
 refine returnsInHanded_of_row (C := Tryz.checked) (s := OpenSpec.ofChange Rows.algebraCheckSpec) own started (by kernel_rfl) Tryz.func3
  (witness_row_atRef (enc := enc) (C := Tryz.checked) false (laidWorld os) #[zeroE] rfl (by kernel_rfl) (by kernel_rfl) (by kernel_rfl)
   (OpenSpec.preRow_of_cond 8 hx (by kernel_rfl) (fun k hk => by cases hk) (by kernel_rfl) (laid_met os _))) ?_
 intro W base args ds gs before hval hW _ _ hsz hL hs _
 exact contract H enc W base args ds gs before hval hW hsz hL
end Go.Proofs.YtnnhlphbfpnaaaaGreatDoor.algebraCheck
end
