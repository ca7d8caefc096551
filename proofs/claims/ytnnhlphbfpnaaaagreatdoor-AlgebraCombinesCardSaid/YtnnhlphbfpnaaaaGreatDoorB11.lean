/- What the proofs of the lexer's laws share, part 11 of 13. -/
import Derived.Test.YtnnhlphbfpnaaaaGreatDoorB9
import Derived.Test.YtnnhlphbfpnaaaaGreatDoorB10
set_option linter.unusedVariables false
set_option linter.unusedSimpArgs false
section
set_option linter.unusedVariables false
set_option linter.unusedSimpArgs false
namespace Go.Proofs.YtnnhlphbfpnaaaaGreatDoor.algebraCombines
open Go.ChangeShapes Go.WideShapes Go.ChangeAt Go.ChangeMaps Go.RowKit Go.Proofs.YtnnhlphbfpnaaaaGreatDoor Go.Ev Go.Ev.R2
set_option maxRecDepth 1000000 in
theorem contract (H : Type) (enc : TypeId × Value → H) (W : World) (base : Nat) (args : Array Value) (ds gs : List (DataW H)) (before : List MemPlace)
    (hval : ∀ (j : Nat) t v, Tryz.f10.params[j]? = some t → args[j]? = some v → Value.okWide Tryz.prog W .any base t v)
    (hW : DataW.Whole enc Tryz.prog Tryz.f10.params.toList Rows.algebraCombinesSpec.vars false W args.toList ds gs before)
    (hsz : (DataW.weightsEach Tryz.prog (Tryz.f10.params.toList ++ (OpenSpec.ofChange Rows.algebraCombinesSpec).bare.plain.varTypes Tryz.prog) (ds ++ gs)).all (· ≤ reachBytes) = true)
    (hL : laidMetH Tryz.prog Rows.algebraCombinesRow.laid W) :
    Calls Tryz.prog 10 args W fun e W' => ∃ v, e = .returned v ∧ Rows.algebraCombinesSpec.post enc Tryz.prog Tryz.f10 false true false false W args v W' := by
  have hW' := hW
  obtain ⟨p, q, hA0, hV, rfl, hfz, hnd⟩ := hW
  have hA : DataW.TrodAll enc Tryz.prog W 0 (fun _ => true) true Tryz.f10.params.toList args.toList ds p := hA0
  rw [Tryz.params10] at hA hval
  obtain ⟨v0, vs0, d0, ds0, p0, q0, hargs, rfl, rfl, h0, r0⟩ := trodAll_cons hA
  obtain ⟨v1, vs1, d1, ds1, p1, q1, rfl, rfl, rfl, h1, r1⟩ := trodAll_cons r0
  obtain ⟨v2, vs2, d2, ds2, p2, q2, rfl, rfl, rfl, h2, r2⟩ := trodAll_cons r1
  obtain ⟨rfl, rfl, rfl⟩ := trodAll_nil r2
  obtain rfl : args = #[v0, v1, v2] := by cases args; simp_all
  obtain ⟨rfl, rfl⟩ := trodVars_none hV
  have hw0 : ∀ m ∈ d0.weights Tryz.prog 33, m ≤ reachBytes := fun m hm => by
    have := List.all_eq_true.1 hsz m (DataW.weights_mem_each (j := 0) (t := 33) (d := d0) (by rw [Tryz.params10]; rfl) rfl m hm)
    simpa using this
  obtain ⟨x0, y0, hfit0⟩ := arg33 (hval 0 33 v0 rfl rfl) h0 hw0
  have hw1 : ∀ m ∈ d1.weights Tryz.prog 33, m ≤ reachBytes := fun m hm => by
    have := List.all_eq_true.1 hsz m (DataW.weights_mem_each (j := 1) (t := 33) (d := d1) (by rw [Tryz.params10]; rfl) rfl m hm)
    simpa using this
  obtain ⟨x1, y1, hfit1⟩ := arg33 (hval 1 33 v1 rfl rfl) h1 hw1
  obtain ⟨x2, rfl, rfl, rfl, z2⟩ := open_int Tryz.underlying5 (hval 2 5 v2 rfl rfl) h2
  have hfit2 : 0 ≤ x2 ∧ x2 < 256 := by
    have := z2
    simp only [Lit.wf, Bool.and_eq_true, decide_eq_true_eq] at this
    exact ⟨this.1, Int.lt_of_le_of_lt this.2 (by decide)⟩
  clear hA0
  simp only [List.append_nil] at hW'
  refine (call_row (ct := c10) (k10 k14) (K := 10) hL (by rfl) (ds := [x0, x1, .lit (.int .u8 x2)]) ⟨hfit0, hfit1, hfit2.1, hfit2.2⟩ rfl (.cons y0 (.cons y1 (.cons (.lit (by simp)) .nil)))).mono fun e W' ⟨v, lim', he, hE, hr⟩ => ?_
  subst he
  have hv := hr.lit_inv
  subst hv
  exact ⟨_, rfl, _, _, _, [], _, [], hW', trodAll_cons_mk (shut_bool Tryz.underlying4 _) trodAll_mk0,
    trodAll_cons_mk (trod_later (by decide) h0 hE) (trodAll_cons_mk (trod_later (by decide) h1 hE) (trodAll_cons_mk (shut_int Tryz.underlying5 z2) trodAll_mk0)), rfl, ext_frame hE _, fun h => by cases h⟩
def zeroE : Value := .agg #[.int .i64 0, .int .i64 0, .slice none 0 0, .int .i64 0, .int .i64 0, .int .i64 0, .int .i64 0, .slice none 0 0, .bool false, .int .i64 0, .slice none 0 0, .int .i64 0, .slice none 0 0, .slice none 0 0, .string ⟨#[]⟩, .slice none 0 0]
def zeroD {H : Type} : DataW H := .agg [.lit (.int .i64 0), .lit (.int .i64 0), .nil, .lit (.int .i64 0), .lit (.int .i64 0), .agg [.lit (.int .i64 0), .lit (.int .i64 0)], .nil, .lit (.bool false), .lit (.int .i64 0), .nil, .agg [.lit (.int .i64 0), .nil, .nil], .lit (.string []), .nil]
theorem reads (os : Os) {H : Type} (enc : TypeId × Value → H) : ∃ places, DataW.whole enc Tryz.prog ((laidWorld os).forCall (fun _ _ => 0) ⟨#[], #[zeroE, zeroE, .int .u8 0], []⟩).memory Tryz.f10.params.toList Rows.algebraCombinesSpec.vars false (#[zeroE, zeroE, .int .u8 0] : Array Value).toList 8 = some ([zeroD, zeroD, .lit (.int .u8 0)], [], places) :=
  ⟨[], by kernel_rfl⟩
set_option maxRecDepth 100000 in
theorem lifted (os : Os) (started : os.Started) (H : Type) (enc : TypeId × Value → H) (F : Stop.Interp) :
    ReturnsInHanded {} Tryz.checked os 10 .any ((OpenSpec.ofChange Rows.algebraCombinesSpec).preRow enc Tryz.prog Tryz.f10 Rows.algebraCombinesRow.domain false Rows.algebraCombinesRow.laid) (((OpenSpec.ofChange Rows.algebraCombinesSpec).at F).post enc Tryz.prog Tryz.f10 false true false false) := by
  obtain ⟨places, hx⟩ := reads os enc
  refine returnsInHanded_of_row (C := Tryz.checked) (s := OpenSpec.ofChange Rows.algebraCombinesSpec) own started (by kernel_rfl) Tryz.func10
    (witness_row_atRef (enc := enc) (C := Tryz.checked) false (laidWorld os) #[zeroE, zeroE, .int .u8 0] rfl (by kernel_rfl) (by kernel_rfl) (by kernel_rfl)
      (OpenSpec.preRow_of_cond 8 hx (by kernel_rfl) (fun k hk => by cases hk) (by kernel_rfl) (laid_met os _))) ?_
  intro W base args ds gs before hval hW _ _ hsz hL hs _
  exact contract H enc W base args ds gs before hval hW hsz hL
end Go.Proofs.YtnnhlphbfpnaaaaGreatDoor.algebraCombines
end
