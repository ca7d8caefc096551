/- LexerNumbers: at every fraction the law returns true; the tied card, with no condition. -/
import Derived.Test.YteokilkcchdeiaaGreatDoorM1
import Derived.Test.YteokilkcchdeiaaGreatDoorM7
import Derived.ChangeSame
set_option linter.unusedVariables false
set_option linter.unusedSimpArgs false
section
namespace Go.Proofs.YteokilkcchdeiaaGreatDoor.lexerNumbers
open Go.ChangeShapes Go.WideShapes Go.ChangeAt Go.ChangeMaps Go.RowKit Go.Proofs.YteokilkcchdeiaaGreatDoor Go.Proofs.YteokilkcchdeiaaGreatDoor.Q Go.Proofs.YteokilkcchdeiaaGreatDoor.X
theorem cellsI : Tryz.prog.cellsOf 3 = 1 := by kernel_rfl
theorem cellsR : Tryz.prog.cellsOf 27 = 2 := by kernel_rfl
set_option maxRecDepth 1000000 in
theorem contract (H : Type) (enc : TypeId × Value → H) (W : World) (base : Nat) (args : Array Value) (ds gs : List (DataW H)) (before : List MemPlace)
    (hval : ∀ (j : Nat) t v, Tryz.f4.params[j]? = some t → args[j]? = some v → Value.okWide Tryz.prog W .any base t v)
    (hW : DataW.Whole enc Tryz.prog Tryz.f4.params.toList Rows.lexerNumbersSpec.vars false W args.toList ds gs before) (hL : laidMetH Tryz.prog Rows.lexerNumbersRow.laid W) (hs : W.ShapedOpen Tryz.prog) :
    Calls Tryz.prog 4 args W fun e W' => ∃ v, e = .returned v ∧ Rows.lexerNumbersSpec.post enc Tryz.prog Tryz.f4 false true false false W args v W' := by
  have hW' := hW
  obtain ⟨p, q, hA0, hV, rfl, hfz, hnd⟩ := hW
  have hA : DataW.TrodAll enc Tryz.prog W 0 (fun _ => true) true Tryz.f4.params.toList args.toList ds p := hA0
  rw [Tryz.params4] at hA hval
  obtain ⟨v0, vs0, d0, ds0, p0, q0, hargs, rfl, rfl, h0, r0⟩ := trodAll_cons hA
  obtain ⟨rfl, rfl, rfl⟩ := trodAll_nil r0
  obtain rfl : args = #[v0] := by cases args; simp_all
  obtain ⟨rfl, rfl⟩ := trodVars_none hV
  obtain ⟨cs, rfl, hsz⟩ := okWide_struct Tryz.underlying27 (hval 0 27 v0 rfl rfl)
  rw [cellsR] at hsz
  obtain ⟨l⟩ := cs
  match l, hsz with
  | [c0, c1], _ =>
  obtain ⟨fuel, hf⟩ := h0
  obtain ⟨y0, y1, m, hx, _, hy0, hy1⟩ := trod_struct2 Tryz.underlying27 hf
  obtain ⟨x0, e0, rfl, z0⟩ := DataW.trod_int Tryz.underlying3 hy0
  obtain ⟨x1, e1, rfl, z1⟩ := DataW.trod_int Tryz.underlying3 hy1
  simp [Value.cells, cellsI] at e0 e1
  subst e0 e1
  simp only [Prod.mk.injEq] at hx
  obtain ⟨rfl, rfl⟩ := hx
  clear hA0
  simp only [List.append_nil] at hW'
  have structReads : ∀ (W' : World) (sp : Nat → Bool), DataW.Trod enc Tryz.prog W' 0 sp true 27 (.agg #[.int .i64 x0, .int .i64 x1]) (.agg [.lit (.int .i64 x0), .lit (.int .i64 x1)]) [] := fun W' sp => ⟨2, by
    have f0 : DataW.trod enc Tryz.prog W' 0 sp true 1 3 [.int .i64 x0] = some (.lit (.int .i64 x0), []) := by simp [DataW.trod, Tryz.underlying3, z0]
    have f1 : DataW.trod enc Tryz.prog W' 0 sp true 1 3 [.int .i64 x1] = some (.lit (.int .i64 x1), []) := by simp [DataW.trod, Tryz.underlying3, z1]
    have := trod_struct2_mk (enc := enc) (w := W') (base := 0) (spare := sp) (held := true) (n := 1) (cs := [.int .i64 x0, .int .i64 x1]) Tryz.underlying27 (by simp [cellsR]) (by simpa [cellsI] using f0) (by simpa [cellsI] using f1)
    simpa [Value.cells] using this⟩
  have y0 : -9223372036854775808 ≤ x0 ∧ x0 ≤ 9223372036854775807 := by
    have h2 : IntKind.i64.min ≤ x0 ∧ x0 ≤ IntKind.i64.max := by simpa [Lit.wf] using z0
    have e1 : IntKind.i64.min = -9223372036854775808 := by decide +kernel
    have e2 : IntKind.i64.max = 9223372036854775807 := by decide +kernel
    rw [e1, e2] at h2
    exact h2
  refine (lookoutlaw42_LexerNumbers.calls _ x0 x1 true W (D.tabs hL hs) (numbers_t x0 x1 y0.1 y0.2)).mono fun e W' ⟨he, hb⟩ => ?_
  subst he
  exact ⟨_, rfl, _, _, _, [], [], [], hW', trodAll_cons_mk (shut_bool Tryz.underlying4 _) trodAll_mk0,
    trodAll_cons_mk (structReads _ _) trodAll_mk0, rfl, hb.frame _, fun h => by cases h⟩
theorem reads (os : Os) {H : Type} (enc : TypeId × Value → H) : ∃ places, DataW.whole enc Tryz.prog ((D.laidWorld os).forCall (fun _ _ => 0) ⟨#[], #[.agg #[.int .i64 0, .int .i64 0]], []⟩).memory Tryz.f4.params.toList Rows.lexerNumbersSpec.vars false #[Value.agg #[.int .i64 0, .int .i64 0]].toList 8 = some ([.agg [.lit (.int .i64 0), .lit (.int .i64 0)]], [], places) :=
  ⟨[], by kernel_rfl⟩
set_option maxRecDepth 100000 in
theorem lifted (os : Os) (started : os.Started) (H : Type) (enc : TypeId × Value → H) (F : Stop.Interp) :
    ReturnsInHanded {} Tryz.checked os 4 .any ((OpenSpec.ofChange Rows.lexerNumbersSpec).preRow enc Tryz.prog Tryz.f4 Rows.lexerNumbersRow.domain false Rows.lexerNumbersRow.laid) (((OpenSpec.ofChange Rows.lexerNumbersSpec).at F).post enc Tryz.prog Tryz.f4 false true false false) := by
  obtain ⟨places, hx⟩ := reads os enc
  refine returnsInHanded_of_row (C := Tryz.checked) (s := OpenSpec.ofChange Rows.lexerNumbersSpec) D.own started (by kernel_rfl) Tryz.func4
    (witness_row_atRef (enc := enc) (C := Tryz.checked) false (D.laidWorld os) #[.agg #[.int .i64 0, .int .i64 0]] rfl (by kernel_rfl) (by kernel_rfl) (by kernel_rfl)
      (OpenSpec.preRow_of_cond 8 hx (by kernel_rfl) (fun k hk => by cases hk) (by kernel_rfl) (D.laid_met os _))) ?_
  intro W base args ds gs before hval hW _ _ _ hL hs _
  exact contract H enc W base args ds gs before hval hW hL hs
theorem said : Rows.LexerNumbersSaid :=
  OpenClaim.holds_of_cond 4 Tryz.f4 rfl rfl rfl rfl rfl rfl rfl ⟨rfl, rfl, rfl, rfl, rfl⟩ rfl rfl rfl rfl rfl (by kernel_rfl) Tryz.func4 (by kernel_rfl)
    (of_decide_eq_true (by kernel_rfl)) (by unfold Func.isWrapper; first | (rw [if_pos (by decide +kernel)]; kernel_rfl) | (rw [if_neg (by decide +kernel)]; exact ⟨rfl, rfl⟩))
    (fun os started H enc _ F => by rw [OpenClaim.pre_eq_preRow]; exact lifted os started H enc F)
theorem plain (f : FuncId) (fn : Func) (hf : Tryz.pinned.checked.prog.funcNamed "lookout/lookoutlaw42.LexerNumbers" = some f) (hfn : Tryz.pinned.checked.prog.funcs[f]? = some fn) :
    true = Tryz.pinned.checked.prog.looks [] ∧ ∀ (j : Nat) t, fn.params[j]? = some t → Tryz.pinned.checked.prog.wantsStandIn t = false := by
  obtain rfl : f = 4 := Option.some.inj ((show Tryz.prog.funcNamed "lookout/lookoutlaw42.LexerNumbers" = some 4 by kernel_rfl).symm.trans hf) |>.symm
  obtain rfl : fn = Tryz.f4 := (Option.some.inj (Tryz.func4.symm.trans hfn)).symm
  refine ⟨by kernel_rfl, fun j t ht => ?_⟩
  rw [Tryz.params4] at ht
  have hm := Array.mem_of_getElem? ht
  simp only [List.mem_toArray, List.mem_cons, List.not_mem_nil, or_false] at hm
  subst hm
  exact (show Tryz.prog.wantsStandIn 27 = false by kernel_rfl)
theorem card : Rows.LexerNumbersCardSaid :=
  Claim7.holds_tied_plain_at .later [] _ _ _ _ said (fun _ h => by cases h) (by kernel_rfl) (fun _ h => by cases h) lexerNumbers_row_tie rfl ⟨rfl, rfl⟩ (by kernel_rfl) rfl plain (by kernel_rfl)
end Go.Proofs.YteokilkcchdeiaaGreatDoor.lexerNumbers
end
