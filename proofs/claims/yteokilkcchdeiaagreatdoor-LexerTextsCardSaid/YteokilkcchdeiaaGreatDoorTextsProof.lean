/- LexerTexts: at every string, number, fraction and index the law returns true; the tied card, with no condition. -/
import Derived.Test.YteokilkcchdeiaaGreatDoorU1
import Derived.ChangeSame
import Derived.Test.YteokilkcchdeiaaGreatDoorU7
set_option linter.unusedVariables false
set_option linter.unusedSimpArgs false
section
namespace Go.Proofs.YteokilkcchdeiaaGreatDoor.lexerTexts
open Go.ChangeShapes Go.WideShapes Go.ChangeAt Go.ChangeMaps Go.RowKit Go.Proofs.YteokilkcchdeiaaGreatDoor Go.Proofs.YteokilkcchdeiaaGreatDoor.Q Go.Proofs.YteokilkcchdeiaaGreatDoor.X
theorem cellsI : Tryz.prog.cellsOf 3 = 1 := by kernel_rfl
theorem cellsR : Tryz.prog.cellsOf 27 = 2 := by kernel_rfl
set_option maxRecDepth 1000000 in
theorem contract (H : Type) (enc : TypeId × Value → H) (W : World) (base : Nat) (args : Array Value) (ds gs : List (DataW H)) (before : List MemPlace)
    (hval : ∀ (j : Nat) t v, Tryz.f7.params[j]? = some t → args[j]? = some v → Value.okWide Tryz.prog W .any base t v)
    (hW : DataW.Whole enc Tryz.prog Tryz.f7.params.toList Rows.lexerTextsSpec.vars false W args.toList ds gs before) (hL : laidMetH Tryz.prog Rows.lexerTextsRow.laid W) (hs : W.ShapedOpen Tryz.prog) :
    Calls Tryz.prog 7 args W fun e W' => ∃ v, e = .returned v ∧ Rows.lexerTextsSpec.post enc Tryz.prog Tryz.f7 false true false false W args v W' := by
  have hW' := hW
  obtain ⟨p, q, hA0, hV, rfl, hfz, hnd⟩ := hW
  have hA : DataW.TrodAll enc Tryz.prog W 0 (fun _ => true) true Tryz.f7.params.toList args.toList ds p := hA0
  rw [Tryz.params7] at hA hval
  obtain ⟨v0, vs0, d0, ds0, p0, q0, hargs, rfl, rfl, h0, r0⟩ := trodAll_cons hA
  obtain ⟨v1, vs1, d1, ds1, p1, q1, rfl, rfl, rfl, h1, r1⟩ := trodAll_cons r0
  obtain ⟨v2, vs2, d2, ds2, p2, q2, rfl, rfl, rfl, h2, r2⟩ := trodAll_cons r1
  obtain ⟨v3, vs3, d3, ds3, p3, q3, rfl, rfl, rfl, h3, r3⟩ := trodAll_cons r2
  obtain ⟨rfl, rfl, rfl⟩ := trodAll_nil r3
  obtain rfl : args = #[v0, v1, v2, v3] := by cases args; simp_all
  obtain ⟨rfl, rfl⟩ := trodVars_none hV
  obtain ⟨x0, rfl, rfl, rfl, z0⟩ := open_string Tryz.underlying9 (hval 0 9 v0 rfl rfl) h0
  obtain ⟨x1, rfl, rfl, rfl, z1⟩ := open_int Tryz.underlying3 (hval 1 3 v1 rfl rfl) h1
  obtain ⟨cs2, rfl, hsz2⟩ := okWide_struct Tryz.underlying27 (hval 2 27 v2 rfl rfl)
  rw [cellsR] at hsz2
  obtain ⟨l2⟩ := cs2
  match l2, hsz2 with
  | [c0, c1], _ =>
  obtain ⟨fuel, hf⟩ := h2
  obtain ⟨y0_, y1_, m_, hx, _, hy0, hy1⟩ := trod_struct2 Tryz.underlying27 hf
  obtain ⟨x2a, e0_, rfl, z2a⟩ := DataW.trod_int Tryz.underlying3 hy0
  obtain ⟨x2b, e1_, rfl, z2b⟩ := DataW.trod_int Tryz.underlying3 hy1
  simp [Value.cells, cellsI] at e0_ e1_
  subst e0_ e1_
  simp only [Prod.mk.injEq] at hx
  obtain ⟨rfl, rfl⟩ := hx
  have structReads : ∀ (W' : World) (sp : Nat → Bool), DataW.Trod enc Tryz.prog W' 0 sp true 27 (.agg #[.int .i64 x2a, .int .i64 x2b]) (.agg [.lit (.int .i64 x2a), .lit (.int .i64 x2b)]) [] := fun W' sp => ⟨2, by
    have f0 : DataW.trod enc Tryz.prog W' 0 sp true 1 3 [.int .i64 x2a] = some (.lit (.int .i64 x2a), []) := by simp [DataW.trod, Tryz.underlying3, z2a]
    have f1 : DataW.trod enc Tryz.prog W' 0 sp true 1 3 [.int .i64 x2b] = some (.lit (.int .i64 x2b), []) := by simp [DataW.trod, Tryz.underlying3, z2b]
    have := trod_struct2_mk (enc := enc) (w := W') (base := 0) (spare := sp) (held := true) (n := 1) (cs := [.int .i64 x2a, .int .i64 x2b]) Tryz.underlying27 (by simp [cellsR]) (by simpa [cellsI] using f0) (by simpa [cellsI] using f1)
    simpa [Value.cells] using this⟩
  obtain ⟨x3, rfl, rfl, rfl, z3⟩ := open_int Tryz.underlying3 (hval 3 3 v3 rfl rfl) h3
  clear hA0
  simp only [List.append_nil] at hW'
  have y1 : -9223372036854775808 ≤ x1 ∧ x1 ≤ 9223372036854775807 := by
    have h2 : IntKind.i64.min ≤ x1 ∧ x1 ≤ IntKind.i64.max := by simpa [Lit.wf] using z1
    have e1 : IntKind.i64.min = -9223372036854775808 := by decide +kernel
    have e2 : IntKind.i64.max = 9223372036854775807 := by decide +kernel
    rw [e1, e2] at h2
    exact h2
  have y3 : -9223372036854775808 ≤ x3 ∧ x3 ≤ 9223372036854775807 := by
    have h2 : IntKind.i64.min ≤ x3 ∧ x3 ≤ IntKind.i64.max := by simpa [Lit.wf] using z3
    have e1 : IntKind.i64.min = -9223372036854775808 := by decide +kernel
    have e2 : IntKind.i64.max = 9223372036854775807 := by decide +kernel
    rw [e1, e2] at h2
    exact h2
  refine (lookoutlaw42_LexerTexts.calls (x2b.toNat + 3000) x0 x1 x2a x2b x3 true W (D.tabs hL hs) (texts_t x0 x1 x2a x2b x3)).mono fun e W' ⟨he, hb⟩ => ?_
  subst he
  exact ⟨_, rfl, _, _, _, [], [], [], hW', trodAll_cons_mk (shut_bool Tryz.underlying4 _) trodAll_mk0,
    trodAll_cons_mk (shut_string Tryz.underlying9 z0) (trodAll_cons_mk (shut_int Tryz.underlying3 z1) (trodAll_cons_mk (structReads _ _) (trodAll_cons_mk (shut_int Tryz.underlying3 z3) trodAll_mk0))), rfl, hb.frame _, fun h => by cases h⟩
theorem reads (os : Os) {H : Type} (enc : TypeId × Value → H) : ∃ places, DataW.whole enc Tryz.prog ((D.laidWorld os).forCall (fun _ _ => 0) ⟨#[], #[.string ⟨#[]⟩, .int .i64 0, .agg #[.int .i64 0, .int .i64 0], .int .i64 0], []⟩).memory Tryz.f7.params.toList Rows.lexerTextsSpec.vars false #[Value.string ⟨#[]⟩, .int .i64 0, .agg #[.int .i64 0, .int .i64 0], .int .i64 0].toList 8 = some ([.lit (.string []), .lit (.int .i64 0), .agg [.lit (.int .i64 0), .lit (.int .i64 0)], .lit (.int .i64 0)], [], places) :=
  ⟨[], by kernel_rfl⟩
set_option maxRecDepth 100000 in
theorem lifted (os : Os) (started : os.Started) (H : Type) (enc : TypeId × Value → H) (F : Stop.Interp) :
    ReturnsInHanded {} Tryz.checked os 7 .any ((OpenSpec.ofChange Rows.lexerTextsSpec).preRow enc Tryz.prog Tryz.f7 Rows.lexerTextsRow.domain false Rows.lexerTextsRow.laid) (((OpenSpec.ofChange Rows.lexerTextsSpec).at F).post enc Tryz.prog Tryz.f7 false true false false) := by
  obtain ⟨places, hx⟩ := reads os enc
  refine returnsInHanded_of_row (C := Tryz.checked) (s := OpenSpec.ofChange Rows.lexerTextsSpec) D.own started (by kernel_rfl) Tryz.func7
    (witness_row_atRef (enc := enc) (C := Tryz.checked) false (D.laidWorld os) #[.string ⟨#[]⟩, .int .i64 0, .agg #[.int .i64 0, .int .i64 0], .int .i64 0] rfl (by kernel_rfl) (by kernel_rfl) (by kernel_rfl)
      (OpenSpec.preRow_of_cond 8 hx (by kernel_rfl) (fun k hk => by cases hk) (by kernel_rfl) (D.laid_met os _))) ?_
  intro W base args ds gs before hval hW _ _ _ hL hs _
  exact contract H enc W base args ds gs before hval hW hL hs
theorem said : Rows.LexerTextsSaid :=
  OpenClaim.holds_of_cond 7 Tryz.f7 rfl rfl rfl rfl rfl rfl rfl ⟨rfl, rfl, rfl, rfl, rfl⟩ rfl rfl rfl rfl rfl (by kernel_rfl) Tryz.func7 (by kernel_rfl)
    (of_decide_eq_true (by kernel_rfl)) (by unfold Func.isWrapper; first | (rw [if_pos (by decide +kernel)]; kernel_rfl) | (rw [if_neg (by decide +kernel)]; exact ⟨rfl, rfl⟩))
    (fun os started H enc _ F => by rw [OpenClaim.pre_eq_preRow]; exact lifted os started H enc F)
theorem plain (f : FuncId) (fn : Func) (hf : Tryz.pinned.checked.prog.funcNamed "lookout/lookoutlaw42.LexerTexts" = some f) (hfn : Tryz.pinned.checked.prog.funcs[f]? = some fn) :
    true = Tryz.pinned.checked.prog.looks [] ∧ ∀ (j : Nat) t, fn.params[j]? = some t → Tryz.pinned.checked.prog.wantsStandIn t = false := by
  obtain rfl : f = 7 := Option.some.inj ((show Tryz.prog.funcNamed "lookout/lookoutlaw42.LexerTexts" = some 7 by kernel_rfl).symm.trans hf) |>.symm
  obtain rfl : fn = Tryz.f7 := (Option.some.inj (Tryz.func7.symm.trans hfn)).symm
  refine ⟨by kernel_rfl, fun j t ht => ?_⟩
  rw [Tryz.params7] at ht
  have hm := Array.mem_of_getElem? ht
  simp only [List.mem_toArray, List.mem_cons, List.not_mem_nil, or_false] at hm
  rcases hm with rfl | rfl | rfl | rfl
  · exact (show Tryz.prog.wantsStandIn 9 = false by kernel_rfl)
  · exact (show Tryz.prog.wantsStandIn 3 = false by kernel_rfl)
  · exact (show Tryz.prog.wantsStandIn 27 = false by kernel_rfl)
  · exact (show Tryz.prog.wantsStandIn 3 = false by kernel_rfl)
theorem card : Rows.LexerTextsCardSaid :=
  Claim7.holds_tied_plain_at .later [] _ _ _ _ said (fun _ h => by cases h) (by kernel_rfl) (fun _ h => by cases h) lexerTexts_row_tie rfl ⟨rfl, rfl⟩ (by kernel_rfl) rfl plain (by kernel_rfl)
end Go.Proofs.YteokilkcchdeiaaGreatDoor.lexerTexts
end
