/- What the proofs of the lexer's laws share, part 7 of 7. -/
import Derived.Test.YteokilkcchdeiaaGreatDoorM1
import Derived.Test.YteokilkcchdeiaaGreatDoorM2
import Derived.Test.YteokilkcchdeiaaGreatDoorM5
import Derived.Test.YteokilkcchdeiaaGreatDoorM6
import Derived.Lib.ItoaMem
import Derived.Lib.IndexLaws
set_option linter.unusedVariables false
set_option linter.unusedSimpArgs false
section
namespace Go.Proofs.YteokilkcchdeiaaGreatDoor.Q
open Go.Proofs.YteokilkcchdeiaaGreatDoor
open Go.Proofs.YteokilkcchdeiaaGreatDoor.X
open Go.RowKit Go.Proofs.YteokilkcchdeiaaGreatDoorW.PrintWords Go.Proofs.YteokilkcchdeiaaGreatDoorW.PrintLast Go.Proofs.YteokilkcchdeiaaGreatDoorW.PrintMore
attribute [local go_sem] max2_int min2_int max_two min_two max_three min_three max_four min_four   -- for this text's walks alone
set_option linter.unusedVariables false
set_option linter.unusedSimpArgs false
attribute [local go_sem high] eqA29
def lookoutlaw42_LexerNumbers.j0 : Nat → ByteArray → Bool → Int → Int → Option (Bool)
  | 0, _, _, _, _ => none
  | k + 1, x3, x41, x172000, x172001 => if x41 = true then ((lookoutlaw42_awake.f k).bind fun t180 => (some t180)) else ((lookoutlaw42_one.f x3).bind fun bt181 => (if bt181.2.2.2.2.2 = true then (if (bt181.1 == 2 && (bt181.2.1.toList == x3.toList && ((bt181.2.2.1 == x172000 && (bt181.2.2.2.1 == x172001)) && (bt181.2.2.2.2.1 == 0)))) = true then ((lookoutlaw42_awake.f k).bind fun t188 => (some t188)) else (some false)) else (some false)))
def lookoutlaw42_LexerNumbers.f (k : Nat) (a0_0 : Int) (a0_1 : Int) : Option (Bool) := (lexer_Number.f k a0_0 a0_1).bind fun t172 => ((ratio_Check.f k a0_0 a0_1).bind fun t173 => (if t173 = 0 then (if a0_0 < 0 then ((lexer_Number.f k (wrap64 (-a0_0)) a0_1).bind fun t176 => (if 1 + t176.size ≤ 9223372036854775807 then (if t172.toList = ((⟨#[45]⟩ : ByteArray) ++ t176).toList then ((lookoutlaw42_awake.f k).bind fun t177 => (some t177)) else (some false)) else (none))) else ((strings_Contains.f t172 (⟨#[47]⟩ : ByteArray)).bind fun t178 => (if t178 = true then (lookoutlaw42_LexerNumbers.j0 k t172 true a0_0 a0_1) else ((lookoutref03_Compare.f k a0_0 a0_1 1000000000000000000 1).bind fun t179 => (lookoutlaw42_LexerNumbers.j0 k t172 (decide (t179 ≥ 0)) a0_0 a0_1))))) else (if t172.toList = ([] : List UInt8) then ((lookoutlaw42_awake.f k).bind fun t174 => (some t174)) else (some false))))
set_option maxHeartbeats 8000000 in
set_option maxRecDepth 100000 in
theorem lookoutlaw42_LexerNumbers.calls (k : Nat) (a0_0 : Int) (a0_1 : Int) (r : Bool) (w : World) (hT : Tabs w) (h : lookoutlaw42_LexerNumbers.f k a0_0 a0_1 = some r) :
    Calls Tryz.prog 4 #[.agg #[.int .i64 a0_0, .int .i64 a0_1]] w fun e w' => e = .returned (.bool r) ∧ Below w.heap.size w w' := by
  have hu27 := Tryz.underlying27
  have hu29 := Tryz.underlying29
  have HT := Aside0.mk hT
  clear hT
  have HB := Aside0.mk (Below.refl w.heap.size w)
  have H : ((lexer_Number.f k a0_0 a0_1).bind fun t172 => ((ratio_Check.f k a0_0 a0_1).bind fun t173 => (if t173 = 0 then (if a0_0 < 0 then ((lexer_Number.f k (wrap64 (-a0_0)) a0_1).bind fun t176 => (if 1 + t176.size ≤ 9223372036854775807 then (if t172.toList = ((⟨#[45]⟩ : ByteArray) ++ t176).toList then ((lookoutlaw42_awake.f k).bind fun t177 => (some t177)) else (some false)) else (none))) else ((strings_Contains.f t172 (⟨#[47]⟩ : ByteArray)).bind fun t178 => (if t178 = true then (lookoutlaw42_LexerNumbers.j0 k t172 true a0_0 a0_1) else ((lookoutref03_Compare.f k a0_0 a0_1 1000000000000000000 1).bind fun t179 => (lookoutlaw42_LexerNumbers.j0 k t172 (decide (t179 ≥ 0)) a0_0 a0_1))))) else (if t172.toList = ([] : List UInt8) then ((lookoutlaw42_awake.f k).bind fun t174 => (some t174)) else (some false))))) = some r := h
  clear h
  replace H := Option.bind_eq_some_iff.mp H
  obtain ⟨t172, A20, H⟩ := H
  replace H : ((ratio_Check.f k a0_0 a0_1).bind fun t173 => (if t173 = 0 then (if a0_0 < 0 then ((lexer_Number.f k (wrap64 (-a0_0)) a0_1).bind fun t176 => (if 1 + t176.size ≤ 9223372036854775807 then (if t172.toList = ((⟨#[45]⟩ : ByteArray) ++ t176).toList then ((lookoutlaw42_awake.f k).bind fun t177 => (some t177)) else (some false)) else (none))) else ((strings_Contains.f t172 (⟨#[47]⟩ : ByteArray)).bind fun t178 => (if t178 = true then (lookoutlaw42_LexerNumbers.j0 k t172 true a0_0 a0_1) else ((lookoutref03_Compare.f k a0_0 a0_1 1000000000000000000 1).bind fun t179 => (lookoutlaw42_LexerNumbers.j0 k t172 (decide (t179 ≥ 0)) a0_0 a0_1))))) else (if t172.toList = ([] : List UInt8) then ((lookoutlaw42_awake.f k).bind fun t174 => (some t174)) else (some false)))) = some r := H
  have A2 := Aside0.mk A20
  clear A20
  replace H := Option.bind_eq_some_iff.mp H
  obtain ⟨t173, A30, H⟩ := H
  replace H : (if t173 = 0 then (if a0_0 < 0 then ((lexer_Number.f k (wrap64 (-a0_0)) a0_1).bind fun t176 => (if 1 + t176.size ≤ 9223372036854775807 then (if t172.toList = ((⟨#[45]⟩ : ByteArray) ++ t176).toList then ((lookoutlaw42_awake.f k).bind fun t177 => (some t177)) else (some false)) else (none))) else ((strings_Contains.f t172 (⟨#[47]⟩ : ByteArray)).bind fun t178 => (if t178 = true then (lookoutlaw42_LexerNumbers.j0 k t172 true a0_0 a0_1) else ((lookoutref03_Compare.f k a0_0 a0_1 1000000000000000000 1).bind fun t179 => (lookoutlaw42_LexerNumbers.j0 k t172 (decide (t179 ≥ 0)) a0_0 a0_1))))) else (if t172.toList = ([] : List UInt8) then ((lookoutlaw42_awake.f k).bind fun t174 => (some t174)) else (some false))) = some r := H
  have A3 := Aside0.mk A30
  clear A30
  by_cases c4 : t173 = 0
  · rw [if_pos c4] at H
    have c4b0 : (t173 == 0) = true := beq_iff_eq.mpr c4
    have c4b1 : (t173 != 0) = false := bne_eq_false_iff_eq.mpr c4
    clear c4
    by_cases c5 : a0_0 < 0
    · rw [if_pos c5] at H
      have c5b0 : decide (a0_0 < 0) = true := decide_eq_true c5
      clear c5
      replace H := Option.bind_eq_some_iff.mp H
      obtain ⟨t176, A60, H⟩ := H
      replace H : (if 1 + t176.size ≤ 9223372036854775807 then (if t172.toList = ((⟨#[45]⟩ : ByteArray) ++ t176).toList then ((lookoutlaw42_awake.f k).bind fun t177 => (some t177)) else (some false)) else (none)) = some r := H
      have A6 := Aside0.mk A60
      clear A60
      by_cases c7 : 1 + t176.size ≤ 9223372036854775807
      · rw [if_pos c7] at H
        have c7b0 := eq_true c7
        have c7b1 : decide (1 + t176.size ≤ 9223372036854775807) = true := decide_eq_true c7
        try have c7b2 : (9223372036854775807 < 1 + t176.size) = False := eq_false (Nat.not_lt.2 c7)
        by_cases c8 : t172.toList = ((⟨#[45]⟩ : ByteArray) ++ t176).toList
        · rw [if_pos c8] at H
          have c8b0 : (t172.toList == ((⟨#[45]⟩ : ByteArray) ++ t176).toList) = true := beq_iff_eq.mpr c8
          have c8b1 : (t172.toList != ((⟨#[45]⟩ : ByteArray) ++ t176).toList) = false := bne_eq_false_iff_eq.mpr c8
          clear c8
          replace H := Option.bind_eq_some_iff.mp H
          obtain ⟨t177, A90, H⟩ := H
          replace H : (some t177) = some r := H
          have A9 := Aside0.mk A90
          clear A90
          obtain rfl := Option.some.inj H
          go_enter Tryz.func4, Tryz.ntmps4
          go_wp2_with (first | ((with_reducible refine gate_dst (N := 1) rfl ?_); refine box_event ?hg (N := 1) ?hd (cs := #[.int .i64 a0_0, .int .i64 a0_1]) (t := 27) ?hr ?_; (case hd => rfl); (case hg => rfl); (case hr => first | (go_simp; done) | (go_simp; rfl)); intro gb171 hg w10 hbox hb; have n0_ := Aside0.mk (below_step (by repeat (first | (with_reducible first | exact HB.out | apply below_alloc | apply pw_below_drewN | apply below_drew1) | exact HB.out)) hb); have n1_ := Aside0.mk (hbox); have n2_ := Aside0.mk ((by rw [hg]; exact (below_size (by repeat (first | (with_reducible first | exact HB.out | apply below_alloc | apply pw_below_drewN | apply below_drew1) | exact HB.out))) : w.heap.size ≤ gb171)); have n3_ := Aside0.mk ((by rw [hg]; exact (below_size (by repeat (first | (with_reducible first | exact HB.out | apply below_alloc | apply pw_below_drewN | apply below_drew1) | exact HB.out))) : w.heap.size ≤ gb171)); clear HB; have HB := n0_; have BK171 := n1_; have GW171 := n2_; have GE171 := n3_; clear n0_ n1_ n2_ n3_; clear hb hbox hg; have hcz11_0 : w10.cell? ⟨gb171, 0, none⟩ = some (.int .i64 a0_0) := (blk_cell BK171.out 0).trans rfl; have hcz11_1 : w10.cell? ⟨gb171, 1, none⟩ = some (.int .i64 a0_1) := (blk_cell BK171.out 1).trans rfl; have hfz11_0 := blk_frozen BK171.out 0; have hfz11_1 := blk_frozen BK171.out 1) | ((with_reducible refine gate_callee (f := 13) rfl ?_); refine goesL_ (some 8) rfl rfl Tryz.func13 (by kernel_rfl) rfl #[.agg #[.int .i64 a0_0, .int .i64 a0_1]] rfl (by (try simp only [List.map_toArray, List.map_cons, List.map_nil]); first | done | rfl | (simp only [List.length_drop, List.length_take]; rfl)) ?_; (with_reducible refine (lexer_Number.calls k a0_0 a0_1 t172 _ ?side1 A2.out).mono ?_); (case side1 => exact Tabs.below HT.out (by repeat (first | (with_reducible first | exact HB.out | apply below_alloc | apply pw_below_drewN | apply below_drew1 | refine below_set ?_ GE171.out) | exact HB.out))); rintro e w12 ⟨rfl, hb⟩; refine ⟨_, rfl, ?_⟩; have n0_ := Aside0.mk (blk_below (g := gb171) (o := .cells #[.int .i64 a0_0, .int .i64 a0_1] 27 (0, 0)) (by (with_reducible repeat (first | refine blk_drewN ?_ _ | refine blk_drew ?_ | refine blk_alloc ?_ _)); exact BK171.out) hb); have n1_ := Aside0.mk (below_step (by repeat (first | (with_reducible first | exact HB.out | apply below_alloc | apply pw_below_drewN | apply below_drew1 | refine below_set ?_ GE171.out) | exact HB.out)) hb); clear BK171; clear HB; have BK171 := n0_; have HB := n1_; clear n0_ n1_; (try clear hb); (try clear hb2); (try clear hk); (try clear hi); have hcz13_0 : w12.cell? ⟨gb171, 0, none⟩ = some (.int .i64 a0_0) := (blk_cell BK171.out 0).trans rfl; have hcz13_1 : w12.cell? ⟨gb171, 1, none⟩ = some (.int .i64 a0_1) := (blk_cell BK171.out 1).trans rfl; have hfz13_0 := blk_frozen BK171.out 0; have hfz13_1 := blk_frozen BK171.out 1) | ((with_reducible refine gate_callee (f := 14) rfl ?_); refine goesL_ (some 10) rfl rfl Tryz.func14 (by kernel_rfl) rfl #[.agg #[.int .i64 a0_0, .int .i64 a0_1]] rfl (by (try simp only [List.map_toArray, List.map_cons, List.map_nil]); first | done | rfl | (simp only [List.length_drop, List.length_take]; rfl)) ?_; (with_reducible refine (ratio_Check.calls k a0_0 a0_1 t173 _ A3.out).mono ?_); rintro e w14 ⟨rfl, hb⟩; refine ⟨_, rfl, ?_⟩; have n0_ := Aside0.mk (blk_below (g := gb171) (o := .cells #[.int .i64 a0_0, .int .i64 a0_1] 27 (0, 0)) (by (with_reducible repeat (first | refine blk_drewN ?_ _ | refine blk_drew ?_ | refine blk_alloc ?_ _)); exact BK171.out) hb); have n1_ := Aside0.mk (below_step (by repeat (first | (with_reducible first | exact HB.out | apply below_alloc | apply pw_below_drewN | apply below_drew1 | refine below_set ?_ GE171.out) | exact HB.out)) hb); clear BK171; clear HB; have BK171 := n0_; have HB := n1_; clear n0_ n1_; (try clear hb); (try clear hb2); (try clear hk); (try clear hi); have hcz15_0 : w14.cell? ⟨gb171, 0, none⟩ = some (.int .i64 a0_0) := (blk_cell BK171.out 0).trans rfl; have hcz15_1 : w14.cell? ⟨gb171, 1, none⟩ = some (.int .i64 a0_1) := (blk_cell BK171.out 1).trans rfl; have hfz15_0 := blk_frozen BK171.out 0; have hfz15_1 := blk_frozen BK171.out 1) | ((with_reducible refine gate_dst (N := 4) rfl ?_); refine box_event ?hg (N := 4) ?hd (cs := #[.int .i64 0, .int .i64 0]) (t := 27) ?hr ?_; (case hd => rfl); (case hg => rfl); (case hr => first | (go_simp; done) | (go_simp; rfl)); intro gb175 hg w16 hbox hb; have n0_ := Aside0.mk (blk_below (g := gb171) (o := .cells #[.int .i64 a0_0, .int .i64 a0_1] 27 (0, 0)) (by (with_reducible repeat (first | refine blk_drewN ?_ _ | refine blk_drew ?_ | refine blk_alloc ?_ _)); exact BK171.out) hb); have n1_ := Aside0.mk (below_step (by repeat (first | (with_reducible first | exact HB.out | apply below_alloc | apply pw_below_drewN | apply below_drew1 | refine below_set ?_ GE171.out) | exact HB.out)) hb); have n2_ := Aside0.mk (hbox); have n3_ := Aside0.mk ((by rw [hg]; exact (below_size (by repeat (first | (with_reducible first | exact HB.out | apply below_alloc | apply pw_below_drewN | apply below_drew1 | refine below_set ?_ GE171.out) | exact HB.out))) : w.heap.size ≤ gb175)); have n4_ := Aside0.mk ((by rw [hg]; exact (below_size (by repeat (first | (with_reducible first | exact HB.out | apply below_alloc | apply pw_below_drewN | apply below_drew1 | refine below_set ?_ GE171.out) | exact HB.out))) : w.heap.size ≤ gb175)); have n5_ := Aside0.mk ((by rw [hg]; exact Nat.ne_of_lt (blk_lt (g := gb171) (o := .cells #[.int .i64 a0_0, .int .i64 a0_1] 27 (0, 0)) (by (with_reducible repeat (first | refine blk_drewN ?_ _ | refine blk_drew ?_ | refine blk_alloc ?_ _)); exact BK171.out)) : gb171 ≠ gb175)); have n6_ := Aside0.mk ((by rw [hg]; exact Nat.ne_of_gt (blk_lt (g := gb171) (o := .cells #[.int .i64 a0_0, .int .i64 a0_1] 27 (0, 0)) (by (with_reducible repeat (first | refine blk_drewN ?_ _ | refine blk_drew ?_ | refine blk_alloc ?_ _)); exact BK171.out)) : gb175 ≠ gb171)); clear BK171; clear HB; have BK171 := n0_; have HB := n1_; have BK175 := n2_; have GW175 := n3_; have GE175 := n4_; have NB171_175 := n5_; have NB175_171 := n6_; clear n0_ n1_ n2_ n3_ n4_ n5_ n6_; clear hb hbox hg; have hnb17 := NB175_171.out; have hnc17 := NB171_175.out; have hcz18_0 : w16.cell? ⟨gb175, 0, none⟩ = some (.int .i64 0) := (blk_cell BK175.out 0).trans rfl; have hcz18_1 : w16.cell? ⟨gb175, 1, none⟩ = some (.int .i64 0) := (blk_cell BK175.out 1).trans rfl; have hfz18_0 := blk_frozen BK175.out 0; have hfz18_1 := blk_frozen BK175.out 1) | ((with_reducible refine gate_callee (f := 13) rfl ?_); refine goesL_ (some 28) rfl rfl Tryz.func13 (by kernel_rfl) rfl #[.agg #[.int .i64 (wrap64 (-a0_0)), .int .i64 a0_1]] rfl (by (try simp only [List.map_toArray, List.map_cons, List.map_nil]); first | done | rfl | (simp only [List.length_drop, List.length_take]; rfl)) ?_; (with_reducible refine (lexer_Number.calls k (wrap64 (-a0_0)) a0_1 t176 _ ?side1 A6.out).mono ?_); (case side1 => exact Tabs.below HT.out (by repeat (first | (with_reducible first | exact HB.out | apply below_alloc | apply pw_below_drewN | apply below_drew1 | refine below_set ?_ GE171.out | refine below_set ?_ GE175.out) | exact HB.out))); rintro e w19 ⟨rfl, hb⟩; refine ⟨_, rfl, ?_⟩; have n0_ := Aside0.mk (blk_below (g := gb171) (o := .cells #[.int .i64 a0_0, .int .i64 a0_1] 27 (0, 0)) (by (with_reducible repeat (first | refine blk_drewN ?_ _ | refine blk_drew ?_ | refine blk_alloc ?_ _)); refine blk_far ?_ NB171_175.out _; (with_reducible repeat (first | refine blk_drewN ?_ _ | refine blk_drew ?_ | refine blk_alloc ?_ _)); refine blk_far ?_ NB171_175.out _; (with_reducible repeat (first | refine blk_drewN ?_ _ | refine blk_drew ?_ | refine blk_alloc ?_ _)); exact BK171.out) hb); have n1_ := Aside0.mk (blk_below (g := gb175) (o := .cells #[.int .i64 (wrap64 (-a0_0)), .int .i64 a0_1] 27 (0, 0)) (by (with_reducible repeat (first | refine blk_drewN ?_ _ | refine blk_drew ?_ | refine blk_alloc ?_ _)); refine blk_put (cs := #[.int .i64 (wrap64 (-a0_0)), .int .i64 0]) ?_ 1 _ rfl; (with_reducible repeat (first | refine blk_drewN ?_ _ | refine blk_drew ?_ | refine blk_alloc ?_ _)); refine blk_put (cs := #[.int .i64 0, .int .i64 0]) ?_ 0 _ rfl; (with_reducible repeat (first | refine blk_drewN ?_ _ | refine blk_drew ?_ | refine blk_alloc ?_ _)); exact BK175.out) hb); have n2_ := Aside0.mk (below_step (by repeat (first | (with_reducible first | exact HB.out | apply below_alloc | apply pw_below_drewN | apply below_drew1 | refine below_set ?_ GE171.out | refine below_set ?_ GE175.out) | exact HB.out)) hb); clear BK171; clear BK175; clear HB; have BK171 := n0_; have BK175 := n1_; have HB := n2_; clear n0_ n1_ n2_; (try clear hb); (try clear hb2); (try clear hk); (try clear hi)) | (go_at_call 11; (with_reducible refine (lookoutlaw42_awake.calls k  t177 _ ?side1 A9.out).mono ?_); (case side1 => exact Tabs.below HT.out (by repeat (first | (with_reducible first | exact HB.out | apply below_alloc | apply pw_below_drewN | apply below_drew1 | refine below_set ?_ GE171.out | refine below_set ?_ GE175.out) | exact HB.out))); rintro e w20 ⟨rfl, hb⟩; have n0_ := Aside0.mk (blk_below (g := gb171) (o := .cells #[.int .i64 a0_0, .int .i64 a0_1] 27 (0, 0)) (by (with_reducible repeat (first | refine blk_drewN ?_ _ | refine blk_drew ?_ | refine blk_alloc ?_ _)); exact BK171.out) hb); have n1_ := Aside0.mk (blk_below (g := gb175) (o := .cells #[.int .i64 (wrap64 (-a0_0)), .int .i64 a0_1] 27 (0, 0)) (by (with_reducible repeat (first | refine blk_drewN ?_ _ | refine blk_drew ?_ | refine blk_alloc ?_ _)); exact BK175.out) hb); have n2_ := Aside0.mk (below_step (by repeat (first | (with_reducible first | exact HB.out | apply below_alloc | apply pw_below_drewN | apply below_drew1 | refine below_set ?_ GE171.out | refine below_set ?_ GE175.out) | exact HB.out)) hb); clear BK171; clear BK175; clear HB; have BK171 := n0_; have BK175 := n1_; have HB := n2_; clear n0_ n1_ n2_; (try clear hb); (try clear hb2); (try clear hk); (try clear hi)))
          go_ret
          exact ⟨by first | rfl | (simp [errW_none, errW_some] <;> rfl) | (simp [*, errW_none, errW_some] <;> rfl), by repeat (first | (with_reducible first | exact HB.out | apply below_alloc | apply pw_below_drewN | apply below_drew1 | refine below_set ?_ GE171.out | refine below_set ?_ GE175.out) | exact HB.out)⟩
        · rw [if_neg c8] at H
          have c8b0 : (t172.toList == ((⟨#[45]⟩ : ByteArray) ++ t176).toList) = false := beq_eq_false_iff_ne.mpr c8
          have c8b1 : (t172.toList != ((⟨#[45]⟩ : ByteArray) ++ t176).toList) = true := bne_iff_ne.mpr c8
          obtain rfl := Option.some.inj H
          go_enter Tryz.func4, Tryz.ntmps4
          go_wp2_with (first | ((with_reducible refine gate_dst (N := 1) rfl ?_); refine box_event ?hg (N := 1) ?hd (cs := #[.int .i64 a0_0, .int .i64 a0_1]) (t := 27) ?hr ?_; (case hd => rfl); (case hg => rfl); (case hr => first | (go_simp; done) | (go_simp; rfl)); intro gb171 hg w21 hbox hb; have n0_ := Aside0.mk (below_step (by repeat (first | (with_reducible first | exact HB.out | apply below_alloc | apply pw_below_drewN | apply below_drew1) | exact HB.out)) hb); have n1_ := Aside0.mk (hbox); have n2_ := Aside0.mk ((by rw [hg]; exact (below_size (by repeat (first | (with_reducible first | exact HB.out | apply below_alloc | apply pw_below_drewN | apply below_drew1) | exact HB.out))) : w.heap.size ≤ gb171)); have n3_ := Aside0.mk ((by rw [hg]; exact (below_size (by repeat (first | (with_reducible first | exact HB.out | apply below_alloc | apply pw_below_drewN | apply below_drew1) | exact HB.out))) : w.heap.size ≤ gb171)); clear HB; have HB := n0_; have BK171 := n1_; have GW171 := n2_; have GE171 := n3_; clear n0_ n1_ n2_ n3_; clear hb hbox hg; have hcz22_0 : w21.cell? ⟨gb171, 0, none⟩ = some (.int .i64 a0_0) := (blk_cell BK171.out 0).trans rfl; have hcz22_1 : w21.cell? ⟨gb171, 1, none⟩ = some (.int .i64 a0_1) := (blk_cell BK171.out 1).trans rfl; have hfz22_0 := blk_frozen BK171.out 0; have hfz22_1 := blk_frozen BK171.out 1) | ((with_reducible refine gate_callee (f := 13) rfl ?_); refine goesL_ (some 8) rfl rfl Tryz.func13 (by kernel_rfl) rfl #[.agg #[.int .i64 a0_0, .int .i64 a0_1]] rfl (by (try simp only [List.map_toArray, List.map_cons, List.map_nil]); first | done | rfl | (simp only [List.length_drop, List.length_take]; rfl)) ?_; (with_reducible refine (lexer_Number.calls k a0_0 a0_1 t172 _ ?side1 A2.out).mono ?_); (case side1 => exact Tabs.below HT.out (by repeat (first | (with_reducible first | exact HB.out | apply below_alloc | apply pw_below_drewN | apply below_drew1 | refine below_set ?_ GE171.out) | exact HB.out))); rintro e w23 ⟨rfl, hb⟩; refine ⟨_, rfl, ?_⟩; have n0_ := Aside0.mk (blk_below (g := gb171) (o := .cells #[.int .i64 a0_0, .int .i64 a0_1] 27 (0, 0)) (by (with_reducible repeat (first | refine blk_drewN ?_ _ | refine blk_drew ?_ | refine blk_alloc ?_ _)); exact BK171.out) hb); have n1_ := Aside0.mk (below_step (by repeat (first | (with_reducible first | exact HB.out | apply below_alloc | apply pw_below_drewN | apply below_drew1 | refine below_set ?_ GE171.out) | exact HB.out)) hb); clear BK171; clear HB; have BK171 := n0_; have HB := n1_; clear n0_ n1_; (try clear hb); (try clear hb2); (try clear hk); (try clear hi); have hcz24_0 : w23.cell? ⟨gb171, 0, none⟩ = some (.int .i64 a0_0) := (blk_cell BK171.out 0).trans rfl; have hcz24_1 : w23.cell? ⟨gb171, 1, none⟩ = some (.int .i64 a0_1) := (blk_cell BK171.out 1).trans rfl; have hfz24_0 := blk_frozen BK171.out 0; have hfz24_1 := blk_frozen BK171.out 1) | ((with_reducible refine gate_callee (f := 14) rfl ?_); refine goesL_ (some 10) rfl rfl Tryz.func14 (by kernel_rfl) rfl #[.agg #[.int .i64 a0_0, .int .i64 a0_1]] rfl (by (try simp only [List.map_toArray, List.map_cons, List.map_nil]); first | done | rfl | (simp only [List.length_drop, List.length_take]; rfl)) ?_; (with_reducible refine (ratio_Check.calls k a0_0 a0_1 t173 _ A3.out).mono ?_); rintro e w25 ⟨rfl, hb⟩; refine ⟨_, rfl, ?_⟩; have n0_ := Aside0.mk (blk_below (g := gb171) (o := .cells #[.int .i64 a0_0, .int .i64 a0_1] 27 (0, 0)) (by (with_reducible repeat (first | refine blk_drewN ?_ _ | refine blk_drew ?_ | refine blk_alloc ?_ _)); exact BK171.out) hb); have n1_ := Aside0.mk (below_step (by repeat (first | (with_reducible first | exact HB.out | apply below_alloc | apply pw_below_drewN | apply below_drew1 | refine below_set ?_ GE171.out) | exact HB.out)) hb); clear BK171; clear HB; have BK171 := n0_; have HB := n1_; clear n0_ n1_; (try clear hb); (try clear hb2); (try clear hk); (try clear hi); have hcz26_0 : w25.cell? ⟨gb171, 0, none⟩ = some (.int .i64 a0_0) := (blk_cell BK171.out 0).trans rfl; have hcz26_1 : w25.cell? ⟨gb171, 1, none⟩ = some (.int .i64 a0_1) := (blk_cell BK171.out 1).trans rfl; have hfz26_0 := blk_frozen BK171.out 0; have hfz26_1 := blk_frozen BK171.out 1) | ((with_reducible refine gate_dst (N := 4) rfl ?_); refine box_event ?hg (N := 4) ?hd (cs := #[.int .i64 0, .int .i64 0]) (t := 27) ?hr ?_; (case hd => rfl); (case hg => rfl); (case hr => first | (go_simp; done) | (go_simp; rfl)); intro gb175 hg w27 hbox hb; have n0_ := Aside0.mk (blk_below (g := gb171) (o := .cells #[.int .i64 a0_0, .int .i64 a0_1] 27 (0, 0)) (by (with_reducible repeat (first | refine blk_drewN ?_ _ | refine blk_drew ?_ | refine blk_alloc ?_ _)); exact BK171.out) hb); have n1_ := Aside0.mk (below_step (by repeat (first | (with_reducible first | exact HB.out | apply below_alloc | apply pw_below_drewN | apply below_drew1 | refine below_set ?_ GE171.out) | exact HB.out)) hb); have n2_ := Aside0.mk (hbox); have n3_ := Aside0.mk ((by rw [hg]; exact (below_size (by repeat (first | (with_reducible first | exact HB.out | apply below_alloc | apply pw_below_drewN | apply below_drew1 | refine below_set ?_ GE171.out) | exact HB.out))) : w.heap.size ≤ gb175)); have n4_ := Aside0.mk ((by rw [hg]; exact (below_size (by repeat (first | (with_reducible first | exact HB.out | apply below_alloc | apply pw_below_drewN | apply below_drew1 | refine below_set ?_ GE171.out) | exact HB.out))) : w.heap.size ≤ gb175)); have n5_ := Aside0.mk ((by rw [hg]; exact Nat.ne_of_lt (blk_lt (g := gb171) (o := .cells #[.int .i64 a0_0, .int .i64 a0_1] 27 (0, 0)) (by (with_reducible repeat (first | refine blk_drewN ?_ _ | refine blk_drew ?_ | refine blk_alloc ?_ _)); exact BK171.out)) : gb171 ≠ gb175)); have n6_ := Aside0.mk ((by rw [hg]; exact Nat.ne_of_gt (blk_lt (g := gb171) (o := .cells #[.int .i64 a0_0, .int .i64 a0_1] 27 (0, 0)) (by (with_reducible repeat (first | refine blk_drewN ?_ _ | refine blk_drew ?_ | refine blk_alloc ?_ _)); exact BK171.out)) : gb175 ≠ gb171)); clear BK171; clear HB; have BK171 := n0_; have HB := n1_; have BK175 := n2_; have GW175 := n3_; have GE175 := n4_; have NB171_175 := n5_; have NB175_171 := n6_; clear n0_ n1_ n2_ n3_ n4_ n5_ n6_; clear hb hbox hg; have hnb28 := NB175_171.out; have hnc28 := NB171_175.out; have hcz29_0 : w27.cell? ⟨gb175, 0, none⟩ = some (.int .i64 0) := (blk_cell BK175.out 0).trans rfl; have hcz29_1 : w27.cell? ⟨gb175, 1, none⟩ = some (.int .i64 0) := (blk_cell BK175.out 1).trans rfl; have hfz29_0 := blk_frozen BK175.out 0; have hfz29_1 := blk_frozen BK175.out 1) | ((with_reducible refine gate_callee (f := 13) rfl ?_); refine goesL_ (some 28) rfl rfl Tryz.func13 (by kernel_rfl) rfl #[.agg #[.int .i64 (wrap64 (-a0_0)), .int .i64 a0_1]] rfl (by (try simp only [List.map_toArray, List.map_cons, List.map_nil]); first | done | rfl | (simp only [List.length_drop, List.length_take]; rfl)) ?_; (with_reducible refine (lexer_Number.calls k (wrap64 (-a0_0)) a0_1 t176 _ ?side1 A6.out).mono ?_); (case side1 => exact Tabs.below HT.out (by repeat (first | (with_reducible first | exact HB.out | apply below_alloc | apply pw_below_drewN | apply below_drew1 | refine below_set ?_ GE171.out | refine below_set ?_ GE175.out) | exact HB.out))); rintro e w30 ⟨rfl, hb⟩; refine ⟨_, rfl, ?_⟩; have n0_ := Aside0.mk (blk_below (g := gb171) (o := .cells #[.int .i64 a0_0, .int .i64 a0_1] 27 (0, 0)) (by (with_reducible repeat (first | refine blk_drewN ?_ _ | refine blk_drew ?_ | refine blk_alloc ?_ _)); refine blk_far ?_ NB171_175.out _; (with_reducible repeat (first | refine blk_drewN ?_ _ | refine blk_drew ?_ | refine blk_alloc ?_ _)); refine blk_far ?_ NB171_175.out _; (with_reducible repeat (first | refine blk_drewN ?_ _ | refine blk_drew ?_ | refine blk_alloc ?_ _)); exact BK171.out) hb); have n1_ := Aside0.mk (blk_below (g := gb175) (o := .cells #[.int .i64 (wrap64 (-a0_0)), .int .i64 a0_1] 27 (0, 0)) (by (with_reducible repeat (first | refine blk_drewN ?_ _ | refine blk_drew ?_ | refine blk_alloc ?_ _)); refine blk_put (cs := #[.int .i64 (wrap64 (-a0_0)), .int .i64 0]) ?_ 1 _ rfl; (with_reducible repeat (first | refine blk_drewN ?_ _ | refine blk_drew ?_ | refine blk_alloc ?_ _)); refine blk_put (cs := #[.int .i64 0, .int .i64 0]) ?_ 0 _ rfl; (with_reducible repeat (first | refine blk_drewN ?_ _ | refine blk_drew ?_ | refine blk_alloc ?_ _)); exact BK175.out) hb); have n2_ := Aside0.mk (below_step (by repeat (first | (with_reducible first | exact HB.out | apply below_alloc | apply pw_below_drewN | apply below_drew1 | refine below_set ?_ GE171.out | refine below_set ?_ GE175.out) | exact HB.out)) hb); clear BK171; clear BK175; clear HB; have BK171 := n0_; have BK175 := n1_; have HB := n2_; clear n0_ n1_ n2_; (try clear hb); (try clear hb2); (try clear hk); (try clear hi)))
          go_ret
          exact ⟨by first | rfl | (simp [errW_none, errW_some] <;> rfl) | (simp [*, errW_none, errW_some] <;> rfl), by repeat (first | (with_reducible first | exact HB.out | apply below_alloc | apply pw_below_drewN | apply below_drew1 | refine below_set ?_ GE171.out | refine below_set ?_ GE175.out) | exact HB.out)⟩
      · rw [if_neg c7] at H
        exact absurd H (by simp)
    · rw [if_neg c5] at H
      have c5b0 : decide (a0_0 < 0) = false := decide_eq_false c5
      clear c5
      have HC31 := Aside0.mk H
      clear H
      go_enter Tryz.func4, Tryz.ntmps4
      go_upto_region 7 with (first | ((with_reducible refine gate_dst (N := 1) rfl ?_); refine box_event ?hg (N := 1) ?hd (cs := #[.int .i64 a0_0, .int .i64 a0_1]) (t := 27) ?hr ?_; (case hd => rfl); (case hg => rfl); (case hr => first | (go_simp; done) | (go_simp; rfl)); intro gb171 hg w32 hbox hb; have n0_ := Aside0.mk (below_step (by repeat (first | (with_reducible first | exact HB.out | apply below_alloc | apply pw_below_drewN | apply below_drew1) | exact HB.out)) hb); have n1_ := Aside0.mk (hbox); have n2_ := Aside0.mk ((by rw [hg]; exact (below_size (by repeat (first | (with_reducible first | exact HB.out | apply below_alloc | apply pw_below_drewN | apply below_drew1) | exact HB.out))) : w.heap.size ≤ gb171)); have n3_ := Aside0.mk ((by rw [hg]; exact (below_size (by repeat (first | (with_reducible first | exact HB.out | apply below_alloc | apply pw_below_drewN | apply below_drew1) | exact HB.out))) : w.heap.size ≤ gb171)); clear HB; have HB := n0_; have BK171 := n1_; have GW171 := n2_; have GE171 := n3_; clear n0_ n1_ n2_ n3_; clear hb hbox hg; have hcz33_0 : w32.cell? ⟨gb171, 0, none⟩ = some (.int .i64 a0_0) := (blk_cell BK171.out 0).trans rfl; have hcz33_1 : w32.cell? ⟨gb171, 1, none⟩ = some (.int .i64 a0_1) := (blk_cell BK171.out 1).trans rfl; have hfz33_0 := blk_frozen BK171.out 0; have hfz33_1 := blk_frozen BK171.out 1) | ((with_reducible refine gate_callee (f := 13) rfl ?_); refine goesL_ (some 8) rfl rfl Tryz.func13 (by kernel_rfl) rfl #[.agg #[.int .i64 a0_0, .int .i64 a0_1]] rfl (by (try simp only [List.map_toArray, List.map_cons, List.map_nil]); first | done | rfl | (simp only [List.length_drop, List.length_take]; rfl)) ?_; (with_reducible refine (lexer_Number.calls k a0_0 a0_1 t172 _ ?side1 A2.out).mono ?_); (case side1 => exact Tabs.below HT.out (by repeat (first | (with_reducible first | exact HB.out | apply below_alloc | apply pw_below_drewN | apply below_drew1 | refine below_set ?_ GE171.out) | exact HB.out))); rintro e w34 ⟨rfl, hb⟩; refine ⟨_, rfl, ?_⟩; have n0_ := Aside0.mk (blk_below (g := gb171) (o := .cells #[.int .i64 a0_0, .int .i64 a0_1] 27 (0, 0)) (by (with_reducible repeat (first | refine blk_drewN ?_ _ | refine blk_drew ?_ | refine blk_alloc ?_ _)); exact BK171.out) hb); have n1_ := Aside0.mk (below_step (by repeat (first | (with_reducible first | exact HB.out | apply below_alloc | apply pw_below_drewN | apply below_drew1 | refine below_set ?_ GE171.out) | exact HB.out)) hb); clear BK171; clear HB; have BK171 := n0_; have HB := n1_; clear n0_ n1_; (try clear hb); (try clear hb2); (try clear hk); (try clear hi); have hcz35_0 : w34.cell? ⟨gb171, 0, none⟩ = some (.int .i64 a0_0) := (blk_cell BK171.out 0).trans rfl; have hcz35_1 : w34.cell? ⟨gb171, 1, none⟩ = some (.int .i64 a0_1) := (blk_cell BK171.out 1).trans rfl; have hfz35_0 := blk_frozen BK171.out 0; have hfz35_1 := blk_frozen BK171.out 1) | ((with_reducible refine gate_callee (f := 14) rfl ?_); refine goesL_ (some 10) rfl rfl Tryz.func14 (by kernel_rfl) rfl #[.agg #[.int .i64 a0_0, .int .i64 a0_1]] rfl (by (try simp only [List.map_toArray, List.map_cons, List.map_nil]); first | done | rfl | (simp only [List.length_drop, List.length_take]; rfl)) ?_; (with_reducible refine (ratio_Check.calls k a0_0 a0_1 t173 _ A3.out).mono ?_); rintro e w36 ⟨rfl, hb⟩; refine ⟨_, rfl, ?_⟩; have n0_ := Aside0.mk (blk_below (g := gb171) (o := .cells #[.int .i64 a0_0, .int .i64 a0_1] 27 (0, 0)) (by (with_reducible repeat (first | refine blk_drewN ?_ _ | refine blk_drew ?_ | refine blk_alloc ?_ _)); exact BK171.out) hb); have n1_ := Aside0.mk (below_step (by repeat (first | (with_reducible first | exact HB.out | apply below_alloc | apply pw_below_drewN | apply below_drew1 | refine below_set ?_ GE171.out) | exact HB.out)) hb); clear BK171; clear HB; have BK171 := n0_; have HB := n1_; clear n0_ n1_; (try clear hb); (try clear hb2); (try clear hk); (try clear hi); have hcz37_0 : w36.cell? ⟨gb171, 0, none⟩ = some (.int .i64 a0_0) := (blk_cell BK171.out 0).trans rfl; have hcz37_1 : w36.cell? ⟨gb171, 1, none⟩ = some (.int .i64 a0_1) := (blk_cell BK171.out 1).trans rfl; have hfz37_0 := blk_frozen BK171.out 0; have hfz37_1 := blk_frozen BK171.out 1))
      (try simp only [Act.put, List.setIfInBounds_toArray, List.set_cons_zero, List.set_cons_succ])
      go_cut [41] (fun v41 wc => ∃ (kq : Nat) (x41_30 : Bool), v41 = .bool x41_30 ∧ Aside0 (lookoutlaw42_LexerNumbers.j0 kq t172 x41_30 a0_0 a0_1 = some r) ∧ Aside0 (kq ≤ k) ∧ Aside0 (wc.heap[gb171]? = some (.cells #[.int .i64 a0_0, .int .i64 a0_1] 27 (0, 0))) ∧ Aside0 (Below w.heap.size w wc))
      case first =>
        have H := HC31.out
        clear HC31
        replace H := Option.bind_eq_some_iff.mp H
        obtain ⟨t178, A380, H⟩ := H
        replace H : (if t178 = true then (lookoutlaw42_LexerNumbers.j0 k t172 true a0_0 a0_1) else ((lookoutref03_Compare.f k a0_0 a0_1 1000000000000000000 1).bind fun t179 => (lookoutlaw42_LexerNumbers.j0 k t172 (decide (t179 ≥ 0)) a0_0 a0_1))) = some r := H
        have A38 := Aside0.mk A380
        clear A380
        by_cases c39 : t178 = true
        · subst c39
          have H1 : (lookoutlaw42_LexerNumbers.j0 k t172 true a0_0 a0_1) = some r := by rw [if_pos rfl] at H; exact H
          clear H
          have H := H1
          clear H1
          have H' := Aside0.mk H
          clear H
          go_wp2_with (first | ((with_reducible refine gate_callee (f := 15) rfl ?_); refine goesL_ (some 35) rfl rfl Tryz.func15 (by kernel_rfl) rfl #[.string t172, .string (⟨#[47]⟩ : ByteArray)] rfl (by (try simp only [List.map_toArray, List.map_cons, List.map_nil]); first | done | rfl | (simp only [List.length_drop, List.length_take]; rfl)) ?_; (with_reducible refine (strings_Contains.calls t172 (⟨#[47]⟩ : ByteArray) true _ ?side1 A38.out).mono ?_); (case side1 => exact Tabs.below HT.out (by repeat (first | (with_reducible first | exact HB.out | apply below_alloc | apply pw_below_drewN | apply below_drew1 | refine below_set ?_ GE171.out) | exact HB.out))); rintro e w' ⟨rfl, ⟨nd, rfl⟩⟩; refine ⟨_, rfl, ?_⟩))
          go_meet
          case rel => exact ⟨_, (true), (by first | rfl | (simp; done) | (simp [*]; done)), H', ⟨by first | omega | exact Nat.le_refl _⟩, ⟨by (with_reducible repeat (first | refine blk_drewN ?_ _ | refine blk_drew ?_ | refine blk_alloc ?_ _)); exact BK171.out⟩, ⟨by repeat (first | (with_reducible first | exact HB.out | apply below_alloc | apply pw_below_drewN | apply below_drew1 | refine below_set ?_ GE171.out) | exact HB.out)⟩⟩
        · replace c39 := Bool.eq_false_iff.mpr c39
          subst c39
          have H1 : ((lookoutref03_Compare.f k a0_0 a0_1 1000000000000000000 1).bind fun t179 => (lookoutlaw42_LexerNumbers.j0 k t172 (decide (t179 ≥ 0)) a0_0 a0_1)) = some r := by rw [if_neg (show ¬ (false = true) by decide)] at H; exact H
          clear H
          have H := H1
          clear H1
          replace H := Option.bind_eq_some_iff.mp H
          obtain ⟨t179, A400, H⟩ := H
          replace H : (lookoutlaw42_LexerNumbers.j0 k t172 (decide (t179 ≥ 0)) a0_0 a0_1) = some r := H
          have A40 := Aside0.mk A400
          clear A400
          have H' := Aside0.mk H
          clear H
          go_wp2_with (first | ((with_reducible refine gate_callee (f := 15) rfl ?_); refine goesL_ (some 35) rfl rfl Tryz.func15 (by kernel_rfl) rfl #[.string t172, .string (⟨#[47]⟩ : ByteArray)] rfl (by (try simp only [List.map_toArray, List.map_cons, List.map_nil]); first | done | rfl | (simp only [List.length_drop, List.length_take]; rfl)) ?_; (with_reducible refine (strings_Contains.calls t172 (⟨#[47]⟩ : ByteArray) false _ ?side1 A38.out).mono ?_); (case side1 => exact Tabs.below HT.out (by repeat (first | (with_reducible first | exact HB.out | apply below_alloc | apply pw_below_drewN | apply below_drew1 | refine below_set ?_ GE171.out) | exact HB.out))); rintro e w' ⟨rfl, ⟨nd, rfl⟩⟩; refine ⟨_, rfl, ?_⟩; have hcz41_0 : w36.cell? ⟨gb171, 0, none⟩ = some (.int .i64 a0_0) := (blk_cell BK171.out 0).trans rfl; have hcz41_1 : w36.cell? ⟨gb171, 1, none⟩ = some (.int .i64 a0_1) := (blk_cell BK171.out 1).trans rfl; have hfz41_0 := blk_frozen BK171.out 0; have hfz41_1 := blk_frozen BK171.out 1) | (go_at_call 16; (with_reducible refine (lookoutref03_Compare.calls k a0_0 a0_1 1000000000000000000 1 t179 _ A40.out).mono ?_); rintro e w42 ⟨rfl, hb⟩; have n0_ := Aside0.mk (blk_below (g := gb171) (o := .cells #[.int .i64 a0_0, .int .i64 a0_1] 27 (0, 0)) (by (with_reducible repeat (first | refine blk_drewN ?_ _ | refine blk_drew ?_ | refine blk_alloc ?_ _)); exact BK171.out) hb); have n1_ := Aside0.mk (below_step (by repeat (first | (with_reducible first | exact HB.out | apply below_alloc | apply pw_below_drewN | apply below_drew1 | refine below_set ?_ GE171.out) | exact HB.out)) hb); clear BK171; clear HB; have BK171 := n0_; have HB := n1_; clear n0_ n1_; (try clear hb); (try clear hb2); (try clear hk); (try clear hi)))
          go_meet
          case rel => exact ⟨_, (decide (t179 ≥ 0)), (by first | rfl | (simp; done) | (simp [*]; done)), H', ⟨by first | omega | exact Nat.le_refl _⟩, ⟨by (with_reducible repeat (first | refine blk_drewN ?_ _ | refine blk_drew ?_ | refine blk_alloc ?_ _)); exact BK171.out⟩, ⟨by repeat (first | (with_reducible first | exact HB.out | apply below_alloc | apply pw_below_drewN | apply below_drew1 | refine below_set ?_ GE171.out) | exact HB.out)⟩⟩
      case rest =>
        clear HC31
        try clear c1
        try clear c2
        try clear p2
        try clear c3
        try clear c4
        try clear c4b0
        try clear c4b1
        try clear c5
        try clear c5b0
        try clear p6
        try clear c7
        try clear c7b0
        try clear c7b1
        try clear c7b2
        try clear c8
        try clear c8b0
        try clear c8b1
        try clear c13
        try clear c14
        try clear c15
        try clear c17
        try clear c28
        try clear c39
        try clear hcz11_0
        try clear hcz11_1
        try clear hcz13_0
        try clear hcz13_1
        try clear hcz15_0
        try clear hcz15_1
        try clear hcz18_0
        try clear hcz18_1
        try clear hcz22_0
        try clear hcz22_1
        try clear hcz24_0
        try clear hcz24_1
        try clear hcz26_0
        try clear hcz26_1
        try clear hcz29_0
        try clear hcz29_1
        try clear hcz33_0
        try clear hcz33_1
        try clear hcz35_0
        try clear hcz35_1
        try clear hcz37_0
        try clear hcz37_1
        try clear hcz41_0
        try clear hcz41_1
        try clear hfz11_0
        try clear hfz11_1
        try clear hfz13_0
        try clear hfz13_1
        try clear hfz15_0
        try clear hfz15_1
        try clear hfz18_0
        try clear hfz18_1
        try clear hfz22_0
        try clear hfz22_1
        try clear hfz24_0
        try clear hfz24_1
        try clear hfz26_0
        try clear hfz26_1
        try clear hfz29_0
        try clear hfz29_1
        try clear hfz33_0
        try clear hfz33_1
        try clear hfz35_0
        try clear hfz35_1
        try clear hfz37_0
        try clear hfz37_1
        try clear hfz41_0
        try clear hfz41_1
        obtain ⟨kq, x41_30, rfl, HA, HJ30, BK171, HB⟩ := hcut
        cases kq with
        | zero => exact absurd HA.out (by simp [lookoutlaw42_LexerNumbers.j0])
        | succ kj30 =>
          have H := HA.out
          clear HA
          simp only [lookoutlaw42_LexerNumbers.j0] at H
          by_cases c43 : x41_30 = true
          · subst c43
            have H1 : ((lookoutlaw42_awake.f kj30).bind fun t180 => (some t180)) = some r := by rw [if_pos rfl] at H; exact H
            clear H
            have H := H1
            clear H1
            replace H := Option.bind_eq_some_iff.mp H
            obtain ⟨t180, A440, H⟩ := H
            replace H : (some t180) = some r := H
            have A44 := Aside0.mk A440
            clear A440
            obtain rfl := Option.some.inj H
            go_wp2_with (first | ((with_reducible refine gate_callee (f := 11) rfl ?_); refine goesL_ (some 42) rfl rfl Tryz.func11 (by kernel_rfl) rfl #[] rfl (by (try simp only [List.map_toArray, List.map_cons, List.map_nil]); first | done | rfl | (simp only [List.length_drop, List.length_take]; rfl)) ?_; (with_reducible refine (lookoutlaw42_awake.calls kj30  t180 _ ?side1 A44.out).mono ?_); (case side1 => exact Tabs.below HT.out (by repeat (first | (with_reducible first | exact HB.out | apply below_alloc | apply pw_below_drewN | apply below_drew1 | refine below_set ?_ GE171.out) | exact HB.out))); rintro e w45 ⟨rfl, hb⟩; refine ⟨_, rfl, ?_⟩; have n0_ := Aside0.mk (blk_below (g := gb171) (o := .cells #[.int .i64 a0_0, .int .i64 a0_1] 27 (0, 0)) (by (with_reducible repeat (first | refine blk_drewN ?_ _ | refine blk_drew ?_ | refine blk_alloc ?_ _)); exact BK171.out) hb); have n1_ := Aside0.mk (below_step (by repeat (first | (with_reducible first | exact HB.out | apply below_alloc | apply pw_below_drewN | apply below_drew1 | refine below_set ?_ GE171.out) | exact HB.out)) hb); clear BK171; clear HB; have BK171 := n0_; have HB := n1_; clear n0_ n1_; (try clear hb); (try clear hb2); (try clear hk); (try clear hi)))
            go_ret
            exact ⟨by first | rfl | (simp [errW_none, errW_some] <;> rfl) | (simp [*, errW_none, errW_some] <;> rfl), by repeat (first | (with_reducible first | exact HB.out | apply below_alloc | apply pw_below_drewN | apply below_drew1 | refine below_set ?_ GE171.out) | exact HB.out)⟩
          · replace c43 := Bool.eq_false_iff.mpr c43
            subst c43
            have H1 : ((lookoutlaw42_one.f t172).bind fun bt181 => (if bt181.2.2.2.2.2 = true then (if (bt181.1 == 2 && (bt181.2.1.toList == t172.toList && ((bt181.2.2.1 == a0_0 && (bt181.2.2.2.1 == a0_1)) && (bt181.2.2.2.2.1 == 0)))) = true then ((lookoutlaw42_awake.f kj30).bind fun t188 => (some t188)) else (some false)) else (some false))) = some r := by rw [if_neg (show ¬ (false = true) by decide)] at H; exact H
            clear H
            have H := H1
            clear H1
            replace H := Option.bind_eq_some_iff.mp H
            obtain ⟨⟨t181, t182, t183, t184, t185, t186⟩, A460, H⟩ := H
            replace H : (if t186 = true then (if (t181 == 2 && (t182.toList == t172.toList && ((t183 == a0_0 && (t184 == a0_1)) && (t185 == 0)))) = true then ((lookoutlaw42_awake.f kj30).bind fun t188 => (some t188)) else (some false)) else (some false)) = some r := H
            have A46 := Aside0.mk A460
            clear A460
            by_cases c47 : t186 = true
            · subst c47
              have H1 : (if (t181 == 2 && (t182.toList == t172.toList && ((t183 == a0_0 && (t184 == a0_1)) && (t185 == 0)))) = true then ((lookoutlaw42_awake.f kj30).bind fun t188 => (some t188)) else (some false)) = some r := by rw [if_pos rfl] at H; exact H
              clear H
              have H := H1
              clear H1
              by_cases c48 : (t181 == 2 && (t182.toList == t172.toList && ((t183 == a0_0 && (t184 == a0_1)) && (t185 == 0)))) = true
              · rw [if_pos c48] at H
                have c48b0 : (t181 == 2 && (t182.toList == t172.toList && ((t183 == a0_0 && (t184 == a0_1)) && (t185 == 0)))) = true := c48
                (try (have c48b1 : decide (t181 = 2 && (t182.toList == t172.toList && ((t183 == a0_0 && (t184 == a0_1)) && (t185 == 0)))) = true := by simpa using c48))
                (try (have c48b2 : (t181 == 2 && (t182.toList == t172.toList && ((t183 == a0_0 && (t184 == a0_1)) && (t185 == 0)))) = true := by simpa using c48))
                clear c48
                replace H := Option.bind_eq_some_iff.mp H
                obtain ⟨t188, A490, H⟩ := H
                replace H : (some t188) = some r := H
                have A49 := Aside0.mk A490
                clear A490
                obtain rfl := Option.some.inj H
                go_wp2_with (first | ((with_reducible refine gate_callee (f := 12) rfl ?_); refine goesL_ (some 45) rfl rfl Tryz.func12 (by kernel_rfl) rfl #[.string t172] rfl (by (try simp only [List.map_toArray, List.map_cons, List.map_nil]); first | done | rfl | (simp only [List.length_drop, List.length_take]; rfl)) ?_; (with_reducible refine (lookoutlaw42_one.calls t172 t181 t182 t183 t184 t185 true _ ?side1 A46.out).mono ?_); (case side1 => exact Tabs.below HT.out (by repeat (first | (with_reducible first | exact HB.out | apply below_alloc | apply pw_below_drewN | apply below_drew1 | refine below_set ?_ GE171.out) | exact HB.out))); rintro e w50 ⟨rfl, hb⟩; refine ⟨_, rfl, ?_⟩; have n0_ := Aside0.mk (blk_below (g := gb171) (o := .cells #[.int .i64 a0_0, .int .i64 a0_1] 27 (0, 0)) (by (with_reducible repeat (first | refine blk_drewN ?_ _ | refine blk_drew ?_ | refine blk_alloc ?_ _)); exact BK171.out) hb); have n1_ := Aside0.mk (below_step (by repeat (first | (with_reducible first | exact HB.out | apply below_alloc | apply pw_below_drewN | apply below_drew1 | refine below_set ?_ GE171.out) | exact HB.out)) hb); clear BK171; clear HB; have BK171 := n0_; have HB := n1_; clear n0_ n1_; (try clear hb); (try clear hb2); (try clear hk); (try clear hi)) | ((with_reducible refine gate_dst (N := 5) rfl ?_); refine box_event ?hg (N := 5) ?hd (cs := #[.int .i64 0, .string (⟨#[]⟩ : ByteArray), .int .i64 0, .int .i64 0, .int .i64 0]) (t := 29) ?hr ?_; (case hd => rfl); (case hg => rfl); (case hr => first | (go_simp; done) | (go_simp; rfl)); intro gb187 hg w51 hbox hb; have n0_ := Aside0.mk (blk_below (g := gb171) (o := .cells #[.int .i64 a0_0, .int .i64 a0_1] 27 (0, 0)) (by (with_reducible repeat (first | refine blk_drewN ?_ _ | refine blk_drew ?_ | refine blk_alloc ?_ _)); exact BK171.out) hb); have n1_ := Aside0.mk (below_step (by repeat (first | (with_reducible first | exact HB.out | apply below_alloc | apply pw_below_drewN | apply below_drew1 | refine below_set ?_ GE171.out) | exact HB.out)) hb); have n2_ := Aside0.mk (hbox); have n3_ := Aside0.mk ((by rw [hg]; exact (below_size (by repeat (first | (with_reducible first | exact HB.out | apply below_alloc | apply pw_below_drewN | apply below_drew1 | refine below_set ?_ GE171.out) | exact HB.out))) : w.heap.size ≤ gb187)); have n4_ := Aside0.mk ((by rw [hg]; exact (below_size (by repeat (first | (with_reducible first | exact HB.out | apply below_alloc | apply pw_below_drewN | apply below_drew1 | refine below_set ?_ GE171.out) | exact HB.out))) : w.heap.size ≤ gb187)); have n5_ := Aside0.mk ((by rw [hg]; exact Nat.ne_of_lt (blk_lt (g := gb171) (o := .cells #[.int .i64 a0_0, .int .i64 a0_1] 27 (0, 0)) (by (with_reducible repeat (first | refine blk_drewN ?_ _ | refine blk_drew ?_ | refine blk_alloc ?_ _)); exact BK171.out)) : gb171 ≠ gb187)); have n6_ := Aside0.mk ((by rw [hg]; exact Nat.ne_of_gt (blk_lt (g := gb171) (o := .cells #[.int .i64 a0_0, .int .i64 a0_1] 27 (0, 0)) (by (with_reducible repeat (first | refine blk_drewN ?_ _ | refine blk_drew ?_ | refine blk_alloc ?_ _)); exact BK171.out)) : gb187 ≠ gb171)); clear BK171; clear HB; have BK171 := n0_; have HB := n1_; have BK187 := n2_; have GW187 := n3_; have GE187 := n4_; have NB171_187 := n5_; have NB187_171 := n6_; clear n0_ n1_ n2_ n3_ n4_ n5_ n6_; clear hb hbox hg; have hnb52 := NB187_171.out; have hnc52 := NB171_187.out; have hcz53_0 : w51.cell? ⟨gb187, 0, none⟩ = some (.int .i64 0) := (blk_cell BK187.out 0).trans rfl; have hcz53_1 : w51.cell? ⟨gb187, 1, none⟩ = some (.string (⟨#[]⟩ : ByteArray)) := (blk_cell BK187.out 1).trans rfl; have hcz53_2 : w51.cell? ⟨gb187, 2, none⟩ = some (.int .i64 0) := (blk_cell BK187.out 2).trans rfl; have hcz53_3 : w51.cell? ⟨gb187, 3, none⟩ = some (.int .i64 0) := (blk_cell BK187.out 3).trans rfl; have hcz53_4 : w51.cell? ⟨gb187, 4, none⟩ = some (.int .i64 0) := (blk_cell BK187.out 4).trans rfl; have hfz53_0 := blk_frozen BK187.out 0; have hfz53_1 := blk_frozen BK187.out 1; have hfz53_2 := blk_frozen BK187.out 2; have hfz53_3 := blk_frozen BK187.out 3; have hfz53_4 := blk_frozen BK187.out 4; have hcz54_0 : w51.cell? ⟨gb171, 0, none⟩ = some (.int .i64 a0_0) := (blk_cell BK171.out 0).trans rfl; have hcz54_1 : w51.cell? ⟨gb171, 1, none⟩ = some (.int .i64 a0_1) := (blk_cell BK171.out 1).trans rfl; have hfz54_0 := blk_frozen BK171.out 0; have hfz54_1 := blk_frozen BK171.out 1) | (go_at_call 11; (with_reducible refine (lookoutlaw42_awake.calls kj30  t188 _ ?side1 A49.out).mono ?_); (case side1 => exact Tabs.below HT.out (by repeat (first | (with_reducible first | exact HB.out | apply below_alloc | apply pw_below_drewN | apply below_drew1 | refine below_set ?_ GE171.out | refine below_set ?_ GE187.out) | exact HB.out))); rintro e w55 ⟨rfl, hb⟩; have n0_ := Aside0.mk (blk_below (g := gb171) (o := .cells #[.int .i64 a0_0, .int .i64 a0_1] 27 (0, 0)) (by (with_reducible repeat (first | refine blk_drewN ?_ _ | refine blk_drew ?_ | refine blk_alloc ?_ _)); refine blk_far ?_ NB171_187.out _; (with_reducible repeat (first | refine blk_drewN ?_ _ | refine blk_drew ?_ | refine blk_alloc ?_ _)); refine blk_far ?_ NB171_187.out _; (with_reducible repeat (first | refine blk_drewN ?_ _ | refine blk_drew ?_ | refine blk_alloc ?_ _)); refine blk_far ?_ NB171_187.out _; (with_reducible repeat (first | refine blk_drewN ?_ _ | refine blk_drew ?_ | refine blk_alloc ?_ _)); refine blk_far ?_ NB171_187.out _; (with_reducible repeat (first | refine blk_drewN ?_ _ | refine blk_drew ?_ | refine blk_alloc ?_ _)); refine blk_far ?_ NB171_187.out _; (with_reducible repeat (first | refine blk_drewN ?_ _ | refine blk_drew ?_ | refine blk_alloc ?_ _)); exact BK171.out) hb); have n1_ := Aside0.mk (blk_below (g := gb187) (o := .cells #[.int .i64 t181, .string t182, .int .i64 t183, .int .i64 t184, .int .i64 t185] 29 (0, 0)) (by (with_reducible repeat (first | refine blk_drewN ?_ _ | refine blk_drew ?_ | refine blk_alloc ?_ _)); refine blk_put (cs := #[.int .i64 t181, .string t182, .int .i64 t183, .int .i64 t184, .int .i64 0]) ?_ 4 _ rfl; (with_reducible repeat (first | refine blk_drewN ?_ _ | refine blk_drew ?_ | refine blk_alloc ?_ _)); refine blk_put (cs := #[.int .i64 t181, .string t182, .int .i64 t183, .int .i64 0, .int .i64 0]) ?_ 3 _ rfl; (with_reducible repeat (first | refine blk_drewN ?_ _ | refine blk_drew ?_ | refine blk_alloc ?_ _)); refine blk_put (cs := #[.int .i64 t181, .string t182, .int .i64 0, .int .i64 0, .int .i64 0]) ?_ 2 _ rfl; (with_reducible repeat (first | refine blk_drewN ?_ _ | refine blk_drew ?_ | refine blk_alloc ?_ _)); refine blk_put (cs := #[.int .i64 t181, .string (⟨#[]⟩ : ByteArray), .int .i64 0, .int .i64 0, .int .i64 0]) ?_ 1 _ rfl; (with_reducible repeat (first | refine blk_drewN ?_ _ | refine blk_drew ?_ | refine blk_alloc ?_ _)); refine blk_put (cs := #[.int .i64 0, .string (⟨#[]⟩ : ByteArray), .int .i64 0, .int .i64 0, .int .i64 0]) ?_ 0 _ rfl; (with_reducible repeat (first | refine blk_drewN ?_ _ | refine blk_drew ?_ | refine blk_alloc ?_ _)); exact BK187.out) hb); have n2_ := Aside0.mk (below_step (by repeat (first | (with_reducible first | exact HB.out | apply below_alloc | apply pw_below_drewN | apply below_drew1 | refine below_set ?_ GE171.out | refine below_set ?_ GE187.out) | exact HB.out)) hb); clear BK171; clear BK187; clear HB; have BK171 := n0_; have BK187 := n1_; have HB := n2_; clear n0_ n1_ n2_; (try clear hb); (try clear hb2); (try clear hk); (try clear hi)))
                go_ret
                exact ⟨by first | rfl | (simp [errW_none, errW_some] <;> rfl) | (simp [*, errW_none, errW_some] <;> rfl), by repeat (first | (with_reducible first | exact HB.out | apply below_alloc | apply pw_below_drewN | apply below_drew1 | refine below_set ?_ GE171.out | refine below_set ?_ GE187.out) | exact HB.out)⟩
              · rw [if_neg c48] at H
                have c48b0 : (t181 == 2 && (t182.toList == t172.toList && ((t183 == a0_0 && (t184 == a0_1)) && (t185 == 0)))) = false := by simpa using c48
                (try (have c48b1 : decide (t181 = 2 && (t182.toList == t172.toList && ((t183 == a0_0 && (t184 == a0_1)) && (t185 == 0)))) = false := by simpa using c48))
                (try (have c48b2 : (t181 == 2 && (t182.toList == t172.toList && ((t183 == a0_0 && (t184 == a0_1)) && (t185 == 0)))) = false := by simpa using c48))
                (try (have c48b3 : ¬ (t181 = 2 && (t182.toList == t172.toList && ((t183 == a0_0 && (t184 == a0_1)) && (t185 == 0)))) := by simpa using c48))
                clear c48
                obtain rfl := Option.some.inj H
                go_wp2_with (first | ((with_reducible refine gate_callee (f := 12) rfl ?_); refine goesL_ (some 45) rfl rfl Tryz.func12 (by kernel_rfl) rfl #[.string t172] rfl (by (try simp only [List.map_toArray, List.map_cons, List.map_nil]); first | done | rfl | (simp only [List.length_drop, List.length_take]; rfl)) ?_; (with_reducible refine (lookoutlaw42_one.calls t172 t181 t182 t183 t184 t185 true _ ?side1 A46.out).mono ?_); (case side1 => exact Tabs.below HT.out (by repeat (first | (with_reducible first | exact HB.out | apply below_alloc | apply pw_below_drewN | apply below_drew1 | refine below_set ?_ GE171.out) | exact HB.out))); rintro e w56 ⟨rfl, hb⟩; refine ⟨_, rfl, ?_⟩; have n0_ := Aside0.mk (blk_below (g := gb171) (o := .cells #[.int .i64 a0_0, .int .i64 a0_1] 27 (0, 0)) (by (with_reducible repeat (first | refine blk_drewN ?_ _ | refine blk_drew ?_ | refine blk_alloc ?_ _)); exact BK171.out) hb); have n1_ := Aside0.mk (below_step (by repeat (first | (with_reducible first | exact HB.out | apply below_alloc | apply pw_below_drewN | apply below_drew1 | refine below_set ?_ GE171.out) | exact HB.out)) hb); clear BK171; clear HB; have BK171 := n0_; have HB := n1_; clear n0_ n1_; (try clear hb); (try clear hb2); (try clear hk); (try clear hi)) | ((with_reducible refine gate_dst (N := 5) rfl ?_); refine box_event ?hg (N := 5) ?hd (cs := #[.int .i64 0, .string (⟨#[]⟩ : ByteArray), .int .i64 0, .int .i64 0, .int .i64 0]) (t := 29) ?hr ?_; (case hd => rfl); (case hg => rfl); (case hr => first | (go_simp; done) | (go_simp; rfl)); intro gb187 hg w57 hbox hb; have n0_ := Aside0.mk (blk_below (g := gb171) (o := .cells #[.int .i64 a0_0, .int .i64 a0_1] 27 (0, 0)) (by (with_reducible repeat (first | refine blk_drewN ?_ _ | refine blk_drew ?_ | refine blk_alloc ?_ _)); exact BK171.out) hb); have n1_ := Aside0.mk (below_step (by repeat (first | (with_reducible first | exact HB.out | apply below_alloc | apply pw_below_drewN | apply below_drew1 | refine below_set ?_ GE171.out) | exact HB.out)) hb); have n2_ := Aside0.mk (hbox); have n3_ := Aside0.mk ((by rw [hg]; exact (below_size (by repeat (first | (with_reducible first | exact HB.out | apply below_alloc | apply pw_below_drewN | apply below_drew1 | refine below_set ?_ GE171.out) | exact HB.out))) : w.heap.size ≤ gb187)); have n4_ := Aside0.mk ((by rw [hg]; exact (below_size (by repeat (first | (with_reducible first | exact HB.out | apply below_alloc | apply pw_below_drewN | apply below_drew1 | refine below_set ?_ GE171.out) | exact HB.out))) : w.heap.size ≤ gb187)); have n5_ := Aside0.mk ((by rw [hg]; exact Nat.ne_of_lt (blk_lt (g := gb171) (o := .cells #[.int .i64 a0_0, .int .i64 a0_1] 27 (0, 0)) (by (with_reducible repeat (first | refine blk_drewN ?_ _ | refine blk_drew ?_ | refine blk_alloc ?_ _)); exact BK171.out)) : gb171 ≠ gb187)); have n6_ := Aside0.mk ((by rw [hg]; exact Nat.ne_of_gt (blk_lt (g := gb171) (o := .cells #[.int .i64 a0_0, .int .i64 a0_1] 27 (0, 0)) (by (with_reducible repeat (first | refine blk_drewN ?_ _ | refine blk_drew ?_ | refine blk_alloc ?_ _)); exact BK171.out)) : gb187 ≠ gb171)); clear BK171; clear HB; have BK171 := n0_; have HB := n1_; have BK187 := n2_; have GW187 := n3_; have GE187 := n4_; have NB171_187 := n5_; have NB187_171 := n6_; clear n0_ n1_ n2_ n3_ n4_ n5_ n6_; clear hb hbox hg; have hnb58 := NB187_171.out; have hnc58 := NB171_187.out; have hcz59_0 : w57.cell? ⟨gb187, 0, none⟩ = some (.int .i64 0) := (blk_cell BK187.out 0).trans rfl; have hcz59_1 : w57.cell? ⟨gb187, 1, none⟩ = some (.string (⟨#[]⟩ : ByteArray)) := (blk_cell BK187.out 1).trans rfl; have hcz59_2 : w57.cell? ⟨gb187, 2, none⟩ = some (.int .i64 0) := (blk_cell BK187.out 2).trans rfl; have hcz59_3 : w57.cell? ⟨gb187, 3, none⟩ = some (.int .i64 0) := (blk_cell BK187.out 3).trans rfl; have hcz59_4 : w57.cell? ⟨gb187, 4, none⟩ = some (.int .i64 0) := (blk_cell BK187.out 4).trans rfl; have hfz59_0 := blk_frozen BK187.out 0; have hfz59_1 := blk_frozen BK187.out 1; have hfz59_2 := blk_frozen BK187.out 2; have hfz59_3 := blk_frozen BK187.out 3; have hfz59_4 := blk_frozen BK187.out 4; have hcz60_0 : w57.cell? ⟨gb171, 0, none⟩ = some (.int .i64 a0_0) := (blk_cell BK171.out 0).trans rfl; have hcz60_1 : w57.cell? ⟨gb171, 1, none⟩ = some (.int .i64 a0_1) := (blk_cell BK171.out 1).trans rfl; have hfz60_0 := blk_frozen BK171.out 0; have hfz60_1 := blk_frozen BK171.out 1))
                go_ret
                exact ⟨by first | rfl | (simp [errW_none, errW_some] <;> rfl) | (simp [*, errW_none, errW_some] <;> rfl), by repeat (first | (with_reducible first | exact HB.out | apply below_alloc | apply pw_below_drewN | apply below_drew1 | refine below_set ?_ GE171.out | refine below_set ?_ GE187.out) | exact HB.out)⟩
            · replace c47 := Bool.eq_false_iff.mpr c47
              subst c47
              have H1 : (some false) = some r := by rw [if_neg (show ¬ (false = true) by decide)] at H; exact H
              clear H
              have H := H1
              clear H1
              obtain rfl := Option.some.inj H
              go_wp2_with (first | ((with_reducible refine gate_callee (f := 12) rfl ?_); refine goesL_ (some 45) rfl rfl Tryz.func12 (by kernel_rfl) rfl #[.string t172] rfl (by (try simp only [List.map_toArray, List.map_cons, List.map_nil]); first | done | rfl | (simp only [List.length_drop, List.length_take]; rfl)) ?_; (with_reducible refine (lookoutlaw42_one.calls t172 t181 t182 t183 t184 t185 false _ ?side1 A46.out).mono ?_); (case side1 => exact Tabs.below HT.out (by repeat (first | (with_reducible first | exact HB.out | apply below_alloc | apply pw_below_drewN | apply below_drew1 | refine below_set ?_ GE171.out) | exact HB.out))); rintro e w61 ⟨rfl, hb⟩; refine ⟨_, rfl, ?_⟩; have n0_ := Aside0.mk (blk_below (g := gb171) (o := .cells #[.int .i64 a0_0, .int .i64 a0_1] 27 (0, 0)) (by (with_reducible repeat (first | refine blk_drewN ?_ _ | refine blk_drew ?_ | refine blk_alloc ?_ _)); exact BK171.out) hb); have n1_ := Aside0.mk (below_step (by repeat (first | (with_reducible first | exact HB.out | apply below_alloc | apply pw_below_drewN | apply below_drew1 | refine below_set ?_ GE171.out) | exact HB.out)) hb); clear BK171; clear HB; have BK171 := n0_; have HB := n1_; clear n0_ n1_; (try clear hb); (try clear hb2); (try clear hk); (try clear hi)) | ((with_reducible refine gate_dst (N := 5) rfl ?_); refine box_event ?hg (N := 5) ?hd (cs := #[.int .i64 0, .string (⟨#[]⟩ : ByteArray), .int .i64 0, .int .i64 0, .int .i64 0]) (t := 29) ?hr ?_; (case hd => rfl); (case hg => rfl); (case hr => first | (go_simp; done) | (go_simp; rfl)); intro gb187 hg w62 hbox hb; have n0_ := Aside0.mk (blk_below (g := gb171) (o := .cells #[.int .i64 a0_0, .int .i64 a0_1] 27 (0, 0)) (by (with_reducible repeat (first | refine blk_drewN ?_ _ | refine blk_drew ?_ | refine blk_alloc ?_ _)); exact BK171.out) hb); have n1_ := Aside0.mk (below_step (by repeat (first | (with_reducible first | exact HB.out | apply below_alloc | apply pw_below_drewN | apply below_drew1 | refine below_set ?_ GE171.out) | exact HB.out)) hb); have n2_ := Aside0.mk (hbox); have n3_ := Aside0.mk ((by rw [hg]; exact (below_size (by repeat (first | (with_reducible first | exact HB.out | apply below_alloc | apply pw_below_drewN | apply below_drew1 | refine below_set ?_ GE171.out) | exact HB.out))) : w.heap.size ≤ gb187)); have n4_ := Aside0.mk ((by rw [hg]; exact (below_size (by repeat (first | (with_reducible first | exact HB.out | apply below_alloc | apply pw_below_drewN | apply below_drew1 | refine below_set ?_ GE171.out) | exact HB.out))) : w.heap.size ≤ gb187)); have n5_ := Aside0.mk ((by rw [hg]; exact Nat.ne_of_lt (blk_lt (g := gb171) (o := .cells #[.int .i64 a0_0, .int .i64 a0_1] 27 (0, 0)) (by (with_reducible repeat (first | refine blk_drewN ?_ _ | refine blk_drew ?_ | refine blk_alloc ?_ _)); exact BK171.out)) : gb171 ≠ gb187)); have n6_ := Aside0.mk ((by rw [hg]; exact Nat.ne_of_gt (blk_lt (g := gb171) (o := .cells #[.int .i64 a0_0, .int .i64 a0_1] 27 (0, 0)) (by (with_reducible repeat (first | refine blk_drewN ?_ _ | refine blk_drew ?_ | refine blk_alloc ?_ _)); exact BK171.out)) : gb187 ≠ gb171)); clear BK171; clear HB; have BK171 := n0_; have HB := n1_; have BK187 := n2_; have GW187 := n3_; have GE187 := n4_; have NB171_187 := n5_; have NB187_171 := n6_; clear n0_ n1_ n2_ n3_ n4_ n5_ n6_; clear hb hbox hg; have hnb63 := NB187_171.out; have hnc63 := NB171_187.out; have hcz64_0 : w62.cell? ⟨gb187, 0, none⟩ = some (.int .i64 0) := (blk_cell BK187.out 0).trans rfl; have hcz64_1 : w62.cell? ⟨gb187, 1, none⟩ = some (.string (⟨#[]⟩ : ByteArray)) := (blk_cell BK187.out 1).trans rfl; have hcz64_2 : w62.cell? ⟨gb187, 2, none⟩ = some (.int .i64 0) := (blk_cell BK187.out 2).trans rfl; have hcz64_3 : w62.cell? ⟨gb187, 3, none⟩ = some (.int .i64 0) := (blk_cell BK187.out 3).trans rfl; have hcz64_4 : w62.cell? ⟨gb187, 4, none⟩ = some (.int .i64 0) := (blk_cell BK187.out 4).trans rfl; have hfz64_0 := blk_frozen BK187.out 0; have hfz64_1 := blk_frozen BK187.out 1; have hfz64_2 := blk_frozen BK187.out 2; have hfz64_3 := blk_frozen BK187.out 3; have hfz64_4 := blk_frozen BK187.out 4))
              go_ret
              exact ⟨by first | rfl | (simp [errW_none, errW_some] <;> rfl) | (simp [*, errW_none, errW_some] <;> rfl), by repeat (first | (with_reducible first | exact HB.out | apply below_alloc | apply pw_below_drewN | apply below_drew1 | refine below_set ?_ GE171.out | refine below_set ?_ GE187.out) | exact HB.out)⟩
  · rw [if_neg c4] at H
    have c4b0 : (t173 == 0) = false := beq_eq_false_iff_ne.mpr c4
    have c4b1 : (t173 != 0) = true := bne_iff_ne.mpr c4
    by_cases c65 : t172.toList = ([] : List UInt8)
    · rw [if_pos c65] at H
      have c65b0 : (t172.toList == ([] : List UInt8)) = true := beq_iff_eq.mpr c65
      have c65b1 : (t172.toList != ([] : List UInt8)) = false := bne_eq_false_iff_eq.mpr c65
      clear c65
      replace H := Option.bind_eq_some_iff.mp H
      obtain ⟨t174, A660, H⟩ := H
      replace H : (some t174) = some r := H
      have A66 := Aside0.mk A660
      clear A660
      obtain rfl := Option.some.inj H
      go_enter Tryz.func4, Tryz.ntmps4
      go_wp2_with (first | ((with_reducible refine gate_dst (N := 1) rfl ?_); refine box_event ?hg (N := 1) ?hd (cs := #[.int .i64 a0_0, .int .i64 a0_1]) (t := 27) ?hr ?_; (case hd => rfl); (case hg => rfl); (case hr => first | (go_simp; done) | (go_simp; rfl)); intro gb171 hg w67 hbox hb; have n0_ := Aside0.mk (below_step (by repeat (first | (with_reducible first | exact HB.out | apply below_alloc | apply pw_below_drewN | apply below_drew1) | exact HB.out)) hb); have n1_ := Aside0.mk (hbox); have n2_ := Aside0.mk ((by rw [hg]; exact (below_size (by repeat (first | (with_reducible first | exact HB.out | apply below_alloc | apply pw_below_drewN | apply below_drew1) | exact HB.out))) : w.heap.size ≤ gb171)); have n3_ := Aside0.mk ((by rw [hg]; exact (below_size (by repeat (first | (with_reducible first | exact HB.out | apply below_alloc | apply pw_below_drewN | apply below_drew1) | exact HB.out))) : w.heap.size ≤ gb171)); clear HB; have HB := n0_; have BK171 := n1_; have GW171 := n2_; have GE171 := n3_; clear n0_ n1_ n2_ n3_; clear hb hbox hg; have hcz68_0 : w67.cell? ⟨gb171, 0, none⟩ = some (.int .i64 a0_0) := (blk_cell BK171.out 0).trans rfl; have hcz68_1 : w67.cell? ⟨gb171, 1, none⟩ = some (.int .i64 a0_1) := (blk_cell BK171.out 1).trans rfl; have hfz68_0 := blk_frozen BK171.out 0; have hfz68_1 := blk_frozen BK171.out 1) | ((with_reducible refine gate_callee (f := 13) rfl ?_); refine goesL_ (some 8) rfl rfl Tryz.func13 (by kernel_rfl) rfl #[.agg #[.int .i64 a0_0, .int .i64 a0_1]] rfl (by (try simp only [List.map_toArray, List.map_cons, List.map_nil]); first | done | rfl | (simp only [List.length_drop, List.length_take]; rfl)) ?_; (with_reducible refine (lexer_Number.calls k a0_0 a0_1 t172 _ ?side1 A2.out).mono ?_); (case side1 => exact Tabs.below HT.out (by repeat (first | (with_reducible first | exact HB.out | apply below_alloc | apply pw_below_drewN | apply below_drew1 | refine below_set ?_ GE171.out) | exact HB.out))); rintro e w69 ⟨rfl, hb⟩; refine ⟨_, rfl, ?_⟩; have n0_ := Aside0.mk (blk_below (g := gb171) (o := .cells #[.int .i64 a0_0, .int .i64 a0_1] 27 (0, 0)) (by (with_reducible repeat (first | refine blk_drewN ?_ _ | refine blk_drew ?_ | refine blk_alloc ?_ _)); exact BK171.out) hb); have n1_ := Aside0.mk (below_step (by repeat (first | (with_reducible first | exact HB.out | apply below_alloc | apply pw_below_drewN | apply below_drew1 | refine below_set ?_ GE171.out) | exact HB.out)) hb); clear BK171; clear HB; have BK171 := n0_; have HB := n1_; clear n0_ n1_; (try clear hb); (try clear hb2); (try clear hk); (try clear hi); have hcz70_0 : w69.cell? ⟨gb171, 0, none⟩ = some (.int .i64 a0_0) := (blk_cell BK171.out 0).trans rfl; have hcz70_1 : w69.cell? ⟨gb171, 1, none⟩ = some (.int .i64 a0_1) := (blk_cell BK171.out 1).trans rfl; have hfz70_0 := blk_frozen BK171.out 0; have hfz70_1 := blk_frozen BK171.out 1) | ((with_reducible refine gate_callee (f := 14) rfl ?_); refine goesL_ (some 10) rfl rfl Tryz.func14 (by kernel_rfl) rfl #[.agg #[.int .i64 a0_0, .int .i64 a0_1]] rfl (by (try simp only [List.map_toArray, List.map_cons, List.map_nil]); first | done | rfl | (simp only [List.length_drop, List.length_take]; rfl)) ?_; (with_reducible refine (ratio_Check.calls k a0_0 a0_1 t173 _ A3.out).mono ?_); rintro e w71 ⟨rfl, hb⟩; refine ⟨_, rfl, ?_⟩; have n0_ := Aside0.mk (blk_below (g := gb171) (o := .cells #[.int .i64 a0_0, .int .i64 a0_1] 27 (0, 0)) (by (with_reducible repeat (first | refine blk_drewN ?_ _ | refine blk_drew ?_ | refine blk_alloc ?_ _)); exact BK171.out) hb); have n1_ := Aside0.mk (below_step (by repeat (first | (with_reducible first | exact HB.out | apply below_alloc | apply pw_below_drewN | apply below_drew1 | refine below_set ?_ GE171.out) | exact HB.out)) hb); clear BK171; clear HB; have BK171 := n0_; have HB := n1_; clear n0_ n1_; (try clear hb); (try clear hb2); (try clear hk); (try clear hi)) | (go_at_call 11; (with_reducible refine (lookoutlaw42_awake.calls k  t174 _ ?side1 A66.out).mono ?_); (case side1 => exact Tabs.below HT.out (by repeat (first | (with_reducible first | exact HB.out | apply below_alloc | apply pw_below_drewN | apply below_drew1 | refine below_set ?_ GE171.out) | exact HB.out))); rintro e w72 ⟨rfl, hb⟩; have n0_ := Aside0.mk (blk_below (g := gb171) (o := .cells #[.int .i64 a0_0, .int .i64 a0_1] 27 (0, 0)) (by (with_reducible repeat (first | refine blk_drewN ?_ _ | refine blk_drew ?_ | refine blk_alloc ?_ _)); exact BK171.out) hb); have n1_ := Aside0.mk (below_step (by repeat (first | (with_reducible first | exact HB.out | apply below_alloc | apply pw_below_drewN | apply below_drew1 | refine below_set ?_ GE171.out) | exact HB.out)) hb); clear BK171; clear HB; have BK171 := n0_; have HB := n1_; clear n0_ n1_; (try clear hb); (try clear hb2); (try clear hk); (try clear hi)))
      go_ret
      exact ⟨by first | rfl | (simp [errW_none, errW_some] <;> rfl) | (simp [*, errW_none, errW_some] <;> rfl), by repeat (first | (with_reducible first | exact HB.out | apply below_alloc | apply pw_below_drewN | apply below_drew1 | refine below_set ?_ GE171.out) | exact HB.out)⟩
    · rw [if_neg c65] at H
      have c65b0 : (t172.toList == ([] : List UInt8)) = false := beq_eq_false_iff_ne.mpr c65
      have c65b1 : (t172.toList != ([] : List UInt8)) = true := bne_iff_ne.mpr c65
      obtain rfl := Option.some.inj H
      go_enter Tryz.func4, Tryz.ntmps4
      go_wp2_with (first | ((with_reducible refine gate_dst (N := 1) rfl ?_); refine box_event ?hg (N := 1) ?hd (cs := #[.int .i64 a0_0, .int .i64 a0_1]) (t := 27) ?hr ?_; (case hd => rfl); (case hg => rfl); (case hr => first | (go_simp; done) | (go_simp; rfl)); intro gb171 hg w73 hbox hb; have n0_ := Aside0.mk (below_step (by repeat (first | (with_reducible first | exact HB.out | apply below_alloc | apply pw_below_drewN | apply below_drew1) | exact HB.out)) hb); have n1_ := Aside0.mk (hbox); have n2_ := Aside0.mk ((by rw [hg]; exact (below_size (by repeat (first | (with_reducible first | exact HB.out | apply below_alloc | apply pw_below_drewN | apply below_drew1) | exact HB.out))) : w.heap.size ≤ gb171)); have n3_ := Aside0.mk ((by rw [hg]; exact (below_size (by repeat (first | (with_reducible first | exact HB.out | apply below_alloc | apply pw_below_drewN | apply below_drew1) | exact HB.out))) : w.heap.size ≤ gb171)); clear HB; have HB := n0_; have BK171 := n1_; have GW171 := n2_; have GE171 := n3_; clear n0_ n1_ n2_ n3_; clear hb hbox hg; have hcz74_0 : w73.cell? ⟨gb171, 0, none⟩ = some (.int .i64 a0_0) := (blk_cell BK171.out 0).trans rfl; have hcz74_1 : w73.cell? ⟨gb171, 1, none⟩ = some (.int .i64 a0_1) := (blk_cell BK171.out 1).trans rfl; have hfz74_0 := blk_frozen BK171.out 0; have hfz74_1 := blk_frozen BK171.out 1) | ((with_reducible refine gate_callee (f := 13) rfl ?_); refine goesL_ (some 8) rfl rfl Tryz.func13 (by kernel_rfl) rfl #[.agg #[.int .i64 a0_0, .int .i64 a0_1]] rfl (by (try simp only [List.map_toArray, List.map_cons, List.map_nil]); first | done | rfl | (simp only [List.length_drop, List.length_take]; rfl)) ?_; (with_reducible refine (lexer_Number.calls k a0_0 a0_1 t172 _ ?side1 A2.out).mono ?_); (case side1 => exact Tabs.below HT.out (by repeat (first | (with_reducible first | exact HB.out | apply below_alloc | apply pw_below_drewN | apply below_drew1 | refine below_set ?_ GE171.out) | exact HB.out))); rintro e w75 ⟨rfl, hb⟩; refine ⟨_, rfl, ?_⟩; have n0_ := Aside0.mk (blk_below (g := gb171) (o := .cells #[.int .i64 a0_0, .int .i64 a0_1] 27 (0, 0)) (by (with_reducible repeat (first | refine blk_drewN ?_ _ | refine blk_drew ?_ | refine blk_alloc ?_ _)); exact BK171.out) hb); have n1_ := Aside0.mk (below_step (by repeat (first | (with_reducible first | exact HB.out | apply below_alloc | apply pw_below_drewN | apply below_drew1 | refine below_set ?_ GE171.out) | exact HB.out)) hb); clear BK171; clear HB; have BK171 := n0_; have HB := n1_; clear n0_ n1_; (try clear hb); (try clear hb2); (try clear hk); (try clear hi); have hcz76_0 : w75.cell? ⟨gb171, 0, none⟩ = some (.int .i64 a0_0) := (blk_cell BK171.out 0).trans rfl; have hcz76_1 : w75.cell? ⟨gb171, 1, none⟩ = some (.int .i64 a0_1) := (blk_cell BK171.out 1).trans rfl; have hfz76_0 := blk_frozen BK171.out 0; have hfz76_1 := blk_frozen BK171.out 1) | ((with_reducible refine gate_callee (f := 14) rfl ?_); refine goesL_ (some 10) rfl rfl Tryz.func14 (by kernel_rfl) rfl #[.agg #[.int .i64 a0_0, .int .i64 a0_1]] rfl (by (try simp only [List.map_toArray, List.map_cons, List.map_nil]); first | done | rfl | (simp only [List.length_drop, List.length_take]; rfl)) ?_; (with_reducible refine (ratio_Check.calls k a0_0 a0_1 t173 _ A3.out).mono ?_); rintro e w77 ⟨rfl, hb⟩; refine ⟨_, rfl, ?_⟩; have n0_ := Aside0.mk (blk_below (g := gb171) (o := .cells #[.int .i64 a0_0, .int .i64 a0_1] 27 (0, 0)) (by (with_reducible repeat (first | refine blk_drewN ?_ _ | refine blk_drew ?_ | refine blk_alloc ?_ _)); exact BK171.out) hb); have n1_ := Aside0.mk (below_step (by repeat (first | (with_reducible first | exact HB.out | apply below_alloc | apply pw_below_drewN | apply below_drew1 | refine below_set ?_ GE171.out) | exact HB.out)) hb); clear BK171; clear HB; have BK171 := n0_; have HB := n1_; clear n0_ n1_; (try clear hb); (try clear hb2); (try clear hk); (try clear hi)))
      go_ret
      exact ⟨by first | rfl | (simp [errW_none, errW_some] <;> rfl) | (simp [*, errW_none, errW_some] <;> rfl), by repeat (first | (with_reducible first | exact HB.out | apply below_alloc | apply pw_below_drewN | apply below_drew1 | refine below_set ?_ GE171.out) | exact HB.out)⟩
end Go.Proofs.YteokilkcchdeiaaGreatDoor.Q
end
section
namespace Go.Proofs.YteokilkcchdeiaaGreatDoor.X
open Go.RowKit Go.Shelf Go.Proofs.YteokilkcchdeiaaGreatDoor Go.Proofs.YteokilkcchdeiaaGreatDoorW.PrintWords Go.Proofs.YteokilkcchdeiaaGreatDoorW.PrintLast Go.Proofs.YteokilkcchdeiaaGreatDoorW.PrintMore Go.Proofs.YteokilkcchdeiaaGreatDoor.Q
set_option linter.unusedVariables false
set_option maxRecDepth 100000 in
theorem awake_t : lookoutlaw42_awake.f 60 = some true := by decide +kernel
theorem awake_k (k : Nat) : lookoutlaw42_awake.f (60 + k) = some true := more_rounds (g := fun k => lookoutlaw42_awake.f k) lookoutlaw42_awake.mono 60 k _ awake_t
theorem runN_app (p : Int → Bool) : ∀ (a b : List UInt8), (∀ c ∈ a, p (c.toNat : Int) = true) → runN p (a ++ b) = a.length + runN p b
  | [], b, _ => by simp
  | c :: a, b, h => by
    rw [List.cons_append]
    conv => lhs; unfold runN
    rw [if_pos (h c (by simp)), runN_app p a b (fun d hd => h d (by simp [hd])), List.length_cons]
    omega
theorem decFrom_app : ∀ (a b : List UInt8) (acc m : Nat), Lib.decFrom acc a = some m → Lib.decFrom acc (a ++ b) = Lib.decFrom m b
  | [], b, acc, m, h => by
    obtain rfl : acc = m := by simpa [Lib.decFrom] using h
    rfl
  | c :: a, b, acc, m, h => by
    simp only [List.cons_append, Lib.decFrom] at h ⊢
    cases hd : Lib.digitVal c with
    | none => rw [hd] at h; cases h
    | some d => rw [hd] at h; exact decFrom_app a b _ m h
theorem dig_of (d : Nat) (h : d < 10) : digB (((UInt8.ofNat (48 + d)).toNat : Nat) : Int) = true ∧ Lib.digitVal (UInt8.ofNat (48 + d)) = some d := by
  have e : (UInt8.ofNat (48 + d)).toNat = 48 + d := by simp; omega
  refine ⟨?_, ?_⟩
  · rw [e]; simp only [digB, Bool.and_eq_true, decide_eq_true_eq]; omega
  · unfold Lib.digitVal; rw [e, if_pos (by omega)]; congr 1; omega
theorem dd_spec : ∀ u : Nat, allDig (Lib.decDigits u) ∧ Lib.decFrom 0 (Lib.decDigits u) = some u ∧ Lib.decDigits u ≠ [] := by
  intro u
  induction u using Nat.strongRecOn with
  | _ u ih =>
    rw [Lib.decDigits]
    split
    · rename_i h
      obtain ⟨h1, h2⟩ := dig_of u h
      refine ⟨fun c hc => by rw [List.mem_singleton.1 hc]; exact h1, ?_, by simp⟩
      simp only [Lib.decFrom, h2]
      congr 1; omega
    · rename_i h
      obtain ⟨i1, i2, i3⟩ := ih (u / 10) (by omega)
      obtain ⟨h1, h2⟩ := dig_of (u % 10) (by omega)
      refine ⟨fun c hc => ?_, ?_, by simp⟩
      · rcases List.mem_append.1 hc with hc | hc
        · exact i1 c hc
        · rw [List.mem_singleton.1 hc]; exact h1
      · rw [decFrom_app _ _ _ _ i2]
        simp only [Lib.decFrom, h2]
        congr 1; omega
theorem dd_len : ∀ (k u : Nat), u < 10 ^ (k + 1) → (Lib.decDigits u).length ≤ k + 1
  | 0, u, h => by rw [Lib.decDigits, dif_pos (by simpa using h)]; simp
  | k + 1, u, h => by
    rw [Lib.decDigits]
    split
    · simp
    · have := dd_len k (u / 10) (by rw [Nat.pow_succ] at h; omega)
      simp; omega
def digHead (l : List UInt8) : Prop := l = [] ∨ ∃ c r, l = c :: r ∧ digB (c.toNat : Int) = true
attribute [local irreducible] runN numV
theorem one_whole (l : List UInt8) (h4 : l.length ≤ 4000) (r : Rd) (hB : blankG false l = 0) (hne : l ≠ []) (hF : F0 l = r) (hs : r.size = l.length) (he : r.err = 0) :
    lookoutlaw42_one.f ⟨l.toArray⟩ = some (r.kind, r.text, r.num, r.den, 0, true) := by
  have hz : (⟨l.toArray⟩ : ByteArray).size = l.length := by simp [ByteArray.size]
  have hdat : (⟨l.toArray⟩ : ByteArray).data.toList = l := rfl
  have hseq : seqT X0 4001 l 0 = [{ r with at_ := 0 }] := by
    rw [seqT_ok X0 4000 l 0 r hF hne he]
    have hd : l.drop (r.size.toNat + X0.B (l.drop r.size.toNat)) = [] := List.drop_eq_nil_of_le (by rw [hs, Int.toNat_natCast]; omega)
    rw [hd, seqT_nil]; rfl
  have ht : tokensOf X0 ⟨l.toArray⟩ = ([⟨r.kind, r.text, ⟨r.num, r.den⟩, 0⟩, ⟨0, ⟨#[]⟩, ⟨0, 0⟩, l.length⟩], 0, 0) := by
    unfold tokensOf
    rw [if_neg (by rw [hz]; omega), hdat, show X0.B l = 0 from hB, List.drop_zero, hseq, tokR_ok (by intro x hx; rw [List.mem_singleton.1 hx]; exact he), hz]
    rfl
  unfold lookoutlaw42_one.f lexer_Tokens.f
  rw [ht, Option.bind_some]
  rfl
theorem digHead_blank {l : List UInt8} (h : digHead l) : blankG false l = 0 := by
  rcases h with rfl | ⟨c, r, rfl, hc⟩
  · rfl
  · simp only [digB, Bool.and_eq_true, decide_eq_true_eq] at hc
    have h1 : ¬ (c = 32 ∨ c = 9 ∨ c = 10) := by rintro (rfl | rfl | rfl) <;> revert hc <;> decide
    have h2 : ¬ c = 35 := by rintro rfl; revert hc; decide
    simp [blankG, h1, h2]
theorem digHead_name {l : List UInt8} (h : digHead l) : ¬ 0 < (nameR l).size := by
  have hp : partN l = 0 := by
    rcases h with rfl | ⟨c, r, rfl, hc⟩
    · decide
    · refine if_neg ?_
      show ¬ letB (c.toNat : Int) = true
      simp only [digB, letB, Bool.and_eq_true, decide_eq_true_eq, Bool.or_eq_true, beq_iff_eq] at hc ⊢
      omega
  unfold nameR
  rw [hp]
  have : nameN (l.length + 1) l 0 = 0 := by unfold nameN; rw [if_neg (fun h => absurd h.1 (by decide))]
  rw [this]
  unfold nameF; rw [if_neg (by decide)]
  simp
end Go.Proofs.YteokilkcchdeiaaGreatDoor.X
end
section
namespace Go.Proofs.YteokilkcchdeiaaGreatDoor.X
open Go.RowKit Go.Shelf Go.Proofs.YteokilkcchdeiaaGreatDoor Go.Proofs.YteokilkcchdeiaaGreatDoorW.PrintWords Go.Proofs.YteokilkcchdeiaaGreatDoorW.PrintLast Go.Proofs.YteokilkcchdeiaaGreatDoorW.PrintMore Go.Proofs.YteokilkcchdeiaaGreatDoor.Q
set_option linter.unusedVariables false
theorem td (a b : Nat) : Int.tdiv (a : Int) (b : Int) = ((a / b : Nat) : Int) := by
  rw [Int.tdiv_eq_ediv_of_nonneg (Int.natCast_nonneg _)]; rfl
theorem tm (a b : Nat) : Int.tmod (a : Int) (b : Int) = ((a % b : Nat) : Int) := by
  rw [Int.tmod_eq_emod_of_nonneg (Int.natCast_nonneg _)]; rfl
def checkP (num den : Int) : Int := if den < 1 ∨ 1152921504606846976 < den ∨ num < -1152921504606846976 ∨ 1152921504606846976 < num then 1 else if Nat.gcd num.natAbs den.toNat = 1 then 0 else 1
theorem magnitude_abs (n : Int) (h : -1152921504606846976 ≤ n) (h2 : n ≤ 1152921504606846976) : ratio_magnitude.f n = some ((n.natAbs : Nat) : Int) := by
  unfold ratio_magnitude.f
  split
  · congr 1
    simp [IntKind.wrap, IntKind.bits]
    omega
  · congr 1
    simp [IntKind.wrap, IntKind.bits]
    omega
theorem u64_wrap {n : Int} (h : 0 ≤ n) (h2 : n ≤ 1152921504606846976) : IntKind.u64.wrap n = n := by
  simp [IntKind.wrap, IntKind.bits]
  omega
theorem check_f (num den : Int) (k : Nat) (hk : den.toNat + 3 ≤ k) : ratio_Check.f k num den = some (checkP num den) := by
  obtain ⟨k, rfl⟩ : ∃ m, k = m + 2 := ⟨k - 2, by omega⟩
  have hj1 : ∀ b : Bool, (b = true → checkP num den = 1) → (b = false → 1 ≤ den ∧ den ≤ 1152921504606846976 ∧ -1152921504606846976 ≤ num ∧ num ≤ 1152921504606846976) → ratio_Check.j1 (k + 1) b num den = some (checkP num den) := by
    intro b h1 h2
    unfold ratio_Check.j1
    (try dsimp only)
    cases b with
    | true => rw [if_pos rfl, h1 rfl]
    | false =>
      obtain ⟨g1, g2, g3, g4⟩ := h2 rfl
      rw [if_neg Bool.false_ne_true, magnitude_abs num g3 g4, Option.bind_some, u64_wrap (by omega) g2]
      unfold ratio_divisor.f
      have h := divisor_gcd den.toNat num.natAbs k (by omega)
      rw [show ((den.toNat : Nat) : Int) = den by omega] at h
      rw [h, Option.bind_some]
      have hp : checkP num den = if Nat.gcd num.natAbs den.toNat = 1 then 0 else 1 := by unfold checkP; rw [if_neg (by omega)]
      rw [hp]
      by_cases hg : Nat.gcd num.natAbs den.toNat = 1
      · have hg2 : ((Nat.gcd num.natAbs den.toNat : Nat) : Int) = 1 := by rw [hg]; rfl
        rw [if_pos hg2, if_pos hg]
      · have hg2 : ¬ ((Nat.gcd num.natAbs den.toNat : Nat) : Int) = 1 := fun h => hg (Int.ofNat_inj.1 h)
        rw [if_neg hg2, if_neg hg]
  have hj0 : ∀ b : Bool, (b = true → checkP num den = 1) → (b = false → 1 ≤ den ∧ den ≤ 1152921504606846976) → ratio_Check.j0 (k + 2) b num den = some (checkP num den) := by
    intro b h1 h2
    unfold ratio_Check.j0
    (try dsimp only)
    cases b with
    | true => rw [if_pos rfl, h1 rfl]
    | false =>
      obtain ⟨g1, g2⟩ := h2 rfl
      rw [if_neg Bool.false_ne_true]
      by_cases hn : num < -1152921504606846976
      · rw [if_pos hn]
        exact hj1 true (fun _ => by unfold checkP; rw [if_pos (by omega)]) (fun h => by cases h)
      · rw [if_neg hn]
        refine hj1 _ (fun h => ?_) (fun h => ?_)
        · have := of_decide_eq_true h
          unfold checkP; rw [if_pos (by omega)]
        · have := of_decide_eq_false h
          omega
  unfold ratio_Check.f
  by_cases hd : den < 1
  · rw [if_pos hd]
    exact hj0 true (fun _ => by unfold checkP; rw [if_pos (by omega)]) (fun h => by cases h)
  · rw [if_neg hd]
    refine hj0 _ (fun h => ?_) (fun h => ?_)
    · have := of_decide_eq_true h
      unfold checkP; rw [if_pos (by omega)]
    · have := of_decide_eq_false h
      omega
theorem check_ok {num den : Int} (h : checkP num den = 0) : 1 ≤ den ∧ den ≤ 1152921504606846976 ∧ -1152921504606846976 ≤ num ∧ num ≤ 1152921504606846976 ∧ Nat.gcd num.natAbs den.toNat = 1 := by
  unfold checkP at h
  split at h
  · cases h
  · split at h
    · rename_i hg; exact ⟨by omega, by omega, by omega, by omega, hg⟩
    · cases h
def formatP (num den : Int) : List UInt8 := if den = 1 then Lib.itoa num else Lib.itoa num ++ 47 :: Lib.itoa den
theorem format_f (num den : Int) (k : Nat) (hk : den.toNat + 3 ≤ k) (h : checkP num den = 0) : ratio_Format.f k num den = some ⟨(formatP num den).toArray⟩ := by
  obtain ⟨h1, h2, h3, h4, h5⟩ := check_ok h
  unfold ratio_Format.f
  rw [check_f num den k hk, Option.bind_some, if_pos h]
  unfold strconv_Itoa.f
  rw [if_pos (by omega), Option.bind_some]
  unfold formatP
  by_cases hd : den = 1
  · rw [if_pos hd, if_pos hd]
  · have l1 := Lib.itoa_length_le num (by omega) (by omega)
    have l2 := Lib.itoa_length_le den (by omega) (by omega)
    have z : ∀ l : List UInt8, (⟨l.toArray⟩ : ByteArray).size = l.length := fun l => by simp [ByteArray.size]
    rw [if_neg hd, if_neg hd, if_pos (by omega), Option.bind_some, z, if_pos (by omega)]
    have e : (⟨#[47]⟩ : ByteArray) ++ ⟨(Lib.itoa den).toArray⟩ = ⟨(47 :: Lib.itoa den).toArray⟩ := by
      apply ByteArray.ext; simp
    rw [e, z, z, if_pos (by simp only [List.length_cons]; omega)]
    congr 1
def pl (den : Nat) : Nat → Nat → Nat
  | 0, i => i
  | m + 1, i => if 10 ^ i % den = 0 then i else pl den m (i + 1)
theorem pl_le (den : Nat) : ∀ m i, i ≤ pl den m i ∧ pl den m i ≤ i + m
  | 0, i => by simp [pl]
  | m + 1, i => by
    unfold pl
    split
    · omega
    · have := pl_le den m (i + 1); omega
def numT (minus : List UInt8) (a den : Nat) (fm : List UInt8) : List UInt8 :=
  if 10 ^ (pl den 18 0) % den = 0 ∧ (Lib.decDigits (a / den)).length + pl den 18 0 ≤ 18 then
    (if pl den 18 0 = 0 then minus ++ Lib.decDigits (a / den)
     else minus ++ (Lib.decDigits (a / den) ++ 46 :: (List.replicate (pl den 18 0 - (Lib.decDigits (a % den * (10 ^ (pl den 18 0) / den))).length) 48 ++ Lib.decDigits (a % den * (10 ^ (pl den 18 0) / den)))))
  else fm
theorem p10_le {i : Nat} (h : i ≤ 18) : 1 ≤ 10 ^ i ∧ 10 ^ i ≤ 1000000000000000000 := by
  have h1 : (10 : Nat) ^ i ≤ 10 ^ 18 := Nat.pow_le_pow_right (by decide) h
  have h2 : (10 : Nat) ^ 18 = 1000000000000000000 := by decide
  have h3 : 1 ≤ (10 : Nat) ^ i := Nat.pos_of_ne_zero (by simp)
  omega
theorem rest_lt {a den i : Nat} (hd : 1 ≤ den) : a % den * (10 ^ i / den) < 10 ^ i := by
  have h1 := Nat.mod_lt a (show 0 < den by omega)
  have h3 : 1 ≤ (10 : Nat) ^ i := Nat.pos_of_ne_zero (by simp)
  by_cases hq : 10 ^ i / den = 0
  · rw [hq]; omega
  · have h2 : den * (10 ^ i / den) ≤ 10 ^ i := Nat.mul_div_le _ _
    have h4 : a % den * (10 ^ i / den) < den * (10 ^ i / den) := Nat.mul_lt_mul_of_pos_right h1 (Nat.pos_of_ne_zero hq)
    omega
theorem rest_len {a den i : Nat} (hd : 1 ≤ den) (hi : 1 ≤ i) : (Lib.decDigits (a % den * (10 ^ i / den))).length ≤ i := by
  obtain ⟨j, rfl⟩ : ∃ j, i = j + 1 := ⟨i - 1, by omega⟩
  exact dd_len j _ (rest_lt hd)
theorem num_j3' (minus : List UInt8) (hmin : minus.length ≤ 1) (a den : Nat) (num : Int) (i k : Nat) (b : Bool) (hi : i = pl den 18 0) (ha : a ≤ 1152921504606846976) (hd : 1 ≤ den) (hd2 : den ≤ 1152921504606846976) (hk : den + 4 ≤ k) (hc : checkP num den = 0)
    (hb : b = false ↔ (10 ^ i % den = 0 ∧ (Lib.decDigits (a / den)).length + i ≤ 18)) :
    lexer_Number.j3 k ⟨minus.toArray⟩ a ⟨(Lib.decDigits (a / den)).toArray⟩ i ((10 ^ i : Nat) : Int) b num den = some ⟨(numT minus a den (formatP num den)).toArray⟩ := by
  obtain ⟨k, rfl⟩ : ∃ m, k = m + 1 := ⟨k - 1, by omega⟩
  have z : ∀ l : List UInt8, (⟨l.toArray⟩ : ByteArray).size = l.length := fun l => by simp [ByteArray.size]
  have app : ∀ l m : List UInt8, (⟨l.toArray⟩ : ByteArray) ++ ⟨m.toArray⟩ = ⟨(l ++ m).toArray⟩ := fun l m => by apply ByteArray.ext; simp
  obtain ⟨hi0, hi18⟩ := pl_le den 18 0
  unfold lexer_Number.j3 numT
  (try dsimp only)
  rw [← hi] at hi18 ⊢
  cases b with
  | true =>
    rw [if_pos rfl, format_f num den k (by omega) hc, Option.bind_some, if_neg (by intro h; exact absurd (hb.2 h) (by decide))]
  | false =>
    have hc2 := hb.1 rfl
    obtain ⟨p1, p2⟩ := p10_le (show i ≤ 18 by omega)
    have hw : (Lib.decDigits (a / den)).length ≤ 18 := by omega
    rw [if_neg Bool.false_ne_true, if_pos hc2]
    by_cases h0 : i = 0
    · rw [if_pos (by omega), if_pos h0, z, z, if_pos (by omega), app]
    · have hr := rest_len (a := a) hd (show 1 ≤ i by omega)
      have hlt := rest_lt (a := a) (i := i) hd
      have hq : 10 ^ i / den ≤ 10 ^ i := Nat.div_le_self _ _
      rw [if_neg (by omega), if_neg h0, if_neg (by omega)]
      have e1 : wrap64 (Int.tdiv ((10 ^ i : Nat) : Int) (den : Int)) = ((10 ^ i / den : Nat) : Int) := by
        rw [td]
        generalize 10 ^ i / den = q at hq
        exact w64 (by omega) (by omega)
      have e2 : Int.tmod (a : Int) (den : Int) = ((a % den : Nat) : Int) := tm _ _
      have e3 : wrap64 (((a % den : Nat) : Int) * ((10 ^ i / den : Nat) : Int)) = ((a % den * (10 ^ i / den) : Nat) : Int) := by
        rw [show (((a % den : Nat) : Int) * ((10 ^ i / den : Nat) : Int)) = ((a % den * (10 ^ i / den) : Nat) : Int) from (Int.natCast_mul _ _).symm]
        generalize a % den * (10 ^ i / den) = r at hlt
        exact w64 (by omega) (by omega)
      rw [e1, e2, e3]
      generalize a % den * (10 ^ i / den) = r at hr hlt ⊢
      unfold strconv_Itoa.f
      rw [if_pos (by omega), Option.bind_some, Lib.itoa_nonneg]
      simp only [z, app]
      rw [if_pos (by omega), if_pos (by simp only [List.length_append]; omega)]
      rw [w64 (n := (i : Int) - ((Lib.decDigits r).length : Int)) (by omega) (by omega)]
      rw [show ((i : Int) - ((Lib.decDigits r).length : Int)) = ((i - (Lib.decDigits r).length : Nat) : Int) from by omega]
      unfold strings_Repeat.f
      rw [z, if_pos ⟨by omega, by omega, by simp only [List.length_cons, List.length_nil, Int.toNat_natCast]; omega⟩, Option.bind_some]
      have hrep : Lib.repeatL (⟨#[48]⟩ : ByteArray).data.toList ((i - (Lib.decDigits r).length : Nat) : Int).toNat = List.replicate (i - (Lib.decDigits r).length) 48 := by
        rw [Int.toNat_natCast]
        generalize i - (Lib.decDigits r).length = n
        show Lib.repeatL [48] n = _
        induction n with
        | zero => rfl
        | succ n ih => rw [Lib.repeatL, ih, List.replicate_succ]; rfl
      rw [hrep]
      simp only [z, app]
      rw [if_pos (by simp only [List.length_append, List.length_replicate, List.length_cons, List.length_nil]; omega), if_pos (by simp only [List.length_append, List.length_replicate, List.length_cons, List.length_nil]; omega)]
      congr 3
      simp
theorem num_j2' (minus : List UInt8) (hmin : minus.length ≤ 1) (a den : Nat) (num : Int) (i k : Nat) (hi : i = pl den 18 0) (ha : a ≤ 1152921504606846976) (hd : 1 ≤ den) (hd2 : den ≤ 1152921504606846976) (hk : den + 5 ≤ k) (hc : checkP num den = 0) :
    lexer_Number.j2 k ⟨minus.toArray⟩ a ⟨(Lib.decDigits (a / den)).toArray⟩ i ((10 ^ i : Nat) : Int) num den = some ⟨(numT minus a den (formatP num den)).toArray⟩ := by
  obtain ⟨k, rfl⟩ : ∃ m, k = m + 1 := ⟨k - 1, by omega⟩
  have z : ∀ l : List UInt8, (⟨l.toArray⟩ : ByteArray).size = l.length := fun l => by simp [ByteArray.size]
  obtain ⟨hi0, hi18⟩ := pl_le den 18 0
  have hw : (Lib.decDigits (a / den)).length ≤ 20 := dd_len 19 _ (by
    have h1 : a / den ≤ a := Nat.div_le_self _ _
    have h2 : (10 : Nat) ^ (19 + 1) = 100000000000000000000 := by decide
    omega)
  unfold lexer_Number.j2
  (try dsimp only)
  rw [if_neg (by omega)]
  have e2 : Int.tmod ((10 ^ i : Nat) : Int) (den : Int) = ((10 ^ i % den : Nat) : Int) := tm _ _
  rw [e2, z, w64 (n := ((Lib.decDigits (a / den)).length : Int) + (i : Int)) (by omega) (by omega)]
  by_cases hm : 10 ^ i % den = 0
  · rw [if_pos (by omega)]
    refine num_j3' minus hmin a den num i k _ hi ha hd hd2 (by omega) hc ?_
    rw [decide_eq_false_iff_not]
    constructor
    · intro h; exact ⟨hm, by omega⟩
    · rintro ⟨_, h⟩; omega
  · rw [if_neg (by omega)]
    exact num_j3' minus hmin a den num i k true hi ha hd hd2 (by omega) hc ⟨fun h => (by cases h), fun h => absurd h.1 hm⟩
theorem num_l0 (minus : List UInt8) (hmin : minus.length ≤ 1) (a den : Nat) (num : Int) (ha : a ≤ 1152921504606846976) (hd : 1 ≤ den) (hd2 : den ≤ 1152921504606846976) (hc : checkP num den = 0) : ∀ (m i k : Nat), i + m = 18 → pl den m i = pl den 18 0 → den + 6 + m ≤ k →
    lexer_Number.l0 k ⟨minus.toArray⟩ a ⟨(Lib.decDigits (a / den)).toArray⟩ i ((10 ^ i : Nat) : Int) num den = some ⟨(numT minus a den (formatP num den)).toArray⟩ := by
  intro m
  induction m with
  | zero =>
    intro i k him hp hk
    obtain ⟨k, rfl⟩ : ∃ m, k = m + 1 := ⟨k - 1, by omega⟩
    unfold lexer_Number.l0
    (try dsimp only)
    rw [if_neg (by omega)]
    exact num_j2' minus hmin a den num i k hp ha hd hd2 (by omega) hc
  | succ m ih =>
    intro i k him hp hk
    obtain ⟨k, rfl⟩ : ∃ m, k = m + 1 := ⟨k - 1, by omega⟩
    obtain ⟨p1, p2⟩ := p10_le (show i ≤ 18 by omega)
    obtain ⟨p3, p4⟩ := p10_le (show i + 1 ≤ 18 by omega)
    unfold lexer_Number.l0
    (try dsimp only)
    have e2 : Int.tmod ((10 ^ i : Nat) : Int) (den : Int) = ((10 ^ i % den : Nat) : Int) := tm _ _
    rw [if_pos (by omega), if_neg (by omega), e2]
    unfold pl at hp
    by_cases hm : 10 ^ i % den = 0
    · rw [if_pos hm] at hp
      rw [if_pos (by omega)]
      exact num_j2' minus hmin a den num i k hp ha hd hd2 (by omega) hc
    · rw [if_neg hm] at hp
      rw [if_neg (by omega)]
      have e3 : (((10 ^ i : Nat) : Int) * 10) = ((10 ^ (i + 1) : Nat) : Int) := by rw [Nat.pow_succ]; omega
      rw [w64 (n := (i : Int) + 1) (by omega) (by omega), e3, w64 (by omega) (by omega)]
      exact ih (i + 1) k (by omega) hp (by omega)
theorem number_f (num den : Int) (k : Nat) (hk : den.toNat + 30 ≤ k) (hc : checkP num den = 0) :
    lexer_Number.f k num den = some ⟨(numT (if num < 0 then [45] else []) num.natAbs den.toNat (formatP num den)).toArray⟩ := by
  obtain ⟨h1, h2, h3, h4, h5⟩ := check_ok hc
  obtain ⟨den, rfl⟩ : ∃ d : Nat, den = d := ⟨den.toNat, by omega⟩
  rw [Int.toNat_natCast] at h5 hk
  have hj0 : ∀ (minus : List UInt8) (a : Nat), minus.length ≤ 1 → a ≤ 1152921504606846976 → lexer_Number.j0 k ⟨minus.toArray⟩ a num den = some ⟨(numT minus a den (formatP num den)).toArray⟩ := by
    intro minus a hmin ha
    obtain ⟨k, rfl⟩ : ∃ m, k = m + 1 := ⟨k - 1, by omega⟩
    unfold lexer_Number.j0
    (try dsimp only)
    rw [if_neg (by omega)]
    have e1 : wrap64 (Int.tdiv (a : Int) (den : Int)) = ((a / den : Nat) : Int) := by
      rw [td]
      have : a / den ≤ a := Nat.div_le_self _ _
      generalize a / den = q at this
      exact w64 (by omega) (by omega)
    have hle : a / den ≤ a := Nat.div_le_self _ _
    have hi : strconv_Itoa.f ((a / den : Nat) : Int) = some ⟨(Lib.decDigits (a / den)).toArray⟩ := by
      generalize a / den = q at hle
      unfold strconv_Itoa.f
      rw [if_pos (by omega), Lib.itoa_nonneg]
    rw [e1, hi, Option.bind_some]
    exact num_l0 minus hmin a den num ha (by omega) (by omega) hc 18 0 k rfl rfl (by omega)
  unfold lexer_Number.f
  rw [check_f num den k (by omega), Option.bind_some, if_pos hc, Int.toNat_natCast]
  by_cases hn : num < 0
  · rw [if_pos hn, if_pos hn, w64 (n := -num) (by omega) (by omega), show -num = ((num.natAbs : Nat) : Int) by omega]
    exact hj0 [45] _ (by decide) (by omega)
  · rw [if_neg hn, if_neg hn]
    have := hj0 [] num.natAbs (by decide) (by omega)
    rw [show ((num.natAbs : Nat) : Int) = num by omega] at this
    exact this
theorem ref_gcd (b : Nat) : ∀ (a k : Nat), b < k → lookoutref03_gcd.l0 k a b = some ((Nat.gcd a b : Nat) : Int) := by
  induction b using Nat.strongRecOn with
  | _ b ih =>
    intro a k hk
    obtain ⟨k, rfl⟩ : ∃ m, k = m + 1 := ⟨k - 1, by omega⟩
    simp only [lookoutref03_gcd.l0]
    by_cases hb : b = 0
    · subst hb; simp
    · have h1 : ¬ ((b : Int) = 0) := by omega
      have h2 : (Int.tmod (a : Int) (b : Int)) = ((a % b : Nat) : Int) := by
        rw [Int.tmod_eq_emod_of_nonneg (by omega)]; rfl
      have h3 := ih (a % b) (Nat.mod_lt _ (by omega)) b k (by have := Nat.mod_lt a (show 0 < b by omega); omega)
      have h4 : (b : Int) > 0 := by omega
      simp only [h1, h4, if_false, if_true, h2]
      rw [h3, Nat.gcd_comm a b, Nat.gcd_rec b a, Nat.gcd_comm]
theorem ref_check (num den : Int) (k : Nat) (hk : den.toNat < k) (h : checkP num den = 0) : lookoutref03_Check.f k num den = some 0 := by
  obtain ⟨h1, h2, h3, h4, h5⟩ := check_ok h
  unfold lookoutref03_Check.f
  rw [if_neg (by omega), if_neg (by omega), if_neg (by omega), if_neg (by omega)]
  have ha : lookoutref03_abs.f num = some ((num.natAbs : Nat) : Int) := by
    unfold lookoutref03_abs.f
    split
    · rw [w64 (by omega) (by omega)]; congr 1; omega
    · congr 1; omega
  rw [ha, Option.bind_some]
  unfold lookoutref03_gcd.f
  have hg := ref_gcd den.toNat num.natAbs k hk
  rw [show ((den.toNat : Nat) : Int) = den by omega, h5] at hg
  rw [hg, Option.bind_some, if_pos (by decide)]
theorem abs_some (a : Int) : ∃ x, lookoutref03_abs.f a = some x := by unfold lookoutref03_abs.f; split <;> exact ⟨_, rfl⟩
theorem times_some (k : Nat) (a b : Int) : ∃ r, lookoutref03_times.f (k + 1) a b = some r := by
  obtain ⟨x, hx⟩ := abs_some a
  obtain ⟨y, hy⟩ := abs_some b
  have hj : ∀ c, ∃ r, lookoutref03_times.j0 (k + 1) a b c = some r := by
    intro c
    unfold lookoutref03_times.j0
    (try dsimp only)
    rw [hx, hy]
    simp only [Option.bind_some]
    split
    · exact ⟨_, rfl⟩
    · split <;> exact ⟨_, rfl⟩
  unfold lookoutref03_times.f
  split <;> exact hj _
theorem plus_j (k : Nat) (a b c d e f : Int) : ∃ r, lookoutref03_plus.j0 (k + 1) a b c d e f = some r ∧ (r.1 = 0 ∨ r.1 = a) := by
  unfold lookoutref03_plus.j0
  (try dsimp only)
  repeat' split
  all_goals exact ⟨_, rfl, by first | exact .inl rfl | exact .inr rfl⟩
theorem plus_some (k : Nat) (a b c d e f : Int) : ∃ r, lookoutref03_plus.f (k + 1) a b c d e f = some r := by
  obtain ⟨x, hx, _⟩ := plus_j k a b c d e f
  obtain ⟨y, hy, _⟩ := plus_j k d e f a b c
  unfold lookoutref03_plus.f lookoutref03_less.f
  rw [hx, hy]
  repeat' split
  all_goals first | exact ⟨_, rfl⟩ | (rw [Option.bind_some]; split <;> exact ⟨_, rfl⟩)
theorem times_one (k : Nat) (n : Int) (h0 : 1 ≤ n) (h1 : n ≤ 1152921504606846976) : lookoutref03_times.f (k + 1) n 1 = some (1, n / 1152921504606846976, n % 1152921504606846976) := by
  have ha : lookoutref03_abs.f n = some n := by unfold lookoutref03_abs.f; rw [if_neg (by omega)]
  have hb : lookoutref03_abs.f 1 = some 1 := by decide
  unfold lookoutref03_times.f
  rw [if_neg (by omega), show ((1 : Int) == 0) = false from rfl]
  unfold lookoutref03_times.j0
  (try dsimp only)
  rw [if_neg Bool.false_ne_true, show decide (n < 0) = false from decide_eq_false (by omega), show decide ((1 : Int) < 0) = false from rfl, if_neg (by decide), ha, hb]
  simp only [Option.bind_some]
  have c0 : Int.tdiv 1 1073741824 = 0 := by decide
  have c1 : Int.tmod 1 1073741824 = 1 := by decide
  rw [c0, c1, Int.tdiv_eq_ediv_of_nonneg (by omega : 0 ≤ n), Int.tmod_eq_emod_of_nonneg (by omega : 0 ≤ n)]
  obtain ⟨A, hA⟩ : ∃ A, n / 1073741824 = A := ⟨_, rfl⟩
  obtain ⟨B, hB⟩ : ∃ B, n % 1073741824 = B := ⟨_, rfl⟩
  have hn : n = 1073741824 * A + B := by omega
  have hA0 : 0 ≤ A ∧ A ≤ 1073741824 := by omega
  have hB0 : 0 ≤ B ∧ B < 1073741824 := by omega
  rw [hA, hB]
  rw [w64 (n := 0) (by decide) (by decide), w64 (n := A) (by omega) (by omega), Int.mul_zero, Int.mul_zero, Int.mul_one, Int.mul_one, w64 (n := A) (by omega) (by omega), w64 (n := B) (by omega) (by omega), w64 (n := 0) (by decide) (by decide), Int.add_zero, w64 (n := A) (by omega) (by omega)]
  rw [Int.tdiv_eq_ediv_of_nonneg (by omega : 0 ≤ A), Int.tmod_eq_emod_of_nonneg (by omega : 0 ≤ A)]
  rw [w64 (n := A / 1073741824) (by omega) (by omega), w64 (n := A % 1073741824 * 1073741824) (by omega) (by omega), w64 (n := B + A % 1073741824 * 1073741824) (by omega) (by omega)]
  rw [Int.tdiv_eq_ediv_of_nonneg (by omega : 0 ≤ B + A % 1073741824 * 1073741824), Int.tmod_eq_emod_of_nonneg (by omega : 0 ≤ B + A % 1073741824 * 1073741824)]
  rw [w64 (n := (B + A % 1073741824 * 1073741824) / 1152921504606846976) (by omega) (by omega), Int.zero_add, w64 (n := A / 1073741824) (by omega) (by omega)]
  rw [w64 (n := A / 1073741824 + (B + A % 1073741824 * 1073741824) / 1152921504606846976) (by omega) (by omega)]
  clear hA hB
  congr 2
  congr 1 <;> omega
theorem compare_f (num den : Int) (k : Nat) (hk : den.toNat + 3 ≤ k) (hc : checkP num den = 0) :
    ∃ c, lookoutref03_Compare.f k num den 1000000000000000000 1 = some c ∧ (den = 1 → 1000000000000000000 ≤ num → 0 ≤ c) := by
  obtain ⟨h1, h2, h3, h4, h5⟩ := check_ok hc
  obtain ⟨k, rfl⟩ : ∃ m, k = m + 2 := ⟨k - 2, by omega⟩
  unfold lookoutref03_Compare.f
  rw [ref_check num den _ (by omega) hc, Option.bind_some, if_pos rfl, ref_check 1000000000000000000 1 _ (by show 1 < k + 2; omega) (by decide +kernel), Option.bind_some]
  unfold lookoutref03_Compare.j0
  (try dsimp only)
  rw [if_neg (by decide)]
  obtain ⟨x, hx⟩ := times_some k num 1
  obtain ⟨y, hy⟩ := times_some k (wrap64 (-1000000000000000000)) den
  obtain ⟨z, hz⟩ := plus_some k x.1 x.2.1 x.2.2 y.1 y.2.1 y.2.2
  rw [hx, Option.bind_some, hy, Option.bind_some, hz, Option.bind_some]
  refine ⟨_, rfl, ?_⟩
  rintro rfl hn
  rw [times_one k num (by omega) h4] at hx
  obtain rfl := Option.some.inj hx
  have hy2 : lookoutref03_times.f (k + 1) (wrap64 (-1000000000000000000)) 1 = some (-1, 0, 1000000000000000000) := by
    have := more_rounds (g := fun k => lookoutref03_times.f k (wrap64 (-1000000000000000000)) 1) (fun k => lookoutref03_times.mono _ _ k) 1 k (-1, 0, 1000000000000000000) (by decide +kernel)
    rw [Nat.add_comm]; exact this
  rw [hy2] at hy
  obtain rfl := Option.some.inj hy
  obtain ⟨r, hr, hs⟩ := plus_j k 1 (num / 1152921504606846976) (num % 1152921504606846976) (-1) 0 1000000000000000000
  have hless : lookoutref03_less.f 1 (num / 1152921504606846976) (num % 1152921504606846976) (-1) 0 1000000000000000000 = some false := by
    unfold lookoutref03_less.f
    rw [if_neg (by omega)]
    split
    · rw [decide_eq_false (by omega)]
    · rfl
  dsimp only at hz
  unfold lookoutref03_plus.f at hz
  rw [if_neg (by decide), if_neg (by decide), if_neg (by decide), hless, Option.bind_some, if_neg Bool.false_ne_true, hr] at hz
  obtain rfl := Option.some.inj hz
  omega
theorem decFrom_acc : ∀ (l : List UInt8) (acc v m : Nat), Lib.decFrom acc l = some v → Lib.decFrom (m + acc) l = some (m * 10 ^ l.length + v)
  | [], acc, v, m, h => by
    obtain rfl : acc = v := by simpa [Lib.decFrom] using h
    simp [Lib.decFrom]
  | c :: l, acc, v, m, h => by
    simp only [Lib.decFrom] at h ⊢
    cases hd : Lib.digitVal c with
    | none => rw [hd] at h; cases h
    | some d =>
      rw [hd] at h
      have := decFrom_acc l _ v (m * 10) h
      dsimp only
      rw [show (m + acc) * 10 + d = m * 10 + (acc * 10 + d) by omega, this, List.length_cons, Nat.pow_succ, Nat.mul_assoc, Nat.mul_comm 10]
theorem decFrom_zero : ∀ n : Nat, Lib.decFrom 0 (List.replicate n 48) = some 0
  | 0 => rfl
  | n + 1 => by rw [List.replicate_succ]; simp only [Lib.decFrom, show Lib.digitVal 48 = some 0 by decide]; exact decFrom_zero n
theorem allDig_app {a b : List UInt8} (ha : allDig a) (hb : allDig b) : allDig (a ++ b) := by
  intro c hc
  rcases List.mem_append.1 hc with h | h
  · exact ha c h
  · exact hb c h
theorem allDig_rep (n : Nat) : allDig (List.replicate n 48) := by
  intro c hc
  rw [(List.mem_replicate.1 hc).2]; decide
theorem numV_dec (i w r : Nat) (hr : (Lib.decDigits r).length ≤ i) : numV (Lib.decDigits w ++ (List.replicate (i - (Lib.decDigits r).length) 48 ++ Lib.decDigits r)) = w * 10 ^ i + r := by
  obtain ⟨_, w2, _⟩ := dd_spec w
  obtain ⟨_, r2, _⟩ := dd_spec r
  unfold numV
  rw [decFrom_app _ _ _ _ w2]
  have h1 := decFrom_acc _ 0 0 w (decFrom_zero (i - (Lib.decDigits r).length))
  rw [Nat.add_zero, Nat.add_zero, List.length_replicate] at h1
  rw [decFrom_app _ _ _ _ h1]
  have h2 := decFrom_acc _ 0 r (w * 10 ^ (i - (Lib.decDigits r).length)) r2
  rw [Nat.add_zero] at h2
  rw [h2, Option.getD_some, Nat.mul_assoc, ← Nat.pow_add, show i - (Lib.decDigits r).length + (Lib.decDigits r).length = i by omega]
theorem G_mul (a den q : Nat) (hg : Nat.gcd a den = 1) (hq : 1 ≤ q) : ((a * q : Nat) : Int) / G ((a * q : Nat) : Int) ((den * q : Nat) : Int) = a ∧ ((den * q : Nat) : Int) / G ((a * q : Nat) : Int) ((den * q : Nat) : Int) = den := by
  have h : G ((a * q : Nat) : Int) ((den * q : Nat) : Int) = (q : Int) := by
    unfold G
    rw [Int.toNat_natCast, Int.toNat_natCast, Nat.gcd_mul_right, hg, Nat.one_mul]
  rw [h]
  constructor
  · show (((a * q) / q : Nat) : Int) = a
    rw [Nat.mul_div_cancel _ (by omega)]
  · show (((den * q) / q : Nat) : Int) = den
    rw [Nat.mul_div_cancel _ (by omega)]
attribute [local irreducible] numV runN G
theorem numEnd_all (l : List UInt8) (p : Nat) (ds : List UInt8) (a den q : Nat) (hv : numV ds = a * q) (hp : 10 ^ p = den * q) (hg : Nat.gcd a den = 1) (hq : 1 ≤ q) : numEnd l l.length p ds = ⟨2, ⟨l.toArray⟩, a, den, 0, l.length, 0⟩ := by
  obtain ⟨g1, g2⟩ := G_mul a den q hg hq
  unfold numEnd
  rw [List.drop_length, if_neg (by decide), hv, hp, g1, g2, List.take_length]
theorem unitP_no : (unitP []).2 < 0 ∧ ∀ l, (unitP (46 :: l)).2 < 0 := by
  refine ⟨by decide, fun l => ?_⟩
  simp [unitP, unitsP, List.find?, List.isPrefixOf]
theorem durEnd_zero (l : List UInt8) (s : Int) (a b c : Bool) : (durEnd l 0 s a b c).size = 0 := by
  unfold durEnd; repeat' split
  all_goals rfl
attribute [local irreducible] unitP
theorem F0_num (l : List UInt8) (r : Rd) (hd : digHead l) (hu : (unitP (l.drop (runN digB l))).2 < 0) (hr : numR l = r) (h1 : 0 < r.size) (h2 : r.err = 0) : F0 l = r := by
  have hdur : ¬ 0 < (durR l).size := by
    unfold durR
    rw [durGo_succ _ _ _ _ _ _ _ _ _ _ (by rw [List.drop_zero]) rfl, if_pos (.inr (by rw [Nat.zero_add]; exact hu)), durEnd_zero]
    decide
  unfold F0 firstOf
  rw [if_neg (digHead_name hd), if_neg hdur, hr, if_pos h1]
  unfold pick; rw [if_pos h2]
theorem num_one (a den : Nat) (fm : List UInt8) (hd : 1 ≤ den) (hg : Nat.gcd a den = 1) (hm : 10 ^ (pl den 18 0) % den = 0) (hl : (Lib.decDigits (a / den)).length + pl den 18 0 ≤ 18) :
    lookoutlaw42_one.f ⟨(numT [] a den fm).toArray⟩ = some ((2 : Int), (⟨(numT [] a den fm).toArray⟩ : ByteArray), (a : Int), (den : Int), (0 : Int), true) := by
  unfold numT
  rw [if_pos ⟨hm, hl⟩]
  obtain ⟨w1, w2, w3⟩ := dd_spec (a / den)
  have hw0 : 1 ≤ (Lib.decDigits (a / den)).length := List.length_pos_iff.2 w3
  have hde : den * (10 ^ pl den 18 0 / den) = 10 ^ pl den 18 0 := by
    have := Nat.div_add_mod (10 ^ pl den 18 0) den
    rw [hm, Nat.add_zero] at this; exact this
  have hp1 : 1 ≤ 10 ^ pl den 18 0 := Nat.pos_of_ne_zero (by simp)
  have hq1 : 1 ≤ 10 ^ pl den 18 0 / den := Nat.pos_of_ne_zero (by intro h; rw [h, Nat.mul_zero] at hde; omega)
  have hae : a / den * (den * (10 ^ pl den 18 0 / den)) + a % den * (10 ^ pl den 18 0 / den) = a * (10 ^ pl den 18 0 / den) := by
    rw [← Nat.mul_assoc, ← Nat.add_mul, Nat.mul_comm (a / den) den, Nat.div_add_mod]
  have hrl : pl den 18 0 ≠ 0 → (Lib.decDigits (a % den * (10 ^ pl den 18 0 / den))).length ≤ pl den 18 0 := fun h => rest_len hd (by omega)
  generalize a % den * (10 ^ pl den 18 0 / den) = r at hae hrl ⊢
  generalize 10 ^ pl den 18 0 / den = q at hde hq1 hae
  generalize hW : Lib.decDigits (a / den) = W at hl w1 w2 w3 hw0 ⊢
  generalize pl den 18 0 = i at hm hl hde hp1 hrl ⊢
  have hdh : ∀ x, digHead (W ++ x) := by
    intro x
    cases W with
    | nil => exact absurd rfl w3
    | cons c y => exact .inr ⟨c, _, rfl, w1 c (by simp)⟩
  by_cases h0 : i = 0
  · subst h0
    rw [if_pos rfl, List.nil_append]
    have hdh0 := hdh []
    rw [List.append_nil] at hdh0
    have hrun : runN digB W = W.length := by
      have := runN_app digB W [] w1
      rw [List.append_nil, show runN digB [] = 0 by unfold runN; rfl, Nat.add_zero] at this
      exact this
    have hden : den = 1 := by
      have : den ∣ 1 := ⟨q, by rw [hde]⟩
      exact Nat.dvd_one.1 this
    have hv : numV W = a * q := by
      subst hden
      have : q = 1 := by omega
      subst this
      unfold numV; rw [w2, Option.getD_some, Nat.div_one, Nat.mul_one]
    have hN : numR W = ⟨2, ⟨W.toArray⟩, a, den, 0, W.length, 0⟩ := by
      unfold numR
      simp only [hrun]
      rw [if_neg (by omega), if_neg (by rw [getD_end _ _ (Nat.le_refl _)]; decide), if_neg (by omega), List.take_length]
      exact numEnd_all W 0 W a den q hv hde.symm hg hq1
    exact one_whole W (by omega) _ (digHead_blank hdh0) w3 (F0_num W _ hdh0 (by rw [hrun, List.drop_length]; exact unitP_no.1) hN (by show (0 : Int) < W.length; omega) rfl) rfl rfl
  · rw [if_neg h0, List.nil_append]
    have hri := hrl h0
    have hval := numV_dec i (a / den) r hri
    rw [hW] at hval
    obtain ⟨r1, _, _⟩ := dd_spec r
    have hZl : (List.replicate (i - (Lib.decDigits r).length) 48 ++ Lib.decDigits r).length = i := by
      rw [List.length_append, List.length_replicate]; omega
    have hZd : allDig (List.replicate (i - (Lib.decDigits r).length) 48 ++ Lib.decDigits r) := allDig_app (allDig_rep _) r1
    generalize List.replicate (i - (Lib.decDigits r).length) 48 ++ Lib.decDigits r = Z at hval hZl hZd ⊢
    have hrun : runN digB (W ++ 46 :: Z) = W.length := by
      rw [runN_app digB W _ w1, show runN digB (46 :: Z) = 0 by unfold runN; exact if_neg (by decide), Nat.add_zero]
    have hrun2 : runN digB Z = Z.length := by
      have := runN_app digB Z [] hZd
      rw [List.append_nil, show runN digB [] = 0 by unfold runN; rfl, Nat.add_zero] at this
      exact this
    have hd1 : (W ++ 46 :: Z).drop W.length = 46 :: Z := List.drop_left
    have hd2 : (W ++ 46 :: Z).drop (W.length + 1) = Z := by rw [← List.drop_drop, hd1]; rfl
    have hgd : (W ++ 46 :: Z).getD W.length 0 = 46 := by
      rw [List.getD_eq_getElem?_getD, List.getElem?_append_right (Nat.le_refl _), Nat.sub_self]; rfl
    have hlen : (W ++ 46 :: Z).length = W.length + 1 + i := by rw [List.length_append, List.length_cons, hZl]; omega
    have hds : numDigs (W ++ 46 :: Z) W.length i = W ++ Z := by
      unfold numDigs
      rw [List.take_left, hd2, ← hZl, List.take_length]
    have hv : numV (W ++ Z) = a * q := by rw [hval, ← hae, hde]
    have hN : numR (W ++ 46 :: Z) = ⟨2, ⟨(W ++ 46 :: Z).toArray⟩, a, den, 0, (W ++ 46 :: Z).length, 0⟩ := by
      unfold numR
      simp only [hrun, hd2, hrun2, hZl]
      rw [if_neg (by omega), if_pos hgd, if_neg (by omega), if_neg h0, hds, ← hlen]
      exact numEnd_all _ i _ a den q hv hde.symm hg hq1
    exact one_whole _ (by omega) _ (digHead_blank (hdh _)) (by simp) (F0_num _ _ (hdh _) (by rw [hrun, hd1]; exact unitP_no.2 Z) hN (by show (0 : Int) < ((W ++ 46 :: Z).length : Int); omega) rfl) rfl rfl
theorem index_has : ∀ a b : List UInt8, 0 ≤ Lib.index (a ++ 47 :: b) [47]
  | [], b => by simp [Lib.index]
  | c :: a, b => by
    have ih := index_has a b
    rw [List.cons_append]
    unfold Lib.index
    split
    · decide
    · split
      · rename_i h; simp at h; omega
      · omega
theorem numT_len (minus : List UInt8) (a den : Nat) (fm : List UInt8) (hm : minus.length ≤ 1) (hf : fm.length ≤ 50) (hd : 1 ≤ den) : (numT minus a den fm).length ≤ 50 := by
  unfold numT
  split
  · rename_i h
    have hr := fun h0 => rest_len (a := a) (i := pl den 18 0) hd h0
    split
    · rw [List.length_append]; omega
    · have := hr (by omega)
      simp only [List.length_append, List.length_cons, List.length_replicate]
      omega
  · exact hf
theorem formatP_len (num den : Int) (hc : checkP num den = 0) : (formatP num den).length ≤ 50 := by
  obtain ⟨h1, h2, h3, h4, h5⟩ := check_ok hc
  have l1 := Lib.itoa_length_le num (by omega) (by omega)
  have l2 := Lib.itoa_length_le den (by omega) (by omega)
  unfold formatP
  split
  · omega
  · rw [List.length_append, List.length_cons]; omega
theorem numT_neg (n den : Nat) (hn : 1 ≤ n) : numT [45] n den (formatP (-(n : Int)) den) = 45 :: numT [] n den (formatP n den) := by
  unfold numT
  split
  · split <;> rfl
  · unfold formatP
    rw [Lib.itoa_neg n hn, Lib.itoa_nonneg]
    split <;> rfl
theorem numbers_t (num den : Int) (h0 : -9223372036854775808 ≤ num) (h1 : num ≤ 9223372036854775807) : lookoutlaw42_LexerNumbers.f (den.toNat + 100) num den = some true := by
  have hA : ∀ n, lookoutlaw42_awake.f (den.toNat + 60 + n) = some true := fun n => by rw [show den.toNat + 60 + n = 60 + (den.toNat + n) by omega]; exact awake_k _
  unfold lookoutlaw42_LexerNumbers.f
  by_cases hc : checkP num den = 0
  · obtain ⟨g1, g2, g3, g4, g5⟩ := check_ok hc
    rw [number_f num den _ (by omega) hc, Option.bind_some, check_f num den _ (by omega), Option.bind_some, if_pos hc]
    by_cases hn : num < 0
    · have hc2 : checkP (-num) den = 0 := by
        unfold checkP
        rw [if_neg (by omega), if_pos (by rw [Int.natAbs_neg]; exact g5)]
      have hl := numT_len [] (-num).natAbs den.toNat (formatP (-num) den) (by decide) (formatP_len _ _ hc2) (by omega)
      have z : ∀ l : List UInt8, (⟨l.toArray⟩ : ByteArray).size = l.length := fun l => by simp [ByteArray.size]
      have tl : ∀ l : List UInt8, (⟨l.toArray⟩ : ByteArray).toList = l := fun l => by rw [Lib.toList_data]
      rw [if_pos hn, if_pos hn, w64 (by omega) (by omega), number_f (-num) den _ (by omega) hc2, Option.bind_some, if_neg (show ¬ -num < 0 by omega), z, if_pos (by omega)]
      have e : numT [45] num.natAbs den.toNat (formatP num den) = 45 :: numT [] (-num).natAbs den.toNat (formatP (-num) den) := by
        obtain ⟨n, rfl⟩ : ∃ n : Nat, num = -(n : Int) := ⟨num.natAbs, by omega⟩
        obtain ⟨d, rfl⟩ : ∃ d : Nat, den = d := ⟨den.toNat, by omega⟩
        rw [Int.natAbs_neg, Int.neg_neg, Int.natAbs_natCast, Int.toNat_natCast]
        exact numT_neg n d (by omega)
      have e2 : (⟨#[45]⟩ : ByteArray) ++ ⟨(numT [] (-num).natAbs den.toNat (formatP (-num) den)).toArray⟩ = ⟨(45 :: numT [] (-num).natAbs den.toNat (formatP (-num) den)).toArray⟩ := by
        apply ByteArray.ext; simp
      rw [e2, tl, tl, if_pos e, hA 40, Option.bind_some]
    · have z : ∀ l : List UInt8, (⟨l.toArray⟩ : ByteArray).size = l.length := fun l => by simp [ByteArray.size]
      have hl := numT_len [] num.natAbs den.toNat (formatP num den) (by decide) (formatP_len _ _ hc) (by omega)
      rw [if_neg hn, if_neg hn]
      unfold strings_Contains.f
      rw [z, if_pos (by omega), Option.bind_some]
      have hj : lookoutlaw42_LexerNumbers.j0 (den.toNat + 100) ⟨(numT [] num.natAbs den.toNat (formatP num den)).toArray⟩ true num den = some true := by
        unfold lookoutlaw42_LexerNumbers.j0
        (try dsimp only)
        rw [if_pos rfl, hA 39]; rfl
      by_cases hs : Lib.contains (⟨(numT [] num.natAbs den.toNat (formatP num den)).toArray⟩ : ByteArray).data.toList (⟨#[47]⟩ : ByteArray).data.toList = true
      · rw [if_pos hs]; exact hj
      · rw [if_neg hs]
        obtain ⟨c, hcc, hc1⟩ := compare_f num den (den.toNat + 100) (by omega) hc
        rw [hcc, Option.bind_some]
        by_cases hp : c ≥ 0
        · rw [decide_eq_true hp]; exact hj
        · rw [decide_eq_false hp]
          have hmain : 10 ^ (pl den.toNat 18 0) % den.toNat = 0 ∧ (Lib.decDigits (num.natAbs / den.toNat)).length + pl den.toNat 18 0 ≤ 18 := by
            by_cases hm : 10 ^ (pl den.toNat 18 0) % den.toNat = 0 ∧ (Lib.decDigits (num.natAbs / den.toNat)).length + pl den.toNat 18 0 ≤ 18
            · exact hm
            · exfalso
              have hT : numT [] num.natAbs den.toNat (formatP num den) = formatP num den := if_neg hm
              rw [hT] at hs
              by_cases hd : den = 1
              · subst hd
                have hpl : pl (Int.toNat 1) 18 0 = 0 := by decide
                rw [hpl] at hm
                have hlong : ¬ (Lib.decDigits num.natAbs).length ≤ 18 := by
                  intro h
                  exact hm ⟨by decide, by rw [show Int.toNat 1 = 1 from rfl, Nat.div_one]; exact h⟩
                refine hp (hc1 rfl ?_)
                by_cases hlt : num.natAbs < 10 ^ (17 + 1)
                · exact absurd (dd_len 17 _ hlt) hlong
                · have h2 : (10 : Nat) ^ (17 + 1) = 1000000000000000000 := by decide
                  omega
              · refine hs ?_
                unfold formatP
                rw [if_neg hd]
                exact decide_eq_true (index_has _ _)
          have hone := num_one num.natAbs den.toNat (formatP num den) (by omega) g5 hmain.1 hmain.2
          rw [show ((num.natAbs : Nat) : Int) = num by omega, show ((den.toNat : Nat) : Int) = den by omega] at hone
          unfold lookoutlaw42_LexerNumbers.j0
          (try dsimp only)
          rw [if_neg Bool.false_ne_true, hone, Option.bind_some]
          dsimp only
          rw [if_pos rfl, hA 39]
          simp
  · have hN : lexer_Number.f (den.toNat + 100) num den = some ⟨#[]⟩ := by
      unfold lexer_Number.f
      rw [check_f num den _ (by omega), Option.bind_some, if_neg hc]
    rw [hN, Option.bind_some, check_f num den _ (by omega), Option.bind_some, if_neg hc, if_pos (by decide +kernel), hA 40]
    rfl
end Go.Proofs.YteokilkcchdeiaaGreatDoor.X
end
