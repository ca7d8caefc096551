/- What the proofs of the lexer's laws share, part 5 of 5. -/
import Derived.Test.YteokilkcchdeiaaGreatDoorK1
import Derived.Test.YteokilkcchdeiaaGreatDoorK4
import Derived.Lib.ItoaMem
set_option linter.unusedVariables false
set_option linter.unusedSimpArgs false
section
namespace Go.Proofs.YteokilkcchdeiaaGreatDoor.Q
open Go.Proofs.YteokilkcchdeiaaGreatDoor
open Go.Proofs.YteokilkcchdeiaaGreatDoor.X
open Go.RowKit Go.Proofs.YteokilkcchdeiaaGreatDoorW.PrintWords Go.Proofs.YteokilkcchdeiaaGreatDoorW.PrintLast Go.Proofs.YteokilkcchdeiaaGreatDoorW.PrintMore
attribute [local go_sem] max2_int min2_int max_two min_two max_three min_three max_four min_four   -- for this text's walks alone
set_option linter.unusedVariables false
set_option linter.unusedSimpArgs false
def lookoutlaw42_one.f (a0 : ByteArray) : Option (Int × ByteArray × Int × Int × Int × Bool) := (lexer_Tokens.f a0).bind fun bt127 => (if bt127.2.2 = 0 then (if (bt127.1.length : Int) = 2 then (if 0 < (bt127.1.length : Int) then (some ((rd_T29 bt127.1 0).f0, (rd_T29 bt127.1 0).f1, (rd_T29 bt127.1 0).f2.f0, (rd_T29 bt127.1 0).f2.f1, (rd_T29 bt127.1 0).f3, true)) else (none)) else (some (0, (⟨#[]⟩ : ByteArray), 0, 0, 0, false))) else (some (0, (⟨#[]⟩ : ByteArray), 0, 0, 0, false)))
set_option maxHeartbeats 8000000 in
set_option maxRecDepth 100000 in
theorem lookoutlaw42_one.calls (a0 : ByteArray) (r1 : Int) (r2 : ByteArray) (r3 : Int) (r4 : Int) (r5 : Int) (r6 : Bool) (w : World) (hT : Tabs w) (h : lookoutlaw42_one.f a0 = some (r1, r2, r3, r4, r5, r6)) :
    Calls Tryz.prog 12 #[.string a0] w fun e w' => e = .returned (.tuple #[.agg #[.int .i64 r1, .string r2, .int .i64 r3, .int .i64 r4, .int .i64 r5], .bool r6]) ∧ Below w.heap.size w w' := by
  have hu29 := Tryz.underlying29
  have HT := Aside0.mk hT
  clear hT
  have HB := Aside0.mk (Below.refl w.heap.size w)
  have H : ((lexer_Tokens.f a0).bind fun bt127 => (if bt127.2.2 = 0 then (if (bt127.1.length : Int) = 2 then (if 0 < (bt127.1.length : Int) then (some ((rd_T29 bt127.1 0).f0, (rd_T29 bt127.1 0).f1, (rd_T29 bt127.1 0).f2.f0, (rd_T29 bt127.1 0).f2.f1, (rd_T29 bt127.1 0).f3, true)) else (none)) else (some (0, (⟨#[]⟩ : ByteArray), 0, 0, 0, false))) else (some (0, (⟨#[]⟩ : ByteArray), 0, 0, 0, false)))) = some (r1, r2, r3, r4, r5, r6) := h
  clear h
  replace H := Option.bind_eq_some_iff.mp H
  obtain ⟨⟨t127, t128, t129⟩, A20, H⟩ := H
  replace H : (if t129 = 0 then (if (t127.length : Int) = 2 then (if 0 < (t127.length : Int) then (some ((rd_T29 t127 0).f0, (rd_T29 t127 0).f1, (rd_T29 t127 0).f2.f0, (rd_T29 t127 0).f2.f1, (rd_T29 t127 0).f3, true)) else (none)) else (some (0, (⟨#[]⟩ : ByteArray), 0, 0, 0, false))) else (some (0, (⟨#[]⟩ : ByteArray), 0, 0, 0, false))) = some (r1, r2, r3, r4, r5, r6) := H
  have A2 := Aside0.mk A20
  clear A20
  by_cases c3 : t129 = 0
  · rw [if_pos c3] at H
    have c3b0 : (t129 == 0) = true := beq_iff_eq.mpr c3
    have c3b1 : (t129 != 0) = false := bne_eq_false_iff_eq.mpr c3
    clear c3
    by_cases c4 : (t127.length : Int) = 2
    · rw [if_pos c4] at H
      have c4b0 : ((t127.length : Int) == 2) = true := beq_iff_eq.mpr c4
      have c4b1 : ((t127.length : Int) != 2) = false := bne_eq_false_iff_eq.mpr c4
      clear c4
      by_cases c5 : 0 < (t127.length : Int)
      · rw [if_pos c5] at H
        have c5b0 : decide (0 < (t127.length : Int)) = true := decide_eq_true c5
        have c5b1 : decide (0 < t127.length) = true := decide_eq_true (by omega)
        clear c5
        simp only [Option.some.injEq, Prod.mk.injEq] at H
        obtain ⟨rfl, rfl, rfl, rfl, rfl, rfl⟩ := H
        go_enter Tryz.func12, Tryz.ntmps12
        go_wp2_with (first | ((with_reducible refine gate_dst (N := 2) rfl ?_); (try (refine gate_guard (by rfl) ?_; dsimp only)); refine box_event ?hg (N := 2) ?hd (cs := #[.int .i64 0, .string (⟨#[]⟩ : ByteArray), .int .i64 0, .int .i64 0, .int .i64 0]) (t := 29) ?hr ?_; (case hd => rfl); (case hg => rfl); (case hr => first | (go_simp; done) | (go_simp; rfl)); intro gb126 hg w6 hbox hb; have n0_ := Aside0.mk (below_step (by repeat (first | (with_reducible first | exact HB.out | apply below_alloc | apply pw_below_drewN | apply below_drew1) | exact HB.out)) hb); have n1_ := Aside0.mk (hbox); have n2_ := Aside0.mk ((by rw [hg]; exact (below_size (by repeat (first | (with_reducible first | exact HB.out | apply below_alloc | apply pw_below_drewN | apply below_drew1) | exact HB.out))) : w.heap.size ≤ gb126)); have n3_ := Aside0.mk ((by rw [hg]; exact (below_size (by repeat (first | (with_reducible first | exact HB.out | apply below_alloc | apply pw_below_drewN | apply below_drew1) | exact HB.out))) : w.heap.size ≤ gb126)); clear HB; have HB := n0_; have BK126 := n1_; have GW126 := n2_; have GE126 := n3_; clear n0_ n1_ n2_ n3_; clear hb hbox hg) | ((with_reducible refine gate_callee (f := 17) rfl ?_); refine goesL_ (some 9) rfl rfl Tryz.func17 (by kernel_rfl) rfl #[.string a0] rfl (by (try simp only [List.map_toArray, List.map_cons, List.map_nil]); first | done | rfl | (simp only [List.length_drop, List.length_take]; rfl)) ?_; (with_reducible refine (lexer_Tokens.calls a0 t127 t128 t129 _ ?side1 A2.out).mono ?_); (case side1 => exact Tabs.below HT.out (by repeat (first | (with_reducible first | exact HB.out | apply below_alloc | apply pw_below_drewN | apply below_drew1 | refine below_set ?_ GE126.out) | exact HB.out))); rintro e w7 ⟨v130, rfl, ho0, hb⟩; refine ⟨_, rfl, ?_⟩; have n0_ := Aside0.mk (Kd.R_lower (Kd.R_newB ho0 (g := gb126) (o := .cells #[.int .i64 0, .string (⟨#[]⟩ : ByteArray), .int .i64 0, .int .i64 0, .int .i64 0] 29 (0, 0)) (by (with_reducible repeat (first | refine blk_drewN ?_ _ | refine blk_drew ?_ | refine blk_alloc ?_ _)); exact BK126.out)) (below_size (by repeat (first | (with_reducible first | exact HB.out | apply below_alloc | apply pw_below_drewN | apply below_drew1 | refine below_set ?_ GE126.out) | exact HB.out)))); have n1_ := Aside0.mk (blk_below (g := gb126) (o := .cells #[.int .i64 0, .string (⟨#[]⟩ : ByteArray), .int .i64 0, .int .i64 0, .int .i64 0] 29 (0, 0)) (by (with_reducible repeat (first | refine blk_drewN ?_ _ | refine blk_drew ?_ | refine blk_alloc ?_ _)); exact BK126.out) hb); have n2_ := Aside0.mk (below_step (by repeat (first | (with_reducible first | exact HB.out | apply below_alloc | apply pw_below_drewN | apply below_drew1 | refine below_set ?_ GE126.out) | exact HB.out)) hb); clear BK126; clear HB; have HO131 := n0_; have BK126 := n1_; have HB := n2_; clear n0_ n1_ n2_; (try clear hb); (try clear hb2); (try clear hk); (try clear hi); (try clear ho0); obtain ⟨Ao8, co8, eo8⟩ := Kd.R_slice HO131.out; subst eo8; have p132 : 0 ≤ (0 : Int) := (by omega); have q132 : 0 < (t127.length : Int) := of_decide_eq_true (by first | (with_reducible assumption) | assumption); obtain ⟨ad132, e132, hx132_0, hx132_1, hx132_2, hx132_3, hx132_4⟩ := at_T29 (Kd.R_reads' HO131.out).2.2 0 p132 q132; cases e132; have qi132 : (0 < t127.length) = True := eq_true (by omega); (try rw [show ((0 : Int)).toNat = 0 from rfl] at hx132_0); (try rw [show 0 * 5 = 0 from rfl] at hx132_0); (try rw [Addr.add_zero'] at hx132_0); (try rw [show ((0 : Int)).toNat = 0 from rfl] at hx132_1); (try rw [show 0 * 5 = 0 from rfl] at hx132_1); (try rw [Addr.add_zero'] at hx132_1); (try rw [show ((0 : Int)).toNat = 0 from rfl] at hx132_2); (try rw [show 0 * 5 = 0 from rfl] at hx132_2); (try rw [Addr.add_zero'] at hx132_2); (try rw [show ((0 : Int)).toNat = 0 from rfl] at hx132_3); (try rw [show 0 * 5 = 0 from rfl] at hx132_3); (try rw [Addr.add_zero'] at hx132_3); (try rw [show ((0 : Int)).toNat = 0 from rfl] at hx132_4); (try rw [show 0 * 5 = 0 from rfl] at hx132_4); (try rw [Addr.add_zero'] at hx132_4); replace p132 := eq_true p132; replace q132 := eq_true q132; have hcz9_0 : w7.cell? ⟨gb126, 0, none⟩ = some (.int .i64 0) := (blk_cell BK126.out 0).trans rfl; have hcz9_1 : w7.cell? ⟨gb126, 1, none⟩ = some (.string (⟨#[]⟩ : ByteArray)) := (blk_cell BK126.out 1).trans rfl; have hcz9_2 : w7.cell? ⟨gb126, 2, none⟩ = some (.int .i64 0) := (blk_cell BK126.out 2).trans rfl; have hcz9_3 : w7.cell? ⟨gb126, 3, none⟩ = some (.int .i64 0) := (blk_cell BK126.out 3).trans rfl; have hcz9_4 : w7.cell? ⟨gb126, 4, none⟩ = some (.int .i64 0) := (blk_cell BK126.out 4).trans rfl; have hfz9_0 := blk_frozen BK126.out 0; have hfz9_1 := blk_frozen BK126.out 1; have hfz9_2 := blk_frozen BK126.out 2; have hfz9_3 := blk_frozen BK126.out 3; have hfz9_4 := blk_frozen BK126.out 4))
        refine bodyPost_ret (results_ct rfl _ _ gb126 29 #[.int .i64 ((rd_T29 t127 0).f0), .string ((rd_T29 t127 0).f1), .int .i64 ((rd_T29 t127 0).f2.f0), .int .i64 ((rd_T29 t127 0).f2.f1), .int .i64 ((rd_T29 t127 0).f3)] (0, 0) _ rfl (by (with_reducible repeat (first | refine blk_drewN ?_ _ | refine blk_drew ?_ | refine blk_alloc ?_ _)); refine blk_put (cs := #[.int .i64 ((rd_T29 t127 0).f0), .string ((rd_T29 t127 0).f1), .int .i64 ((rd_T29 t127 0).f2.f0), .int .i64 ((rd_T29 t127 0).f2.f1), .int .i64 0]) ?_ 4 _ rfl; (with_reducible repeat (first | refine blk_drewN ?_ _ | refine blk_drew ?_ | refine blk_alloc ?_ _)); refine blk_put (cs := #[.int .i64 ((rd_T29 t127 0).f0), .string ((rd_T29 t127 0).f1), .int .i64 ((rd_T29 t127 0).f2.f0), .int .i64 0, .int .i64 0]) ?_ 3 _ rfl; (with_reducible repeat (first | refine blk_drewN ?_ _ | refine blk_drew ?_ | refine blk_alloc ?_ _)); refine blk_put (cs := #[.int .i64 ((rd_T29 t127 0).f0), .string ((rd_T29 t127 0).f1), .int .i64 0, .int .i64 0, .int .i64 0]) ?_ 2 _ rfl; (with_reducible repeat (first | refine blk_drewN ?_ _ | refine blk_drew ?_ | refine blk_alloc ?_ _)); refine blk_put (cs := #[.int .i64 ((rd_T29 t127 0).f0), .string (⟨#[]⟩ : ByteArray), .int .i64 0, .int .i64 0, .int .i64 0]) ?_ 1 _ rfl; (with_reducible repeat (first | refine blk_drewN ?_ _ | refine blk_drew ?_ | refine blk_alloc ?_ _)); refine blk_put (cs := #[.int .i64 0, .string (⟨#[]⟩ : ByteArray), .int .i64 0, .int .i64 0, .int .i64 0]) ?_ 0 _ rfl; (with_reducible repeat (first | refine blk_drewN ?_ _ | refine blk_drew ?_ | refine blk_alloc ?_ _)); exact BK126.out) Tryz.underlying29 rfl (by kernel_rfl)) rfl ?_
        exact ⟨by first | rfl | (simp [errW_none, errW_some] <;> rfl) | (simp [*, errW_none, errW_some] <;> rfl), by repeat (first | (with_reducible first | exact HB.out | apply below_alloc | apply pw_below_drewN | apply below_drew1 | refine below_set ?_ GE126.out) | exact HB.out)⟩
      · rw [if_neg c5] at H
        exact absurd H (by simp)
    · rw [if_neg c4] at H
      have c4b0 : ((t127.length : Int) == 2) = false := beq_eq_false_iff_ne.mpr c4
      have c4b1 : ((t127.length : Int) != 2) = true := bne_iff_ne.mpr c4
      simp only [Option.some.injEq, Prod.mk.injEq] at H
      obtain ⟨rfl, rfl, rfl, rfl, rfl, rfl⟩ := H
      go_enter Tryz.func12, Tryz.ntmps12
      go_wp2_with (first | ((with_reducible refine gate_dst (N := 2) rfl ?_); (try (refine gate_guard (by rfl) ?_; dsimp only)); refine box_event ?hg (N := 2) ?hd (cs := #[.int .i64 0, .string (⟨#[]⟩ : ByteArray), .int .i64 0, .int .i64 0, .int .i64 0]) (t := 29) ?hr ?_; (case hd => rfl); (case hg => rfl); (case hr => first | (go_simp; done) | (go_simp; rfl)); intro gb126 hg w10 hbox hb; have n0_ := Aside0.mk (below_step (by repeat (first | (with_reducible first | exact HB.out | apply below_alloc | apply pw_below_drewN | apply below_drew1) | exact HB.out)) hb); have n1_ := Aside0.mk (hbox); have n2_ := Aside0.mk ((by rw [hg]; exact (below_size (by repeat (first | (with_reducible first | exact HB.out | apply below_alloc | apply pw_below_drewN | apply below_drew1) | exact HB.out))) : w.heap.size ≤ gb126)); have n3_ := Aside0.mk ((by rw [hg]; exact (below_size (by repeat (first | (with_reducible first | exact HB.out | apply below_alloc | apply pw_below_drewN | apply below_drew1) | exact HB.out))) : w.heap.size ≤ gb126)); clear HB; have HB := n0_; have BK126 := n1_; have GW126 := n2_; have GE126 := n3_; clear n0_ n1_ n2_ n3_; clear hb hbox hg) | ((with_reducible refine gate_callee (f := 17) rfl ?_); refine goesL_ (some 9) rfl rfl Tryz.func17 (by kernel_rfl) rfl #[.string a0] rfl (by (try simp only [List.map_toArray, List.map_cons, List.map_nil]); first | done | rfl | (simp only [List.length_drop, List.length_take]; rfl)) ?_; (with_reducible refine (lexer_Tokens.calls a0 t127 t128 t129 _ ?side1 A2.out).mono ?_); (case side1 => exact Tabs.below HT.out (by repeat (first | (with_reducible first | exact HB.out | apply below_alloc | apply pw_below_drewN | apply below_drew1 | refine below_set ?_ GE126.out) | exact HB.out))); rintro e w11 ⟨v130, rfl, ho0, hb⟩; refine ⟨_, rfl, ?_⟩; have n0_ := Aside0.mk (Kd.R_lower (Kd.R_newB ho0 (g := gb126) (o := .cells #[.int .i64 0, .string (⟨#[]⟩ : ByteArray), .int .i64 0, .int .i64 0, .int .i64 0] 29 (0, 0)) (by (with_reducible repeat (first | refine blk_drewN ?_ _ | refine blk_drew ?_ | refine blk_alloc ?_ _)); exact BK126.out)) (below_size (by repeat (first | (with_reducible first | exact HB.out | apply below_alloc | apply pw_below_drewN | apply below_drew1 | refine below_set ?_ GE126.out) | exact HB.out)))); have n1_ := Aside0.mk (blk_below (g := gb126) (o := .cells #[.int .i64 0, .string (⟨#[]⟩ : ByteArray), .int .i64 0, .int .i64 0, .int .i64 0] 29 (0, 0)) (by (with_reducible repeat (first | refine blk_drewN ?_ _ | refine blk_drew ?_ | refine blk_alloc ?_ _)); exact BK126.out) hb); have n2_ := Aside0.mk (below_step (by repeat (first | (with_reducible first | exact HB.out | apply below_alloc | apply pw_below_drewN | apply below_drew1 | refine below_set ?_ GE126.out) | exact HB.out)) hb); clear BK126; clear HB; have HO131 := n0_; have BK126 := n1_; have HB := n2_; clear n0_ n1_ n2_; (try clear hb); (try clear hb2); (try clear hk); (try clear hi); (try clear ho0); obtain ⟨Ao12, co12, eo12⟩ := Kd.R_slice HO131.out; subst eo12; have hcz13_0 : w11.cell? ⟨gb126, 0, none⟩ = some (.int .i64 0) := (blk_cell BK126.out 0).trans rfl; have hcz13_1 : w11.cell? ⟨gb126, 1, none⟩ = some (.string (⟨#[]⟩ : ByteArray)) := (blk_cell BK126.out 1).trans rfl; have hcz13_2 : w11.cell? ⟨gb126, 2, none⟩ = some (.int .i64 0) := (blk_cell BK126.out 2).trans rfl; have hcz13_3 : w11.cell? ⟨gb126, 3, none⟩ = some (.int .i64 0) := (blk_cell BK126.out 3).trans rfl; have hcz13_4 : w11.cell? ⟨gb126, 4, none⟩ = some (.int .i64 0) := (blk_cell BK126.out 4).trans rfl; have hfz13_0 := blk_frozen BK126.out 0; have hfz13_1 := blk_frozen BK126.out 1; have hfz13_2 := blk_frozen BK126.out 2; have hfz13_3 := blk_frozen BK126.out 3; have hfz13_4 := blk_frozen BK126.out 4))
      refine bodyPost_ret (results_ct rfl _ _ gb126 29 #[.int .i64 0, .string (⟨#[]⟩ : ByteArray), .int .i64 0, .int .i64 0, .int .i64 0] (0, 0) _ rfl (by (with_reducible repeat (first | refine blk_drewN ?_ _ | refine blk_drew ?_ | refine blk_alloc ?_ _)); refine blk_put (cs := #[.int .i64 0, .string (⟨#[]⟩ : ByteArray), .int .i64 0, .int .i64 0, .int .i64 0]) ?_ 4 _ rfl; (with_reducible repeat (first | refine blk_drewN ?_ _ | refine blk_drew ?_ | refine blk_alloc ?_ _)); refine blk_put (cs := #[.int .i64 0, .string (⟨#[]⟩ : ByteArray), .int .i64 0, .int .i64 0, .int .i64 0]) ?_ 3 _ rfl; (with_reducible repeat (first | refine blk_drewN ?_ _ | refine blk_drew ?_ | refine blk_alloc ?_ _)); refine blk_put (cs := #[.int .i64 0, .string (⟨#[]⟩ : ByteArray), .int .i64 0, .int .i64 0, .int .i64 0]) ?_ 2 _ rfl; (with_reducible repeat (first | refine blk_drewN ?_ _ | refine blk_drew ?_ | refine blk_alloc ?_ _)); refine blk_put (cs := #[.int .i64 0, .string (⟨#[]⟩ : ByteArray), .int .i64 0, .int .i64 0, .int .i64 0]) ?_ 1 _ rfl; (with_reducible repeat (first | refine blk_drewN ?_ _ | refine blk_drew ?_ | refine blk_alloc ?_ _)); refine blk_put (cs := #[.int .i64 0, .string (⟨#[]⟩ : ByteArray), .int .i64 0, .int .i64 0, .int .i64 0]) ?_ 0 _ rfl; (with_reducible repeat (first | refine blk_drewN ?_ _ | refine blk_drew ?_ | refine blk_alloc ?_ _)); exact BK126.out) Tryz.underlying29 rfl (by kernel_rfl)) rfl ?_
      exact ⟨by first | rfl | (simp [errW_none, errW_some] <;> rfl) | (simp [*, errW_none, errW_some] <;> rfl), by repeat (first | (with_reducible first | exact HB.out | apply below_alloc | apply pw_below_drewN | apply below_drew1 | refine below_set ?_ GE126.out) | exact HB.out)⟩
  · rw [if_neg c3] at H
    have c3b0 : (t129 == 0) = false := beq_eq_false_iff_ne.mpr c3
    have c3b1 : (t129 != 0) = true := bne_iff_ne.mpr c3
    simp only [Option.some.injEq, Prod.mk.injEq] at H
    obtain ⟨rfl, rfl, rfl, rfl, rfl, rfl⟩ := H
    go_enter Tryz.func12, Tryz.ntmps12
    go_wp2_with (first | ((with_reducible refine gate_dst (N := 2) rfl ?_); (try (refine gate_guard (by rfl) ?_; dsimp only)); refine box_event ?hg (N := 2) ?hd (cs := #[.int .i64 0, .string (⟨#[]⟩ : ByteArray), .int .i64 0, .int .i64 0, .int .i64 0]) (t := 29) ?hr ?_; (case hd => rfl); (case hg => rfl); (case hr => first | (go_simp; done) | (go_simp; rfl)); intro gb126 hg w14 hbox hb; have n0_ := Aside0.mk (below_step (by repeat (first | (with_reducible first | exact HB.out | apply below_alloc | apply pw_below_drewN | apply below_drew1) | exact HB.out)) hb); have n1_ := Aside0.mk (hbox); have n2_ := Aside0.mk ((by rw [hg]; exact (below_size (by repeat (first | (with_reducible first | exact HB.out | apply below_alloc | apply pw_below_drewN | apply below_drew1) | exact HB.out))) : w.heap.size ≤ gb126)); have n3_ := Aside0.mk ((by rw [hg]; exact (below_size (by repeat (first | (with_reducible first | exact HB.out | apply below_alloc | apply pw_below_drewN | apply below_drew1) | exact HB.out))) : w.heap.size ≤ gb126)); clear HB; have HB := n0_; have BK126 := n1_; have GW126 := n2_; have GE126 := n3_; clear n0_ n1_ n2_ n3_; clear hb hbox hg) | ((with_reducible refine gate_callee (f := 17) rfl ?_); refine goesL_ (some 9) rfl rfl Tryz.func17 (by kernel_rfl) rfl #[.string a0] rfl (by (try simp only [List.map_toArray, List.map_cons, List.map_nil]); first | done | rfl | (simp only [List.length_drop, List.length_take]; rfl)) ?_; (with_reducible refine (lexer_Tokens.calls a0 t127 t128 t129 _ ?side1 A2.out).mono ?_); (case side1 => exact Tabs.below HT.out (by repeat (first | (with_reducible first | exact HB.out | apply below_alloc | apply pw_below_drewN | apply below_drew1 | refine below_set ?_ GE126.out) | exact HB.out))); rintro e w15 ⟨v130, rfl, ho0, hb⟩; refine ⟨_, rfl, ?_⟩; have n0_ := Aside0.mk (Kd.R_lower (Kd.R_newB ho0 (g := gb126) (o := .cells #[.int .i64 0, .string (⟨#[]⟩ : ByteArray), .int .i64 0, .int .i64 0, .int .i64 0] 29 (0, 0)) (by (with_reducible repeat (first | refine blk_drewN ?_ _ | refine blk_drew ?_ | refine blk_alloc ?_ _)); exact BK126.out)) (below_size (by repeat (first | (with_reducible first | exact HB.out | apply below_alloc | apply pw_below_drewN | apply below_drew1 | refine below_set ?_ GE126.out) | exact HB.out)))); have n1_ := Aside0.mk (blk_below (g := gb126) (o := .cells #[.int .i64 0, .string (⟨#[]⟩ : ByteArray), .int .i64 0, .int .i64 0, .int .i64 0] 29 (0, 0)) (by (with_reducible repeat (first | refine blk_drewN ?_ _ | refine blk_drew ?_ | refine blk_alloc ?_ _)); exact BK126.out) hb); have n2_ := Aside0.mk (below_step (by repeat (first | (with_reducible first | exact HB.out | apply below_alloc | apply pw_below_drewN | apply below_drew1 | refine below_set ?_ GE126.out) | exact HB.out)) hb); clear BK126; clear HB; have HO131 := n0_; have BK126 := n1_; have HB := n2_; clear n0_ n1_ n2_; (try clear hb); (try clear hb2); (try clear hk); (try clear hi); (try clear ho0); have hcz16_0 : w15.cell? ⟨gb126, 0, none⟩ = some (.int .i64 0) := (blk_cell BK126.out 0).trans rfl; have hcz16_1 : w15.cell? ⟨gb126, 1, none⟩ = some (.string (⟨#[]⟩ : ByteArray)) := (blk_cell BK126.out 1).trans rfl; have hcz16_2 : w15.cell? ⟨gb126, 2, none⟩ = some (.int .i64 0) := (blk_cell BK126.out 2).trans rfl; have hcz16_3 : w15.cell? ⟨gb126, 3, none⟩ = some (.int .i64 0) := (blk_cell BK126.out 3).trans rfl; have hcz16_4 : w15.cell? ⟨gb126, 4, none⟩ = some (.int .i64 0) := (blk_cell BK126.out 4).trans rfl; have hfz16_0 := blk_frozen BK126.out 0; have hfz16_1 := blk_frozen BK126.out 1; have hfz16_2 := blk_frozen BK126.out 2; have hfz16_3 := blk_frozen BK126.out 3; have hfz16_4 := blk_frozen BK126.out 4))
    refine bodyPost_ret (results_ct rfl _ _ gb126 29 #[.int .i64 0, .string (⟨#[]⟩ : ByteArray), .int .i64 0, .int .i64 0, .int .i64 0] (0, 0) _ rfl (by (with_reducible repeat (first | refine blk_drewN ?_ _ | refine blk_drew ?_ | refine blk_alloc ?_ _)); refine blk_put (cs := #[.int .i64 0, .string (⟨#[]⟩ : ByteArray), .int .i64 0, .int .i64 0, .int .i64 0]) ?_ 4 _ rfl; (with_reducible repeat (first | refine blk_drewN ?_ _ | refine blk_drew ?_ | refine blk_alloc ?_ _)); refine blk_put (cs := #[.int .i64 0, .string (⟨#[]⟩ : ByteArray), .int .i64 0, .int .i64 0, .int .i64 0]) ?_ 3 _ rfl; (with_reducible repeat (first | refine blk_drewN ?_ _ | refine blk_drew ?_ | refine blk_alloc ?_ _)); refine blk_put (cs := #[.int .i64 0, .string (⟨#[]⟩ : ByteArray), .int .i64 0, .int .i64 0, .int .i64 0]) ?_ 2 _ rfl; (with_reducible repeat (first | refine blk_drewN ?_ _ | refine blk_drew ?_ | refine blk_alloc ?_ _)); refine blk_put (cs := #[.int .i64 0, .string (⟨#[]⟩ : ByteArray), .int .i64 0, .int .i64 0, .int .i64 0]) ?_ 1 _ rfl; (with_reducible repeat (first | refine blk_drewN ?_ _ | refine blk_drew ?_ | refine blk_alloc ?_ _)); refine blk_put (cs := #[.int .i64 0, .string (⟨#[]⟩ : ByteArray), .int .i64 0, .int .i64 0, .int .i64 0]) ?_ 0 _ rfl; (with_reducible repeat (first | refine blk_drewN ?_ _ | refine blk_drew ?_ | refine blk_alloc ?_ _)); exact BK126.out) Tryz.underlying29 rfl (by kernel_rfl)) rfl ?_
    exact ⟨by first | rfl | (simp [errW_none, errW_some] <;> rfl) | (simp [*, errW_none, errW_some] <;> rfl), by repeat (first | (with_reducible first | exact HB.out | apply below_alloc | apply pw_below_drewN | apply below_drew1 | refine below_set ?_ GE126.out) | exact HB.out)⟩
end Go.Proofs.YteokilkcchdeiaaGreatDoor.Q
end
section
namespace Go.Proofs.YteokilkcchdeiaaGreatDoor.Q
open Go.Proofs.YteokilkcchdeiaaGreatDoor
open Go.Proofs.YteokilkcchdeiaaGreatDoor.X
open Go.RowKit Go.Proofs.YteokilkcchdeiaaGreatDoorW.PrintWords Go.Proofs.YteokilkcchdeiaaGreatDoorW.PrintLast Go.Proofs.YteokilkcchdeiaaGreatDoorW.PrintMore
attribute [local go_sem] max2_int min2_int max_two min_two max_three min_three max_four min_four   -- for this text's walks alone
set_option linter.unusedVariables false
set_option linter.unusedSimpArgs false
attribute [local go_sem high] eqA29
def lookoutlaw42_LexerDurations.j0 : Nat → Int → ByteArray → Int → Bool → Option (Bool)
  | 0, _, _, _, _ => none
  | k + 1, x0, x3, x4, x17 => if x17 = true then (if x3.toList = ([] : List UInt8) then (if x4 = 2 then ((lookoutlaw42_awake.f k).bind fun t135 => (some t135)) else (some false)) else (some false)) else ((lookoutlaw42_one.f x3).bind fun bt136 => (if x4 = 0 then (if bt136.2.2.2.2.2 = true then (if (bt136.1 == 3 && (bt136.2.1.toList == x3.toList && ((bt136.2.2.1 == x0 && (bt136.2.2.2.1 == 1)) && (bt136.2.2.2.2.1 == 0)))) = true then ((lookoutlaw42_awake.f k).bind fun t143 => (some t143)) else (some false)) else (some false)) else (some false)))
def lookoutlaw42_LexerDurations.f (k : Nat) (a0 : Int) : Option (Bool) := (lexer_Duration.f a0).bind fun bt133 => (if a0 < 0 then (lookoutlaw42_LexerDurations.j0 k a0 bt133.1 bt133.2 true) else (lookoutlaw42_LexerDurations.j0 k a0 bt133.1 bt133.2 (decide (a0 > 1099511627776))))
set_option maxHeartbeats 8000000 in
set_option maxRecDepth 100000 in
theorem lookoutlaw42_LexerDurations.calls (k : Nat) (a0 : Int) (r : Bool) (w : World) (hT : Tabs w) (h : lookoutlaw42_LexerDurations.f k a0 = some r) :
    Calls Tryz.prog 3 #[.int .i64 a0] w fun e w' => e = .returned (.bool r) ∧ Below w.heap.size w w' := by
  have hu29 := Tryz.underlying29
  have hu27 := Tryz.underlying27
  have HT := Aside0.mk hT
  clear hT
  have HB := Aside0.mk (Below.refl w.heap.size w)
  have H : ((lexer_Duration.f a0).bind fun bt133 => (if a0 < 0 then (lookoutlaw42_LexerDurations.j0 k a0 bt133.1 bt133.2 true) else (lookoutlaw42_LexerDurations.j0 k a0 bt133.1 bt133.2 (decide (a0 > 1099511627776))))) = some r := h
  clear h
  replace H := Option.bind_eq_some_iff.mp H
  obtain ⟨⟨t133, t134⟩, A20, H⟩ := H
  replace H : (if a0 < 0 then (lookoutlaw42_LexerDurations.j0 k a0 t133 t134 true) else (lookoutlaw42_LexerDurations.j0 k a0 t133 t134 (decide (a0 > 1099511627776)))) = some r := H
  have A2 := Aside0.mk A20
  clear A20
  have HC3 := Aside0.mk H
  clear H
  go_enter Tryz.func3, Tryz.ntmps3
  go_upto_region 2 with (first | ((with_reducible refine gate_callee (f := 10) rfl ?_); refine goesL_ (some 9) rfl rfl Tryz.func10 (by kernel_rfl) rfl #[.int .i64 a0] rfl (by (try simp only [List.map_toArray, List.map_cons, List.map_nil]); first | done | rfl | (simp only [List.length_drop, List.length_take]; rfl)) ?_; (with_reducible refine (lexer_Duration.calls a0 t133 t134 _ ?side1 A2.out).mono ?_); (case side1 => exact Tabs.below HT.out (by repeat (first | (with_reducible first | exact HB.out | apply below_alloc | apply pw_below_drewN | apply below_drew1) | exact HB.out))); rintro e w4 ⟨rfl, hb⟩; refine ⟨_, rfl, ?_⟩; have n0_ := Aside0.mk (below_step (by repeat (first | (with_reducible first | exact HB.out | apply below_alloc | apply pw_below_drewN | apply below_drew1) | exact HB.out)) hb); clear HB; have HB := n0_; clear n0_; (try clear hb); (try clear hb2); (try clear hk); (try clear hi)))
  (try simp only [Act.put, List.setIfInBounds_toArray, List.set_cons_zero, List.set_cons_succ])
  go_cut [17] (fun v17 wc => ∃ (kq : Nat) (x17_2 : Bool), v17 = .bool x17_2 ∧ Aside0 (lookoutlaw42_LexerDurations.j0 kq a0 t133 t134 x17_2 = some r) ∧ Aside0 (kq ≤ k) ∧ Aside0 (Below w.heap.size w wc))
  case first =>
    have H := HC3.out
    clear HC3
    by_cases c5 : a0 < 0
    · rw [if_pos c5] at H
      have c5b0 : decide (a0 < 0) = true := decide_eq_true c5
      clear c5
      (first | rw [c5b0] | (simp only [i64_w, i32_w]; rw [c5b0]) | skip)
      have H' := Aside0.mk H
      clear H
      go_wp2
      go_meet
      case rel => exact ⟨_, (true), (by first | rfl | (simp; done) | (simp [*]; done)), H', ⟨by first | omega | exact Nat.le_refl _⟩, ⟨by repeat (first | (with_reducible first | exact HB.out | apply below_alloc | apply pw_below_drewN | apply below_drew1) | exact HB.out)⟩⟩
    · rw [if_neg c5] at H
      have c5b0 : decide (a0 < 0) = false := decide_eq_false c5
      clear c5
      (first | rw [c5b0] | (simp only [i64_w, i32_w]; rw [c5b0]) | skip)
      have H' := Aside0.mk H
      clear H
      go_wp2
      go_meet
      case rel => exact ⟨_, (decide (a0 > 1099511627776)), (by first | rfl | (simp; done) | (simp [*]; done)), H', ⟨by first | omega | exact Nat.le_refl _⟩, ⟨by repeat (first | (with_reducible first | exact HB.out | apply below_alloc | apply pw_below_drewN | apply below_drew1) | exact HB.out)⟩⟩
  case rest =>
    clear HC3
    try clear c1
    try clear p2
    try clear c3
    try clear c5
    try clear c5b0
    obtain ⟨kq, x17_2, rfl, HA, HJ2, HB⟩ := hcut
    cases kq with
    | zero => exact absurd HA.out (by simp [lookoutlaw42_LexerDurations.j0])
    | succ kj2 =>
      have H := HA.out
      clear HA
      simp only [lookoutlaw42_LexerDurations.j0] at H
      by_cases c6 : x17_2 = true
      · subst c6
        have H1 : (if t133.toList = ([] : List UInt8) then (if t134 = 2 then ((lookoutlaw42_awake.f kj2).bind fun t135 => (some t135)) else (some false)) else (some false)) = some r := by rw [if_pos rfl] at H; exact H
        clear H
        have H := H1
        clear H1
        by_cases c7 : t133.toList = ([] : List UInt8)
        · rw [if_pos c7] at H
          have c7b0 : (t133.toList == ([] : List UInt8)) = true := beq_iff_eq.mpr c7
          have c7b1 : (t133.toList != ([] : List UInt8)) = false := bne_eq_false_iff_eq.mpr c7
          clear c7
          by_cases c8 : t134 = 2
          · rw [if_pos c8] at H
            have c8b0 : (t134 == 2) = true := beq_iff_eq.mpr c8
            have c8b1 : (t134 != 2) = false := bne_eq_false_iff_eq.mpr c8
            clear c8
            replace H := Option.bind_eq_some_iff.mp H
            obtain ⟨t135, A90, H⟩ := H
            replace H : (some t135) = some r := H
            have A9 := Aside0.mk A90
            clear A90
            obtain rfl := Option.some.inj H
            go_wp2_with (first | (go_at_call 11; (with_reducible refine (lookoutlaw42_awake.calls kj2  t135 _ ?side1 A9.out).mono ?_); (case side1 => exact Tabs.below HT.out (by repeat (first | (with_reducible first | exact HB.out | apply below_alloc | apply pw_below_drewN | apply below_drew1) | exact HB.out))); rintro e w10 ⟨rfl, hb⟩; have n0_ := Aside0.mk (below_step (by repeat (first | (with_reducible first | exact HB.out | apply below_alloc | apply pw_below_drewN | apply below_drew1) | exact HB.out)) hb); clear HB; have HB := n0_; clear n0_; (try clear hb); (try clear hb2); (try clear hk); (try clear hi)))
            go_ret
            exact ⟨by first | rfl | (simp [errW_none, errW_some] <;> rfl) | (simp [*, errW_none, errW_some] <;> rfl), by repeat (first | (with_reducible first | exact HB.out | apply below_alloc | apply pw_below_drewN | apply below_drew1) | exact HB.out)⟩
          · rw [if_neg c8] at H
            have c8b0 : (t134 == 2) = false := beq_eq_false_iff_ne.mpr c8
            have c8b1 : (t134 != 2) = true := bne_iff_ne.mpr c8
            obtain rfl := Option.some.inj H
            go_wp2
            go_ret
            exact ⟨by first | rfl | (simp [errW_none, errW_some] <;> rfl) | (simp [*, errW_none, errW_some] <;> rfl), by repeat (first | (with_reducible first | exact HB.out | apply below_alloc | apply pw_below_drewN | apply below_drew1) | exact HB.out)⟩
        · rw [if_neg c7] at H
          have c7b0 : (t133.toList == ([] : List UInt8)) = false := beq_eq_false_iff_ne.mpr c7
          have c7b1 : (t133.toList != ([] : List UInt8)) = true := bne_iff_ne.mpr c7
          obtain rfl := Option.some.inj H
          go_wp2
          go_ret
          exact ⟨by first | rfl | (simp [errW_none, errW_some] <;> rfl) | (simp [*, errW_none, errW_some] <;> rfl), by repeat (first | (with_reducible first | exact HB.out | apply below_alloc | apply pw_below_drewN | apply below_drew1) | exact HB.out)⟩
      · replace c6 := Bool.eq_false_iff.mpr c6
        subst c6
        have H1 : ((lookoutlaw42_one.f t133).bind fun bt136 => (if t134 = 0 then (if bt136.2.2.2.2.2 = true then (if (bt136.1 == 3 && (bt136.2.1.toList == t133.toList && ((bt136.2.2.1 == a0 && (bt136.2.2.2.1 == 1)) && (bt136.2.2.2.2.1 == 0)))) = true then ((lookoutlaw42_awake.f kj2).bind fun t143 => (some t143)) else (some false)) else (some false)) else (some false))) = some r := by rw [if_neg (show ¬ (false = true) by decide)] at H; exact H
        clear H
        have H := H1
        clear H1
        replace H := Option.bind_eq_some_iff.mp H
        obtain ⟨⟨t136, t137, t138, t139, t140, t141⟩, A110, H⟩ := H
        replace H : (if t134 = 0 then (if t141 = true then (if (t136 == 3 && (t137.toList == t133.toList && ((t138 == a0 && (t139 == 1)) && (t140 == 0)))) = true then ((lookoutlaw42_awake.f kj2).bind fun t143 => (some t143)) else (some false)) else (some false)) else (some false)) = some r := H
        have A11 := Aside0.mk A110
        clear A110
        by_cases c12 : t134 = 0
        · rw [if_pos c12] at H
          have c12b0 : (t134 == 0) = true := beq_iff_eq.mpr c12
          have c12b1 : (t134 != 0) = false := bne_eq_false_iff_eq.mpr c12
          clear c12
          by_cases c13 : t141 = true
          · subst c13
            have H1 : (if (t136 == 3 && (t137.toList == t133.toList && ((t138 == a0 && (t139 == 1)) && (t140 == 0)))) = true then ((lookoutlaw42_awake.f kj2).bind fun t143 => (some t143)) else (some false)) = some r := by rw [if_pos rfl] at H; exact H
            clear H
            have H := H1
            clear H1
            by_cases c14 : (t136 == 3 && (t137.toList == t133.toList && ((t138 == a0 && (t139 == 1)) && (t140 == 0)))) = true
            · rw [if_pos c14] at H
              have c14b0 : (t136 == 3 && (t137.toList == t133.toList && ((t138 == a0 && (t139 == 1)) && (t140 == 0)))) = true := c14
              (try (have c14b1 : decide (t136 = 3 && (t137.toList == t133.toList && ((t138 == a0 && (t139 == 1)) && (t140 == 0)))) = true := by simpa using c14))
              (try (have c14b2 : (t136 == 3 && (t137.toList == t133.toList && ((t138 == a0 && (t139 == 1)) && (t140 == 0)))) = true := by simpa using c14))
              clear c14
              replace H := Option.bind_eq_some_iff.mp H
              obtain ⟨t143, A150, H⟩ := H
              replace H : (some t143) = some r := H
              have A15 := Aside0.mk A150
              clear A150
              obtain rfl := Option.some.inj H
              go_wp2_with (first | ((with_reducible refine gate_callee (f := 12) rfl ?_); refine goesL_ (some 29) rfl rfl Tryz.func12 (by kernel_rfl) rfl #[.string t133] rfl (by (try simp only [List.map_toArray, List.map_cons, List.map_nil]); first | done | rfl | (simp only [List.length_drop, List.length_take]; rfl)) ?_; (with_reducible refine (lookoutlaw42_one.calls t133 t136 t137 t138 t139 t140 true _ ?side1 A11.out).mono ?_); (case side1 => exact Tabs.below HT.out (by repeat (first | (with_reducible first | exact HB.out | apply below_alloc | apply pw_below_drewN | apply below_drew1) | exact HB.out))); rintro e w16 ⟨rfl, hb⟩; refine ⟨_, rfl, ?_⟩; have n0_ := Aside0.mk (below_step (by repeat (first | (with_reducible first | exact HB.out | apply below_alloc | apply pw_below_drewN | apply below_drew1) | exact HB.out)) hb); clear HB; have HB := n0_; clear n0_; (try clear hb); (try clear hb2); (try clear hk); (try clear hi)) | ((with_reducible refine gate_dst (N := 5) rfl ?_); refine box_event ?hg (N := 5) ?hd (cs := #[.int .i64 0, .string (⟨#[]⟩ : ByteArray), .int .i64 0, .int .i64 0, .int .i64 0]) (t := 29) ?hr ?_; (case hd => rfl); (case hg => rfl); (case hr => first | (go_simp; done) | (go_simp; rfl)); intro gb142 hg w17 hbox hb; have n0_ := Aside0.mk (below_step (by repeat (first | (with_reducible first | exact HB.out | apply below_alloc | apply pw_below_drewN | apply below_drew1) | exact HB.out)) hb); have n1_ := Aside0.mk (hbox); have n2_ := Aside0.mk ((by rw [hg]; exact (below_size (by repeat (first | (with_reducible first | exact HB.out | apply below_alloc | apply pw_below_drewN | apply below_drew1) | exact HB.out))) : w.heap.size ≤ gb142)); have n3_ := Aside0.mk ((by rw [hg]; exact (below_size (by repeat (first | (with_reducible first | exact HB.out | apply below_alloc | apply pw_below_drewN | apply below_drew1) | exact HB.out))) : w.heap.size ≤ gb142)); clear HB; have HB := n0_; have BK142 := n1_; have GW142 := n2_; have GE142 := n3_; clear n0_ n1_ n2_ n3_; clear hb hbox hg; have hcz18_0 : w17.cell? ⟨gb142, 0, none⟩ = some (.int .i64 0) := (blk_cell BK142.out 0).trans rfl; have hcz18_1 : w17.cell? ⟨gb142, 1, none⟩ = some (.string (⟨#[]⟩ : ByteArray)) := (blk_cell BK142.out 1).trans rfl; have hcz18_2 : w17.cell? ⟨gb142, 2, none⟩ = some (.int .i64 0) := (blk_cell BK142.out 2).trans rfl; have hcz18_3 : w17.cell? ⟨gb142, 3, none⟩ = some (.int .i64 0) := (blk_cell BK142.out 3).trans rfl; have hcz18_4 : w17.cell? ⟨gb142, 4, none⟩ = some (.int .i64 0) := (blk_cell BK142.out 4).trans rfl; have hfz18_0 := blk_frozen BK142.out 0; have hfz18_1 := blk_frozen BK142.out 1; have hfz18_2 := blk_frozen BK142.out 2; have hfz18_3 := blk_frozen BK142.out 3; have hfz18_4 := blk_frozen BK142.out 4) | (go_at_call 11; (with_reducible refine (lookoutlaw42_awake.calls kj2  t143 _ ?side1 A15.out).mono ?_); (case side1 => exact Tabs.below HT.out (by repeat (first | (with_reducible first | exact HB.out | apply below_alloc | apply pw_below_drewN | apply below_drew1 | refine below_set ?_ GE142.out) | exact HB.out))); rintro e w19 ⟨rfl, hb⟩; have n0_ := Aside0.mk (blk_below (g := gb142) (o := .cells #[.int .i64 t136, .string t137, .int .i64 t138, .int .i64 t139, .int .i64 t140] 29 (0, 0)) (by (with_reducible repeat (first | refine blk_drewN ?_ _ | refine blk_drew ?_ | refine blk_alloc ?_ _)); refine blk_put (cs := #[.int .i64 t136, .string t137, .int .i64 t138, .int .i64 t139, .int .i64 0]) ?_ 4 _ rfl; (with_reducible repeat (first | refine blk_drewN ?_ _ | refine blk_drew ?_ | refine blk_alloc ?_ _)); refine blk_put (cs := #[.int .i64 t136, .string t137, .int .i64 t138, .int .i64 0, .int .i64 0]) ?_ 3 _ rfl; (with_reducible repeat (first | refine blk_drewN ?_ _ | refine blk_drew ?_ | refine blk_alloc ?_ _)); refine blk_put (cs := #[.int .i64 t136, .string t137, .int .i64 0, .int .i64 0, .int .i64 0]) ?_ 2 _ rfl; (with_reducible repeat (first | refine blk_drewN ?_ _ | refine blk_drew ?_ | refine blk_alloc ?_ _)); refine blk_put (cs := #[.int .i64 t136, .string (⟨#[]⟩ : ByteArray), .int .i64 0, .int .i64 0, .int .i64 0]) ?_ 1 _ rfl; (with_reducible repeat (first | refine blk_drewN ?_ _ | refine blk_drew ?_ | refine blk_alloc ?_ _)); refine blk_put (cs := #[.int .i64 0, .string (⟨#[]⟩ : ByteArray), .int .i64 0, .int .i64 0, .int .i64 0]) ?_ 0 _ rfl; (with_reducible repeat (first | refine blk_drewN ?_ _ | refine blk_drew ?_ | refine blk_alloc ?_ _)); exact BK142.out) hb); have n1_ := Aside0.mk (below_step (by repeat (first | (with_reducible first | exact HB.out | apply below_alloc | apply pw_below_drewN | apply below_drew1 | refine below_set ?_ GE142.out) | exact HB.out)) hb); clear BK142; clear HB; have BK142 := n0_; have HB := n1_; clear n0_ n1_; (try clear hb); (try clear hb2); (try clear hk); (try clear hi)))
              go_ret
              exact ⟨by first | rfl | (simp [errW_none, errW_some] <;> rfl) | (simp [*, errW_none, errW_some] <;> rfl), by repeat (first | (with_reducible first | exact HB.out | apply below_alloc | apply pw_below_drewN | apply below_drew1 | refine below_set ?_ GE142.out) | exact HB.out)⟩
            · rw [if_neg c14] at H
              have c14b0 : (t136 == 3 && (t137.toList == t133.toList && ((t138 == a0 && (t139 == 1)) && (t140 == 0)))) = false := by simpa using c14
              (try (have c14b1 : decide (t136 = 3 && (t137.toList == t133.toList && ((t138 == a0 && (t139 == 1)) && (t140 == 0)))) = false := by simpa using c14))
              (try (have c14b2 : (t136 == 3 && (t137.toList == t133.toList && ((t138 == a0 && (t139 == 1)) && (t140 == 0)))) = false := by simpa using c14))
              (try (have c14b3 : ¬ (t136 = 3 && (t137.toList == t133.toList && ((t138 == a0 && (t139 == 1)) && (t140 == 0)))) := by simpa using c14))
              clear c14
              obtain rfl := Option.some.inj H
              go_wp2_with (first | ((with_reducible refine gate_callee (f := 12) rfl ?_); refine goesL_ (some 29) rfl rfl Tryz.func12 (by kernel_rfl) rfl #[.string t133] rfl (by (try simp only [List.map_toArray, List.map_cons, List.map_nil]); first | done | rfl | (simp only [List.length_drop, List.length_take]; rfl)) ?_; (with_reducible refine (lookoutlaw42_one.calls t133 t136 t137 t138 t139 t140 true _ ?side1 A11.out).mono ?_); (case side1 => exact Tabs.below HT.out (by repeat (first | (with_reducible first | exact HB.out | apply below_alloc | apply pw_below_drewN | apply below_drew1) | exact HB.out))); rintro e w20 ⟨rfl, hb⟩; refine ⟨_, rfl, ?_⟩; have n0_ := Aside0.mk (below_step (by repeat (first | (with_reducible first | exact HB.out | apply below_alloc | apply pw_below_drewN | apply below_drew1) | exact HB.out)) hb); clear HB; have HB := n0_; clear n0_; (try clear hb); (try clear hb2); (try clear hk); (try clear hi)) | ((with_reducible refine gate_dst (N := 5) rfl ?_); refine box_event ?hg (N := 5) ?hd (cs := #[.int .i64 0, .string (⟨#[]⟩ : ByteArray), .int .i64 0, .int .i64 0, .int .i64 0]) (t := 29) ?hr ?_; (case hd => rfl); (case hg => rfl); (case hr => first | (go_simp; done) | (go_simp; rfl)); intro gb142 hg w21 hbox hb; have n0_ := Aside0.mk (below_step (by repeat (first | (with_reducible first | exact HB.out | apply below_alloc | apply pw_below_drewN | apply below_drew1) | exact HB.out)) hb); have n1_ := Aside0.mk (hbox); have n2_ := Aside0.mk ((by rw [hg]; exact (below_size (by repeat (first | (with_reducible first | exact HB.out | apply below_alloc | apply pw_below_drewN | apply below_drew1) | exact HB.out))) : w.heap.size ≤ gb142)); have n3_ := Aside0.mk ((by rw [hg]; exact (below_size (by repeat (first | (with_reducible first | exact HB.out | apply below_alloc | apply pw_below_drewN | apply below_drew1) | exact HB.out))) : w.heap.size ≤ gb142)); clear HB; have HB := n0_; have BK142 := n1_; have GW142 := n2_; have GE142 := n3_; clear n0_ n1_ n2_ n3_; clear hb hbox hg; have hcz22_0 : w21.cell? ⟨gb142, 0, none⟩ = some (.int .i64 0) := (blk_cell BK142.out 0).trans rfl; have hcz22_1 : w21.cell? ⟨gb142, 1, none⟩ = some (.string (⟨#[]⟩ : ByteArray)) := (blk_cell BK142.out 1).trans rfl; have hcz22_2 : w21.cell? ⟨gb142, 2, none⟩ = some (.int .i64 0) := (blk_cell BK142.out 2).trans rfl; have hcz22_3 : w21.cell? ⟨gb142, 3, none⟩ = some (.int .i64 0) := (blk_cell BK142.out 3).trans rfl; have hcz22_4 : w21.cell? ⟨gb142, 4, none⟩ = some (.int .i64 0) := (blk_cell BK142.out 4).trans rfl; have hfz22_0 := blk_frozen BK142.out 0; have hfz22_1 := blk_frozen BK142.out 1; have hfz22_2 := blk_frozen BK142.out 2; have hfz22_3 := blk_frozen BK142.out 3; have hfz22_4 := blk_frozen BK142.out 4))
              go_ret
              exact ⟨by first | rfl | (simp [errW_none, errW_some] <;> rfl) | (simp [*, errW_none, errW_some] <;> rfl), by repeat (first | (with_reducible first | exact HB.out | apply below_alloc | apply pw_below_drewN | apply below_drew1 | refine below_set ?_ GE142.out) | exact HB.out)⟩
          · replace c13 := Bool.eq_false_iff.mpr c13
            subst c13
            have H1 : (some false) = some r := by rw [if_neg (show ¬ (false = true) by decide)] at H; exact H
            clear H
            have H := H1
            clear H1
            obtain rfl := Option.some.inj H
            go_wp2_with (first | ((with_reducible refine gate_callee (f := 12) rfl ?_); refine goesL_ (some 29) rfl rfl Tryz.func12 (by kernel_rfl) rfl #[.string t133] rfl (by (try simp only [List.map_toArray, List.map_cons, List.map_nil]); first | done | rfl | (simp only [List.length_drop, List.length_take]; rfl)) ?_; (with_reducible refine (lookoutlaw42_one.calls t133 t136 t137 t138 t139 t140 false _ ?side1 A11.out).mono ?_); (case side1 => exact Tabs.below HT.out (by repeat (first | (with_reducible first | exact HB.out | apply below_alloc | apply pw_below_drewN | apply below_drew1) | exact HB.out))); rintro e w23 ⟨rfl, hb⟩; refine ⟨_, rfl, ?_⟩; have n0_ := Aside0.mk (below_step (by repeat (first | (with_reducible first | exact HB.out | apply below_alloc | apply pw_below_drewN | apply below_drew1) | exact HB.out)) hb); clear HB; have HB := n0_; clear n0_; (try clear hb); (try clear hb2); (try clear hk); (try clear hi)) | ((with_reducible refine gate_dst (N := 5) rfl ?_); refine box_event ?hg (N := 5) ?hd (cs := #[.int .i64 0, .string (⟨#[]⟩ : ByteArray), .int .i64 0, .int .i64 0, .int .i64 0]) (t := 29) ?hr ?_; (case hd => rfl); (case hg => rfl); (case hr => first | (go_simp; done) | (go_simp; rfl)); intro gb142 hg w24 hbox hb; have n0_ := Aside0.mk (below_step (by repeat (first | (with_reducible first | exact HB.out | apply below_alloc | apply pw_below_drewN | apply below_drew1) | exact HB.out)) hb); have n1_ := Aside0.mk (hbox); have n2_ := Aside0.mk ((by rw [hg]; exact (below_size (by repeat (first | (with_reducible first | exact HB.out | apply below_alloc | apply pw_below_drewN | apply below_drew1) | exact HB.out))) : w.heap.size ≤ gb142)); have n3_ := Aside0.mk ((by rw [hg]; exact (below_size (by repeat (first | (with_reducible first | exact HB.out | apply below_alloc | apply pw_below_drewN | apply below_drew1) | exact HB.out))) : w.heap.size ≤ gb142)); clear HB; have HB := n0_; have BK142 := n1_; have GW142 := n2_; have GE142 := n3_; clear n0_ n1_ n2_ n3_; clear hb hbox hg; have hcz25_0 : w24.cell? ⟨gb142, 0, none⟩ = some (.int .i64 0) := (blk_cell BK142.out 0).trans rfl; have hcz25_1 : w24.cell? ⟨gb142, 1, none⟩ = some (.string (⟨#[]⟩ : ByteArray)) := (blk_cell BK142.out 1).trans rfl; have hcz25_2 : w24.cell? ⟨gb142, 2, none⟩ = some (.int .i64 0) := (blk_cell BK142.out 2).trans rfl; have hcz25_3 : w24.cell? ⟨gb142, 3, none⟩ = some (.int .i64 0) := (blk_cell BK142.out 3).trans rfl; have hcz25_4 : w24.cell? ⟨gb142, 4, none⟩ = some (.int .i64 0) := (blk_cell BK142.out 4).trans rfl; have hfz25_0 := blk_frozen BK142.out 0; have hfz25_1 := blk_frozen BK142.out 1; have hfz25_2 := blk_frozen BK142.out 2; have hfz25_3 := blk_frozen BK142.out 3; have hfz25_4 := blk_frozen BK142.out 4))
            go_ret
            exact ⟨by first | rfl | (simp [errW_none, errW_some] <;> rfl) | (simp [*, errW_none, errW_some] <;> rfl), by repeat (first | (with_reducible first | exact HB.out | apply below_alloc | apply pw_below_drewN | apply below_drew1 | refine below_set ?_ GE142.out) | exact HB.out)⟩
        · rw [if_neg c12] at H
          have c12b0 : (t134 == 0) = false := beq_eq_false_iff_ne.mpr c12
          have c12b1 : (t134 != 0) = true := bne_iff_ne.mpr c12
          obtain rfl := Option.some.inj H
          go_wp2_with (first | ((with_reducible refine gate_callee (f := 12) rfl ?_); refine goesL_ (some 29) rfl rfl Tryz.func12 (by kernel_rfl) rfl #[.string t133] rfl (by (try simp only [List.map_toArray, List.map_cons, List.map_nil]); first | done | rfl | (simp only [List.length_drop, List.length_take]; rfl)) ?_; (with_reducible refine (lookoutlaw42_one.calls t133 t136 t137 t138 t139 t140 t141 _ ?side1 A11.out).mono ?_); (case side1 => exact Tabs.below HT.out (by repeat (first | (with_reducible first | exact HB.out | apply below_alloc | apply pw_below_drewN | apply below_drew1) | exact HB.out))); rintro e w26 ⟨rfl, hb⟩; refine ⟨_, rfl, ?_⟩; have n0_ := Aside0.mk (below_step (by repeat (first | (with_reducible first | exact HB.out | apply below_alloc | apply pw_below_drewN | apply below_drew1) | exact HB.out)) hb); clear HB; have HB := n0_; clear n0_; (try clear hb); (try clear hb2); (try clear hk); (try clear hi)) | ((with_reducible refine gate_dst (N := 5) rfl ?_); refine box_event ?hg (N := 5) ?hd (cs := #[.int .i64 0, .string (⟨#[]⟩ : ByteArray), .int .i64 0, .int .i64 0, .int .i64 0]) (t := 29) ?hr ?_; (case hd => rfl); (case hg => rfl); (case hr => first | (go_simp; done) | (go_simp; rfl)); intro gb142 hg w27 hbox hb; have n0_ := Aside0.mk (below_step (by repeat (first | (with_reducible first | exact HB.out | apply below_alloc | apply pw_below_drewN | apply below_drew1) | exact HB.out)) hb); have n1_ := Aside0.mk (hbox); have n2_ := Aside0.mk ((by rw [hg]; exact (below_size (by repeat (first | (with_reducible first | exact HB.out | apply below_alloc | apply pw_below_drewN | apply below_drew1) | exact HB.out))) : w.heap.size ≤ gb142)); have n3_ := Aside0.mk ((by rw [hg]; exact (below_size (by repeat (first | (with_reducible first | exact HB.out | apply below_alloc | apply pw_below_drewN | apply below_drew1) | exact HB.out))) : w.heap.size ≤ gb142)); clear HB; have HB := n0_; have BK142 := n1_; have GW142 := n2_; have GE142 := n3_; clear n0_ n1_ n2_ n3_; clear hb hbox hg; have hcz28_0 : w27.cell? ⟨gb142, 0, none⟩ = some (.int .i64 0) := (blk_cell BK142.out 0).trans rfl; have hcz28_1 : w27.cell? ⟨gb142, 1, none⟩ = some (.string (⟨#[]⟩ : ByteArray)) := (blk_cell BK142.out 1).trans rfl; have hcz28_2 : w27.cell? ⟨gb142, 2, none⟩ = some (.int .i64 0) := (blk_cell BK142.out 2).trans rfl; have hcz28_3 : w27.cell? ⟨gb142, 3, none⟩ = some (.int .i64 0) := (blk_cell BK142.out 3).trans rfl; have hcz28_4 : w27.cell? ⟨gb142, 4, none⟩ = some (.int .i64 0) := (blk_cell BK142.out 4).trans rfl; have hfz28_0 := blk_frozen BK142.out 0; have hfz28_1 := blk_frozen BK142.out 1; have hfz28_2 := blk_frozen BK142.out 2; have hfz28_3 := blk_frozen BK142.out 3; have hfz28_4 := blk_frozen BK142.out 4))
          go_ret
          exact ⟨by first | rfl | (simp [errW_none, errW_some] <;> rfl) | (simp [*, errW_none, errW_some] <;> rfl), by repeat (first | (with_reducible first | exact HB.out | apply below_alloc | apply pw_below_drewN | apply below_drew1 | refine below_set ?_ GE142.out) | exact HB.out)⟩
end Go.Proofs.YteokilkcchdeiaaGreatDoor.Q
end
section
namespace Go.Proofs.YteokilkcchdeiaaGreatDoor.X
open Go.RowKit Go.Shelf Go.Proofs.YteokilkcchdeiaaGreatDoor Go.Proofs.YteokilkcchdeiaaGreatDoorW.PrintWords Go.Proofs.YteokilkcchdeiaaGreatDoorW.PrintLast Go.Proofs.YteokilkcchdeiaaGreatDoorW.PrintMore Go.Proofs.YteokilkcchdeiaaGreatDoor.Q
set_option linter.unusedVariables false
set_option maxRecDepth 100000 in
theorem awake_t : lookoutlaw42_awake.f 60 = some true := by decide +kernel
theorem awake_k (k : Nat) : lookoutlaw42_awake.f (60 + k) = some true := more_rounds (g := fun k => lookoutlaw42_awake.f k) lookoutlaw42_awake.mono 60 k _ awake_t
theorem runN_app (p : Int → Bool) : ∀ (a b : List UInt8), (∀ c ∈ a, p (c.toNat : Int) = true) → runN p (a ++ b) = a.length + runN p b
  | [], b, _ => by simp
  | c :: a, b, h => by
    rw [List.cons_append]
    conv => lhs; unfold runN
    rw [if_pos (h c (by simp)), runN_app p a b (fun d hd => h d (by simp [hd])), List.length_cons]
    omega
theorem decFrom_app : ∀ (a b : List UInt8) (acc m : Nat), Lib.decFrom acc a = some m → Lib.decFrom acc (a ++ b) = Lib.decFrom m b
  | [], b, acc, m, h => by
    obtain rfl : acc = m := by simpa [Lib.decFrom] using h
    rfl
  | c :: a, b, acc, m, h => by
    simp only [List.cons_append, Lib.decFrom] at h ⊢
    cases hd : Lib.digitVal c with
    | none => rw [hd] at h; cases h
    | some d => rw [hd] at h; exact decFrom_app a b _ m h
theorem dig_of (d : Nat) (h : d < 10) : digB (((UInt8.ofNat (48 + d)).toNat : Nat) : Int) = true ∧ Lib.digitVal (UInt8.ofNat (48 + d)) = some d := by
  have e : (UInt8.ofNat (48 + d)).toNat = 48 + d := by simp; omega
  refine ⟨?_, ?_⟩
  · rw [e]; simp only [digB, Bool.and_eq_true, decide_eq_true_eq]; omega
  · unfold Lib.digitVal; rw [e, if_pos (by omega)]; congr 1; omega
theorem dd_spec : ∀ u : Nat, allDig (Lib.decDigits u) ∧ Lib.decFrom 0 (Lib.decDigits u) = some u ∧ Lib.decDigits u ≠ [] := by
  intro u
  induction u using Nat.strongRecOn with
  | _ u ih =>
    rw [Lib.decDigits]
    split
    · rename_i h
      obtain ⟨h1, h2⟩ := dig_of u h
      refine ⟨fun c hc => by rw [List.mem_singleton.1 hc]; exact h1, ?_, by simp⟩
      simp only [Lib.decFrom, h2]
      congr 1; omega
    · rename_i h
      obtain ⟨i1, i2, i3⟩ := ih (u / 10) (by omega)
      obtain ⟨h1, h2⟩ := dig_of (u % 10) (by omega)
      refine ⟨fun c hc => ?_, ?_, by simp⟩
      · rcases List.mem_append.1 hc with hc | hc
        · exact i1 c hc
        · rw [List.mem_singleton.1 hc]; exact h1
      · rw [decFrom_app _ _ _ _ i2]
        simp only [Lib.decFrom, h2]
        congr 1; omega
theorem dd_len : ∀ (k u : Nat), u < 10 ^ (k + 1) → (Lib.decDigits u).length ≤ k + 1
  | 0, u, h => by rw [Lib.decDigits, dif_pos (by simpa using h)]; simp
  | k + 1, u, h => by
    rw [Lib.decDigits]
    split
    · simp
    · have := dd_len k (u / 10) (by rw [Nat.pow_succ] at h; omega)
      simp; omega
def digHead (l : List UInt8) : Prop := l = [] ∨ ∃ c r, l = c :: r ∧ digB (c.toNat : Int) = true
attribute [local irreducible] runN numV
theorem one_whole (l : List UInt8) (h4 : l.length ≤ 4000) (r : Rd) (hB : blankG false l = 0) (hne : l ≠ []) (hF : F0 l = r) (hs : r.size = l.length) (he : r.err = 0) :
    lookoutlaw42_one.f ⟨l.toArray⟩ = some (r.kind, r.text, r.num, r.den, 0, true) := by
  have hz : (⟨l.toArray⟩ : ByteArray).size = l.length := by simp [ByteArray.size]
  have hdat : (⟨l.toArray⟩ : ByteArray).data.toList = l := rfl
  have hseq : seqT X0 4001 l 0 = [{ r with at_ := 0 }] := by
    rw [seqT_ok X0 4000 l 0 r hF hne he]
    have hd : l.drop (r.size.toNat + X0.B (l.drop r.size.toNat)) = [] := List.drop_eq_nil_of_le (by rw [hs, Int.toNat_natCast]; omega)
    rw [hd, seqT_nil]; rfl
  have ht : tokensOf X0 ⟨l.toArray⟩ = ([⟨r.kind, r.text, ⟨r.num, r.den⟩, 0⟩, ⟨0, ⟨#[]⟩, ⟨0, 0⟩, l.length⟩], 0, 0) := by
    unfold tokensOf
    rw [if_neg (by rw [hz]; omega), hdat, show X0.B l = 0 from hB, List.drop_zero, hseq, tokR_ok (by intro x hx; rw [List.mem_singleton.1 hx]; exact he), hz]
    rfl
  unfold lookoutlaw42_one.f lexer_Tokens.f
  rw [ht, Option.bind_some]
  rfl
theorem digHead_blank {l : List UInt8} (h : digHead l) : blankG false l = 0 := by
  rcases h with rfl | ⟨c, r, rfl, hc⟩
  · rfl
  · simp only [digB, Bool.and_eq_true, decide_eq_true_eq] at hc
    have h1 : ¬ (c = 32 ∨ c = 9 ∨ c = 10) := by rintro (rfl | rfl | rfl) <;> revert hc <;> decide
    have h2 : ¬ c = 35 := by rintro rfl; revert hc; decide
    simp [blankG, h1, h2]
theorem digHead_name {l : List UInt8} (h : digHead l) : ¬ 0 < (nameR l).size := by
  have hp : partN l = 0 := by
    rcases h with rfl | ⟨c, r, rfl, hc⟩
    · decide
    · refine if_neg ?_
      show ¬ letB (c.toNat : Int) = true
      simp only [digB, letB, Bool.and_eq_true, decide_eq_true_eq, Bool.or_eq_true, beq_iff_eq] at hc ⊢
      omega
  unfold nameR
  rw [hp]
  have : nameN (l.length + 1) l 0 = 0 := by unfold nameN; rw [if_neg (fun h => absurd h.1 (by decide))]
  rw [this]
  unfold nameF; rw [if_neg (by decide)]
  simp
end Go.Proofs.YteokilkcchdeiaaGreatDoor.X
end
section
namespace Go.Proofs.YteokilkcchdeiaaGreatDoor.X
open Go.RowKit Go.Shelf Go.Proofs.YteokilkcchdeiaaGreatDoor Go.Proofs.YteokilkcchdeiaaGreatDoorW.PrintWords Go.Proofs.YteokilkcchdeiaaGreatDoorW.PrintLast Go.Proofs.YteokilkcchdeiaaGreatDoorW.PrintMore Go.Proofs.YteokilkcchdeiaaGreatDoor.Q
set_option linter.unusedVariables false
def unitsD : List (List UInt8 × Nat × Int) := [([100], 86400000, 0), ([104], 3600000, 2), ([109], 60000, 4), ([115], 1000, 6), ([109, 115], 1, 8)]
def textU : List (List UInt8 × Nat × Int) → Nat → List UInt8
  | [], _ => []
  | u :: us, ms => if 0 < ms / u.2.1 then Lib.decDigits (ms / u.2.1) ++ (u.1 ++ textU us (ms % u.2.1)) else textU us (ms % u.2.1)
theorem textU_head : ∀ (us : List (List UInt8 × Nat × Int)) (ms : Nat), digHead (textU us ms)
  | [], _ => .inl rfl
  | u :: us, ms => by
    unfold textU
    split
    · obtain ⟨h1, _, h3⟩ := dd_spec (ms / u.2.1)
      cases hd : Lib.decDigits (ms / u.2.1) with
      | nil => exact absurd hd h3
      | cons c r => exact .inr ⟨c, _, rfl, h1 c (by rw [hd]; simp)⟩
    · exact textU_head us _
theorem unit_ok : ∀ u ∈ unitsD, 1 ≤ u.2.1 ∧ 0 ≤ u.2.2 ∧ lenP u.2.2 = (u.2.1 : Int) ∧ ∀ rest, digHead rest → unitP (u.1 ++ rest) = (u.1, u.2.2) ∧ runN digB (u.1 ++ rest) = 0 := by
  intro u hu
  unfold unitsD at hu
  simp only [List.mem_cons, List.not_mem_nil, or_false] at hu
  rcases hu with rfl | rfl | rfl | rfl | rfl
  · exact ⟨by decide, by decide, by decide +kernel, fun rest _ => ⟨by simp [unitP, unitsP, List.find?, List.isPrefixOf], rfl⟩⟩
  · exact ⟨by decide, by decide, by decide +kernel, fun rest _ => ⟨by simp [unitP, unitsP, List.find?, List.isPrefixOf], rfl⟩⟩
  · refine ⟨by decide, by decide, by decide +kernel, fun rest hr => ⟨?_, rfl⟩⟩
    rcases hr with rfl | ⟨c, r, rfl, hc⟩
    · rfl
    · have : ¬ (115 : UInt8) = c := by rintro rfl; exact absurd hc (by decide)
      simp [unitP, unitsP, List.find?, List.isPrefixOf, this]
  · exact ⟨by decide, by decide, by decide +kernel, fun rest _ => ⟨by simp [unitP, unitsP, List.find?, List.isPrefixOf], rfl⟩⟩
  · exact ⟨by decide, by decide, by decide +kernel, fun rest _ => ⟨by simp [unitP, unitsP, List.find?, List.isPrefixOf], rfl⟩⟩
attribute [local irreducible] lenP sum1 sumN farN mn numV unitP runN
theorem mn_of {x : Int} (h : x ≤ 1099511627776) : mn x 1099511627776 = x := by
  unfold mn; rw [if_neg (by omega)]
theorem dur_parse (l : List UInt8) : ∀ (us : List (List UInt8 × Nat × Int)) (k n ms : Nat) (sum bef : Int), (∀ u ∈ us, u ∈ unitsD) → us.Pairwise (fun a b => a.2.2 < b.2.2) → (∀ u ∈ us, bef < u.2.2) → (us = [] → ms = 0) → (∀ u, us.getLast? = some u → u.2.1 = 1) →
    l.drop n = textU us ms → n ≤ l.length → 0 ≤ sum → sum + ms ≤ 1099511627776 → (textU us ms).length < k → durGo k l n sum bef false false false = ⟨3, ⟨l.toArray⟩, sum + ms, 1, 0, l.length, 0⟩ := by
  intro us
  induction us with
  | nil =>
    intro k n ms sum bef _ _ _ h0 _ hl hn hs hm hk
    obtain ⟨k, rfl⟩ : ∃ k', k = k' + 1 := ⟨k - 1, by omega⟩
    have hms := h0 rfl
    subst hms
    have hnil : l.drop n = [] := hl
    have hle : l.length ≤ n := List.drop_eq_nil_iff.1 hnil
    obtain rfl : n = l.length := by omega
    have hz : runN digB (l.drop l.length) = 0 := by rw [hnil]; unfold runN; rfl
    rw [durGo_succ _ _ _ _ _ _ _ _ _ _ hz rfl, if_pos (.inl rfl)]
    unfold durEnd
    rw [hnil, if_neg Bool.false_ne_true, if_neg (by rintro (h | h); exact Bool.false_ne_true h; exact absurd h (by decide)), if_neg Bool.false_ne_true]
    simp
  | cons u us ih =>
    intro k n ms sum bef hin hpw hbef h0 hlast hl hn hs hm hk
    obtain ⟨k, rfl⟩ : ∃ k', k = k' + 1 := ⟨k - 1, by omega⟩
    obtain ⟨hL, hp0, hlen, hrest⟩ := unit_ok u (hin u (by simp))
    have hin2 : ∀ v ∈ us, v ∈ unitsD := fun v hv => hin v (by simp [hv])
    have hpw2 := (List.pairwise_cons.1 hpw)
    have hlast2 : ∀ v, us.getLast? = some v → v.2.1 = 1 := fun v hv => hlast v (by
      cases us with
      | nil => simp at hv
      | cons a b => rw [List.getLast?_cons_cons]; exact hv)
    have hnil2 : us = [] → ms % u.2.1 = 0 := by
      rintro rfl
      have := hlast u (by simp)
      rw [this]; exact Nat.mod_one _
    by_cases hq : 0 < ms / u.2.1
    · have ht : textU (u :: us) ms = Lib.decDigits (ms / u.2.1) ++ (u.1 ++ textU us (ms % u.2.1)) := by
        conv => lhs; unfold textU
        rw [if_pos hq]
      rw [ht] at hl hk
      obtain ⟨d1, d2, d3⟩ := dd_spec (ms / u.2.1)
      have hdl : (Lib.decDigits (ms / u.2.1)).length ≤ 12 + 1 := dd_len 12 _ (by
        have h1 : ms / u.2.1 ≤ ms := Nat.div_le_self _ _
        have h2 : (10 : Nat) ^ (12 + 1) = 10000000000000 := by decide
        omega)
      have hd1 : 1 ≤ (Lib.decDigits (ms / u.2.1)).length := List.length_pos_iff.2 d3
      obtain ⟨hr1, hr2⟩ := hrest _ (textU_head us (ms % u.2.1))
      have hmod : u.2.1 * (ms / u.2.1) + ms % u.2.1 = ms := Nat.div_add_mod ms u.2.1
      generalize hq2 : ms / u.2.1 = q at ht hl hk d1 d2 d3 hdl hd1 hq hmod
      generalize hr : ms % u.2.1 = r at hl hk hr1 hr2 hmod hnil2
      generalize hD : Lib.decDigits q = D at hl hk d1 d2 d3 hdl hd1
      have hrun : runN digB (l.drop n) = D.length := by rw [hl, runN_app _ _ _ d1, hr2, Nat.add_zero]
      have hdr : l.drop (n + D.length) = u.1 ++ textU us r := by rw [← List.drop_drop, hl, List.drop_left]
      have htk : (l.drop n).take D.length = D := by rw [hl, List.take_left]
      have hnum : numV D = q := by unfold numV; rw [d2]; rfl
      have hlen2 : n + (D.length + (u.1.length + (textU us r).length)) = l.length := by
        have h1 := congrArg List.length hl
        rw [List.length_drop, List.length_append, List.length_append] at h1
        omega
      rw [durGo_succ k l n D.length (u.1, u.2.2) sum bef false false false hrun (by rw [hdr]; exact hr1)]
      rw [if_neg (by rintro (h | h); omega; exact absurd h (by simpa using hp0)), htk, hnum]
      have hqL : (q : Int) * (u.2.1 : Int) + (r : Int) = (ms : Int) := by rw [← hmod, Int.mul_comm]; simp
      have hq0 : 0 ≤ (q : Int) * (u.2.1 : Int) := Int.mul_nonneg (by omega) (by omega)
      have hQ : (q : Int) ≤ 1099511627776 / lenP u.2.2 := by
        rw [hlen]; exact Int.le_ediv_of_mul_le (by omega) (by omega)
      obtain ⟨e1, e2⟩ := sum_ok (p := u.2.2) (d := D.length) (v := q) (sum := sum) rfl (by omega) (by omega) false
      have hX : sumN u.2.2 D.length q sum = sum + (q : Int) * (u.2.1 : Int) := by
        rw [sumN_eq _ _ _ _ _ rfl, e1, hlen]; exact mn_of (by omega)
      have hF : farN u.2.2 D.length q sum false = false := by
        rw [e2, hlen, Bool.false_or]; exact decide_eq_false (by omega)
      have hB : (false || decide (u.2.2 ≤ bef)) = false := by rw [Bool.false_or]; exact decide_eq_false (by have := hbef u (by simp); omega)
      have hG : (false || decide (18 < D.length)) = false := by rw [Bool.false_or]; exact decide_eq_false (by omega)
      show durGo k l (n + (D.length + u.1.length)) (sumN u.2.2 D.length q sum) u.2.2 _ _ _ = _
      rw [hX, hF, hB, hG]
      rw [ih k (n + (D.length + u.1.length)) r (sum + (q : Int) * (u.2.1 : Int)) u.2.2 hin2 hpw2.2 hpw2.1 hnil2 hlast2 (by rw [← Nat.add_assoc, ← List.drop_drop, hdr, List.drop_left]) (by omega) (by omega) (by omega) (by rw [List.length_append, List.length_append] at hk; omega)]
      congr 1
      omega
    · have hms : ms % u.2.1 = ms := by
        have := Nat.div_add_mod ms u.2.1
        rw [Nat.eq_zero_of_not_pos hq, Nat.mul_zero, Nat.zero_add] at this
        exact this
      have ht : textU (u :: us) ms = textU us ms := by
        conv => lhs; unfold textU
        rw [if_neg hq, hms]
      rw [ht] at hl hk
      rw [hms] at hnil2
      exact ih (k + 1) n ms sum bef hin2 hpw2.2 (fun v hv => hbef v (by simp [hv])) hnil2 hlast2 hl hn hs hm hk
theorem durR_text (ms : Nat) (h : ms ≤ 1099511627776) : durR (textU unitsD ms) = ⟨3, ⟨(textU unitsD ms).toArray⟩, ms, 1, 0, (textU unitsD ms).length, 0⟩ := by
  have := dur_parse (textU unitsD ms) unitsD ((textU unitsD ms).length + 1) 0 ms 0 (-1) (fun _ h => h) (by decide) (by decide) (by intro h; cases h) (by intro u hu; revert hu; unfold unitsD; intro hu; simp at hu; rw [← hu]) (List.drop_zero) (by omega) (by omega) (by omega) (by omega)
  rw [Int.zero_add] at this
  exact this
theorem dur_text (us : List (List UInt8 × Nat × Int)) : ∀ (acc : List UInt8) (ms : Nat), ((us.map fun u => ((u.1, (u.2.1 : Int)) : List UInt8 × Int)).foldl durStep (acc, (ms : Int))).1 = acc ++ textU us ms := by
  induction us with
  | nil => intro acc ms; simp [textU]
  | cons u us ih =>
    intro acc ms
    rw [List.map_cons, List.foldl_cons]
    conv => rhs; unfold textU
    have hds : durStep (acc, (ms : Int)) (u.1, (u.2.1 : Int)) = if 0 < (ms : Int) / (u.2.1 : Int) then (acc ++ Lib.itoa ((ms : Int) / (u.2.1 : Int)) ++ u.1, (ms : Int) % (u.2.1 : Int)) else (acc, (ms : Int)) := rfl
    rw [hds]
    have hd : (ms : Int) / (u.2.1 : Int) = ((ms / u.2.1 : Nat) : Int) := rfl
    have hm : (ms : Int) % (u.2.1 : Int) = ((ms % u.2.1 : Nat) : Int) := rfl
    rw [hd, hm]
    by_cases hq : 0 < ms / u.2.1
    · rw [if_pos (by omega), if_pos hq, ih, Lib.itoa_nonneg]
      simp
    · have hms : ms % u.2.1 = ms := by
        have := Nat.div_add_mod ms u.2.1
        rw [Nat.eq_zero_of_not_pos hq, Nat.mul_zero, Nat.zero_add] at this
        exact this
      rw [if_neg (by omega), if_neg hq, ih, hms]
theorem durN_text (ms : Nat) : (durN ms 5).1 = textU unitsD ms := by
  have := dur_text unitsD [] ms
  rw [List.nil_append] at this
  exact this
theorem textU_pos (ms : Nat) (h : 0 < ms) : textU unitsD ms ≠ [] := by
  have hne : ∀ (us : List (List UInt8 × Nat × Int)) (m : Nat), 0 < m → (∀ u, us.getLast? = some u → u.2.1 = 1) → us ≠ [] → textU us m ≠ [] := by
    intro us
    induction us with
    | nil => intro m _ _ h; exact absurd rfl h
    | cons u us ih =>
      intro m hm hl _
      unfold textU
      by_cases hq : 0 < m / u.2.1
      · rw [if_pos hq]; simp [(dd_spec (m / u.2.1)).2.2]
      · have hms : m % u.2.1 = m := by
          have := Nat.div_add_mod m u.2.1
          rw [Nat.eq_zero_of_not_pos hq, Nat.mul_zero, Nat.zero_add] at this
          exact this
        rw [if_neg hq, hms]
        cases us with
        | nil =>
          have := hl u (by simp)
          rw [this, Nat.div_one] at hq
          exact absurd hm hq
        | cons a b => exact ih m hm (fun v hv => hl v (by rw [List.getLast?_cons_cons]; exact hv)) (by simp)
  exact hne unitsD ms h (by intro u hu; revert hu; unfold unitsD; intro hu; simp at hu; rw [← hu]) (by decide)
theorem durations_t (ms : Int) (h0 : -9223372036854775808 ≤ ms) (h1 : ms ≤ 9223372036854775807) : lookoutlaw42_LexerDurations.f 61 ms = some true := by
  unfold lookoutlaw42_LexerDurations.f lexer_Duration.f
  by_cases hr : ms < 0 ∨ 1099511627776 < ms
  · rw [if_pos hr, Option.bind_some]
    have hj : lookoutlaw42_LexerDurations.j0 61 ms ⟨#[]⟩ 2 true = some true := by
      unfold lookoutlaw42_LexerDurations.j0
      dsimp only
      rw [if_pos rfl, if_pos (show (⟨#[]⟩ : ByteArray).toList = [] from by decide +kernel), if_pos rfl, awake_k 0]; rfl
    by_cases hn : ms < 0
    · rw [if_pos hn]; exact hj
    · rw [if_neg hn, show decide (ms > 1099511627776) = true from decide_eq_true (by omega)]; exact hj
  · rw [if_neg hr]
    have hend : ∀ (l : List UInt8) (r : Rd), l.length ≤ 4000 → digHead l → l ≠ [] → durR l = r → r.kind = 3 → r.text = ⟨l.toArray⟩ → r.num = ms → r.den = 1 → r.size = l.length → r.err = 0 → lookoutlaw42_LexerDurations.j0 61 ms ⟨l.toArray⟩ 0 false = some true := by
      intro l r h4 hd hne hdur k1 k2 k3 k4 k5 k6
      have hl : 0 < l.length := List.length_pos_iff.2 hne
      have hF : F0 l = r := by
        unfold F0 firstOf
        rw [if_neg (digHead_name hd), hdur, if_pos (by rw [k5]; omega)]
        unfold pick; rw [if_pos k6]
      unfold lookoutlaw42_LexerDurations.j0
      dsimp only
      rw [if_neg Bool.false_ne_true, one_whole l h4 r (digHead_blank hd) hne hF k5 k6, Option.bind_some]
      dsimp only
      rw [if_pos rfl, if_pos rfl, k1, k2, k3, k4, awake_k 0]
      simp
    by_cases hz : ms = 0
    · rw [if_pos hz, Option.bind_some]
      dsimp only
      rw [if_neg (by omega), show decide (ms > 1099511627776) = false from decide_eq_false (by omega)]
      subst hz
      exact hend [48, 115] _ (by decide) (.inr ⟨48, [115], rfl, by decide⟩) (by decide) rfl (by decide +kernel) (by decide +kernel) (by decide +kernel) (by decide +kernel) (by decide +kernel) (by decide +kernel)
    · rw [if_neg hz, Option.bind_some]
      dsimp only
      rw [if_neg (by omega), show decide (ms > 1099511627776) = false from decide_eq_false (by omega)]
      obtain ⟨m, rfl⟩ : ∃ m : Nat, ms = m := ⟨ms.toNat, by omega⟩
      have hb := durN_bound (m : Int) (by omega) (by omega) 5 (by omega)
      rw [durN_text] at hb ⊢
      exact hend _ _ (by omega) (textU_head _ _) (textU_pos m (by omega)) (durR_text m (by omega)) rfl rfl rfl rfl rfl rfl
end Go.Proofs.YteokilkcchdeiaaGreatDoor.X
end
