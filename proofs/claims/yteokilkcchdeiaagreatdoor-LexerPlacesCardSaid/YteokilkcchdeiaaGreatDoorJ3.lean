/- What the proofs of the lexer's laws share, part 3 of 5. -/
import Derived.Test.YteokilkcchdeiaaGreatDoorJ1
import Derived.Test.YteokilkcchdeiaaGreatDoorJ2
import Derived.Lib.ItoaLen
import Derived.RangeFuncNested
import Derived.RangeFuncBound
import Derived.RangeFuncCalls
import Derived.RangeFuncLeaves
import Derived.Shelf.Abstract
import Derived.OwnWalkIn
import Derived.TacticsInMore
import Derived.LoopNIn
import Derived.LoopIn
set_option linter.unusedVariables false
set_option linter.unusedSimpArgs false
section
namespace Go.Proofs.YteokilkcchdeiaaGreatDoor.Q
open Go.Proofs.YteokilkcchdeiaaGreatDoor
open Go.Proofs.YteokilkcchdeiaaGreatDoor.X
open Go.RowKit Go.Proofs.YteokilkcchdeiaaGreatDoorW.PrintWords Go.Proofs.YteokilkcchdeiaaGreatDoorW.PrintLast Go.Proofs.YteokilkcchdeiaaGreatDoorW.PrintMore
attribute [local go_sem] max2_int min2_int max_two min_two max_three min_three max_four min_four   -- for this text's walks alone
set_option linter.unusedVariables false
set_option linter.unusedSimpArgs false
mutual
def lexer_number.j0 : Nat → ByteArray → Int → Int → Int → Bool → Option (Int × ByteArray × Int × Int × Int × Int × Int)
  | 0, _, _, _, _, _ => none
  | k + 1, x0, x5, x6, x7, x8 => if x8 = true then (if 0 ≤ (wrap64 (x6 + 1)) then (if (wrap64 (x6 + 1)) ≤ (x0.size : Int) then ((lexer_run_isDigit.f (x0.extract ((wrap64 (x6 + 1)) : Int).toNat x0.size)).bind fun t365 => (lexer_number.j1 k x0 x5 x6 t365 x8)) else (none)) else (none)) else (lexer_number.j1 k x0 x5 x6 x7 x8)
def lexer_number.j1 : Nat → ByteArray → Int → Int → Int → Bool → Option (Int × ByteArray × Int × Int × Int × Int × Int)
  | 0, _, _, _, _, _ => none
  | k + 1, x0, x5, x6, x7, x8 => if (wrap64 (x5 + x7)) > 18 then (some (0, (⟨#[]⟩ : ByteArray), 0, 0, 0, x6, 4)) else (if x8 = true then (lexer_number.j2 k x0 x6 x7 x8 (x7 == 0)) else (lexer_number.j2 k x0 x6 x7 x8 false))
def lexer_number.j2 : Nat → ByteArray → Int → Int → Bool → Bool → Option (Int × ByteArray × Int × Int × Int × Int × Int)
  | 0, _, _, _, _, _ => none
  | k + 1, x0, x6, x7, x8, x45 => if x45 = true then (some (0, (⟨#[]⟩ : ByteArray), 0, 0, 0, x6, 3)) else (if x8 = true then (lexer_number.j3 k x0 (wrap64 (x6 + (wrap64 (1 + x7)))) x7) else (lexer_number.j3 k x0 x6 x7))
def lexer_number.j3 : Nat → ByteArray → Int → Int → Option (Int × ByteArray × Int × Int × Int × Int × Int)
  | 0, _, _, _ => none
  | k + 1, x0, x6, x7 => if 0 ≤ x6 then (if x6 ≤ (x0.size : Int) then ((lexer_continues.f (x0.extract (x6 : Int).toNat x0.size)).bind fun t366 => (if t366 = true then (some (0, (⟨#[]⟩ : ByteArray), 0, 0, 0, x6, 3)) else ((strings_Replace.f (x0.extract 0 (x6 : Int).toNat) (⟨#[46]⟩ : ByteArray) (⟨#[]⟩ : ByteArray) 1).bind fun t367 => ((strconv_Atoi.f t367).bind fun bt368 => (if bt368.2.isNone = true then ((lexer_power.f k x7).bind fun t371 => ((ratio_Make.f bt368.1 t371).bind fun bt372 => (if bt372.2.2 = 0 then (some (2, x0.extract 0 (x6 : Int).toNat, bt372.1, bt372.2.1, 0, x6, 0)) else (some (0, (⟨#[]⟩ : ByteArray), 0, 0, 0, x6, 4))))) else (some (0, (⟨#[]⟩ : ByteArray), 0, 0, 0, x6, 4))))))) else (none)) else (none)
end
def lexer_number.f (k : Nat) (a0 : ByteArray) : Option (Int × ByteArray × Int × Int × Int × Int × Int) := (lexer_run_isDigit.f a0).bind fun t364 => (if t364 = 0 then (some (0, (⟨#[]⟩ : ByteArray), 0, 0, 0, 0, 0)) else (if t364 < (a0.size : Int) then (if 0 ≤ t364 then (lexer_number.j0 k a0 t364 t364 0 ((bt a0 t364) == 46)) else (none)) else (lexer_number.j0 k a0 t364 t364 0 false)))
def lexer_number.T22 : Bool × List (List Nat × List Nat) := (true, [([], []), ([], []), ([0, 1], [0, 1]), ([], []), ([2, 3], [2, 3]), ([], []), ([4, 0, 1, 2, 3, 4], [4]), ([5, 6, 0, 1, 2, 3, 4, 5, 6], [5]), ([7, 0, 1, 2, 3, 4, 5, 6, 7], [])])
def lexer_number.B22 : List Nat := [0, 0, 3, 0, 15, 0, 31, 127, 255]
theorem lexer_number.tab22 : rtab .any (opsOf Tryz.f70 22) = lexer_number.T22 := by kernel_rfl
theorem lexer_number.bits22 : waitsOk lexer_number.T22.2 lexer_number.B22 = true := by kernel_rfl
set_option maxHeartbeats 8000000 in
set_option maxRecDepth 100000 in
theorem lexer_number.calls (k : Nat) (a0 : ByteArray) (r1 : Int) (r2 : ByteArray) (r3 : Int) (r4 : Int) (r5 : Int) (r6 : Int) (r7 : Int) (w : World) (hT : Tabs w) (h : lexer_number.f k a0 = some (r1, r2, r3, r4, r5, r6, r7)) :
    Calls Tryz.prog 70 #[.string a0] w fun e w' => e = .returned (.tuple #[.agg #[.int .i64 r1, .string r2, .int .i64 r3, .int .i64 r4, .int .i64 r5], .int .i64 r6, .int .i64 r7]) ∧ Below w.heap.size w w' := by
  have hu29 := Tryz.underlying29
  have hu27 := Tryz.underlying27
  have hu59 := Tryz.underlying59
  have HT := Aside0.mk hT
  clear hT
  have HB := Aside0.mk (Below.refl w.heap.size w)
  have H : ((lexer_run_isDigit.f a0).bind fun t364 => (if t364 = 0 then (some (0, (⟨#[]⟩ : ByteArray), 0, 0, 0, 0, 0)) else (if t364 < (a0.size : Int) then (if 0 ≤ t364 then (lexer_number.j0 k a0 t364 t364 0 ((bt a0 t364) == 46)) else (none)) else (lexer_number.j0 k a0 t364 t364 0 false)))) = some (r1, r2, r3, r4, r5, r6, r7) := h
  clear h
  replace H := Option.bind_eq_some_iff.mp H
  obtain ⟨t364, A20, H⟩ := H
  replace H : (if t364 = 0 then (some (0, (⟨#[]⟩ : ByteArray), 0, 0, 0, 0, 0)) else (if t364 < (a0.size : Int) then (if 0 ≤ t364 then (lexer_number.j0 k a0 t364 t364 0 ((bt a0 t364) == 46)) else (none)) else (lexer_number.j0 k a0 t364 t364 0 false))) = some (r1, r2, r3, r4, r5, r6, r7) := H
  have A2 := Aside0.mk A20
  clear A20
  by_cases c3 : t364 = 0
  · rw [if_pos c3] at H
    have c3b0 : (t364 == 0) = true := beq_iff_eq.mpr c3
    have c3b1 : (t364 != 0) = false := bne_eq_false_iff_eq.mpr c3
    clear c3
    simp only [Option.some.injEq, Prod.mk.injEq] at H
    obtain ⟨rfl, rfl, rfl, rfl, rfl, rfl, rfl⟩ := H
    go_enter Tryz.func70, Tryz.ntmps70
    go_wp2_with (first | ((with_reducible refine gate_dst (N := 2) rfl ?_); refine box_event ?hg (N := 2) ?hd (cs := #[.int .i64 0, .string (⟨#[]⟩ : ByteArray), .int .i64 0, .int .i64 0, .int .i64 0]) (t := 29) ?hr ?_; (case hd => rfl); (case hg => rfl); (case hr => first | (go_simp; done) | (go_simp; rfl)); intro gb363 hg w4 hbox hb; have n0_ := Aside0.mk (below_step (by repeat (first | (with_reducible first | exact HB.out | apply below_alloc | apply pw_below_drewN | apply below_drew1) | exact HB.out)) hb); have n1_ := Aside0.mk (hbox); have n2_ := Aside0.mk ((by rw [hg]; exact (below_size (by repeat (first | (with_reducible first | exact HB.out | apply below_alloc | apply pw_below_drewN | apply below_drew1) | exact HB.out))) : w.heap.size ≤ gb363)); have n3_ := Aside0.mk ((by rw [hg]; exact (below_size (by repeat (first | (with_reducible first | exact HB.out | apply below_alloc | apply pw_below_drewN | apply below_drew1) | exact HB.out))) : w.heap.size ≤ gb363)); clear HB; have HB := n0_; have BK363 := n1_; have GW363 := n2_; have GE363 := n3_; clear n0_ n1_ n2_ n3_; clear hb hbox hg) | ((with_reducible refine gate_callee (f := 97) rfl ?_); refine goesL_ (some 14) rfl rfl Tryz.func97 (by kernel_rfl) rfl #[.string a0, .func (.func 98) #[] #[]] rfl (by (try simp only [List.map_toArray, List.map_cons, List.map_nil]); first | done | rfl | (simp only [List.length_drop, List.length_take]; rfl)) ?_; (with_reducible refine (lexer_run_isDigit.calls a0 t364 _ A2.out).mono ?_); rintro e w' ⟨rfl, ⟨nd, rfl⟩⟩; refine ⟨_, rfl, ?_⟩; (try (rw [drewN_self w4]; generalize hq_ : World.drewN w4 _ = w4; have n0_ : Aside0 (w4.heap[gb363]? = some (.cells #[.int .i64 0, .string (⟨#[]⟩ : ByteArray), .int .i64 0, .int .i64 0, .int .i64 0] 29 (0, 0))) := ⟨by rw [← hq_]; exact (by (with_reducible repeat (first | refine blk_drewN ?_ _ | refine blk_drew ?_ | refine blk_alloc ?_ _)); exact BK363.out)⟩; have n1_ : Aside0 (Below w.heap.size w w4) := ⟨by rw [← hq_]; exact (by repeat (first | (with_reducible first | exact HB.out | apply below_alloc | apply pw_below_drewN | apply below_drew1 | refine below_set ?_ GE363.out) | exact HB.out))⟩; clear BK363 HB hq_; have BK363 := n0_; have HB := n1_; clear n0_ n1_)); have hcz5_0 : w4.cell? ⟨gb363, 0, none⟩ = some (.int .i64 0) := (blk_cell BK363.out 0).trans rfl; have hcz5_1 : w4.cell? ⟨gb363, 1, none⟩ = some (.string (⟨#[]⟩ : ByteArray)) := (blk_cell BK363.out 1).trans rfl; have hcz5_2 : w4.cell? ⟨gb363, 2, none⟩ = some (.int .i64 0) := (blk_cell BK363.out 2).trans rfl; have hcz5_3 : w4.cell? ⟨gb363, 3, none⟩ = some (.int .i64 0) := (blk_cell BK363.out 3).trans rfl; have hcz5_4 : w4.cell? ⟨gb363, 4, none⟩ = some (.int .i64 0) := (blk_cell BK363.out 4).trans rfl; have hfz5_0 := blk_frozen BK363.out 0; have hfz5_1 := blk_frozen BK363.out 1; have hfz5_2 := blk_frozen BK363.out 2; have hfz5_3 := blk_frozen BK363.out 3; have hfz5_4 := blk_frozen BK363.out 4))
    refine bodyPost_ret (results_ctt rfl _ _ gb363 29 #[.int .i64 0, .string (⟨#[]⟩ : ByteArray), .int .i64 0, .int .i64 0, .int .i64 0] (0, 0) _ rfl (by (with_reducible repeat (first | refine blk_drewN ?_ _ | refine blk_drew ?_ | refine blk_alloc ?_ _)); refine blk_put (cs := #[.int .i64 0, .string (⟨#[]⟩ : ByteArray), .int .i64 0, .int .i64 0, .int .i64 0]) ?_ 4 _ rfl; (with_reducible repeat (first | refine blk_drewN ?_ _ | refine blk_drew ?_ | refine blk_alloc ?_ _)); refine blk_put (cs := #[.int .i64 0, .string (⟨#[]⟩ : ByteArray), .int .i64 0, .int .i64 0, .int .i64 0]) ?_ 3 _ rfl; (with_reducible repeat (first | refine blk_drewN ?_ _ | refine blk_drew ?_ | refine blk_alloc ?_ _)); refine blk_put (cs := #[.int .i64 0, .string (⟨#[]⟩ : ByteArray), .int .i64 0, .int .i64 0, .int .i64 0]) ?_ 2 _ rfl; (with_reducible repeat (first | refine blk_drewN ?_ _ | refine blk_drew ?_ | refine blk_alloc ?_ _)); refine blk_put (cs := #[.int .i64 0, .string (⟨#[]⟩ : ByteArray), .int .i64 0, .int .i64 0, .int .i64 0]) ?_ 1 _ rfl; (with_reducible repeat (first | refine blk_drewN ?_ _ | refine blk_drew ?_ | refine blk_alloc ?_ _)); refine blk_put (cs := #[.int .i64 0, .string (⟨#[]⟩ : ByteArray), .int .i64 0, .int .i64 0, .int .i64 0]) ?_ 0 _ rfl; (with_reducible repeat (first | refine blk_drewN ?_ _ | refine blk_drew ?_ | refine blk_alloc ?_ _)); exact BK363.out) Tryz.underlying29 rfl (by kernel_rfl)) rfl ?_
    exact ⟨by first | rfl | (simp [errW_none, errW_some] <;> rfl) | (simp [*, errW_none, errW_some] <;> rfl), by repeat (first | (with_reducible first | exact HB.out | apply below_alloc | apply pw_below_drewN | apply below_drew1 | refine below_set ?_ GE363.out) | exact HB.out)⟩
  · rw [if_neg c3] at H
    have c3b0 : (t364 == 0) = false := beq_eq_false_iff_ne.mpr c3
    have c3b1 : (t364 != 0) = true := bne_iff_ne.mpr c3
    have HC6 := Aside0.mk H
    clear H
    go_enter Tryz.func70, Tryz.ntmps70
    go_upto_region 5 with (first | ((with_reducible refine gate_dst (N := 2) rfl ?_); refine box_event ?hg (N := 2) ?hd (cs := #[.int .i64 0, .string (⟨#[]⟩ : ByteArray), .int .i64 0, .int .i64 0, .int .i64 0]) (t := 29) ?hr ?_; (case hd => rfl); (case hg => rfl); (case hr => first | (go_simp; done) | (go_simp; rfl)); intro gb363 hg w7 hbox hb; have n0_ := Aside0.mk (below_step (by repeat (first | (with_reducible first | exact HB.out | apply below_alloc | apply pw_below_drewN | apply below_drew1) | exact HB.out)) hb); have n1_ := Aside0.mk (hbox); have n2_ := Aside0.mk ((by rw [hg]; exact (below_size (by repeat (first | (with_reducible first | exact HB.out | apply below_alloc | apply pw_below_drewN | apply below_drew1) | exact HB.out))) : w.heap.size ≤ gb363)); have n3_ := Aside0.mk ((by rw [hg]; exact (below_size (by repeat (first | (with_reducible first | exact HB.out | apply below_alloc | apply pw_below_drewN | apply below_drew1) | exact HB.out))) : w.heap.size ≤ gb363)); clear HB; have HB := n0_; have BK363 := n1_; have GW363 := n2_; have GE363 := n3_; clear n0_ n1_ n2_ n3_; clear hb hbox hg) | ((with_reducible refine gate_callee (f := 97) rfl ?_); refine goesL_ (some 14) rfl rfl Tryz.func97 (by kernel_rfl) rfl #[.string a0, .func (.func 98) #[] #[]] rfl (by (try simp only [List.map_toArray, List.map_cons, List.map_nil]); first | done | rfl | (simp only [List.length_drop, List.length_take]; rfl)) ?_; (with_reducible refine (lexer_run_isDigit.calls a0 t364 _ A2.out).mono ?_); rintro e w' ⟨rfl, ⟨nd, rfl⟩⟩; refine ⟨_, rfl, ?_⟩))
    (try simp only [Act.put, List.setIfInBounds_toArray, List.set_cons_zero, List.set_cons_succ])
    go_cut [8] (fun v8 wc => ∃ (kq : Nat) (x8_5 : Bool), v8 = .bool x8_5 ∧ Aside0 (lexer_number.j0 kq a0 t364 t364 0 x8_5 = some (r1, r2, r3, r4, r5, r6, r7)) ∧ Aside0 (kq ≤ k) ∧ Aside0 (wc.heap[gb363]? = some (.cells #[.int .i64 0, .string (⟨#[]⟩ : ByteArray), .int .i64 0, .int .i64 0, .int .i64 0] 29 (0, 0))) ∧ Aside0 (Below w.heap.size w wc))
    case first =>
      have H := HC6.out
      clear HC6
      by_cases c8 : t364 < (a0.size : Int)
      · rw [if_pos c8] at H
        have c8b0 : decide (t364 < (a0.size : Int)) = true := decide_eq_true c8
        clear c8
        (first | rw [c8b0] | (simp only [i64_w, i32_w]; rw [c8b0]) | skip)
        by_cases c9 : 0 ≤ t364
        · rw [if_pos c9] at H
          have c9b0 : decide (0 ≤ t364) = true := decide_eq_true c9
          clear c9
          have H' := Aside0.mk H
          clear H
          have p10 : 0 ≤ (t364 : Int) := of_decide_eq_true (by first | (with_reducible assumption) | assumption)
          have q10 : t364 < (a0.size : Int) := of_decide_eq_true (by first | (with_reducible assumption) | assumption)
          have hx10 := bt_at a0 t364
          replace p10 := eq_true p10
          replace q10 := eq_true q10
          go_wp2
          go_meet
          case rel => exact ⟨_, (((bt a0 t364) == 46)), (by first | rfl | (simp; done) | (simp [*]; done)), H', ⟨by first | omega | exact Nat.le_refl _⟩, ⟨by (with_reducible repeat (first | refine blk_drewN ?_ _ | refine blk_drew ?_ | refine blk_alloc ?_ _)); exact BK363.out⟩, ⟨by repeat (first | (with_reducible first | exact HB.out | apply below_alloc | apply pw_below_drewN | apply below_drew1 | refine below_set ?_ GE363.out) | exact HB.out)⟩⟩
        · rw [if_neg c9] at H
          exact absurd H (by simp)
      · rw [if_neg c8] at H
        have c8b0 : decide (t364 < (a0.size : Int)) = false := decide_eq_false c8
        clear c8
        (first | rw [c8b0] | (simp only [i64_w, i32_w]; rw [c8b0]) | skip)
        have H' := Aside0.mk H
        clear H
        go_wp2
        go_meet
        case rel => exact ⟨_, (false), (by first | rfl | (simp; done) | (simp [*]; done)), H', ⟨by first | omega | exact Nat.le_refl _⟩, ⟨by (with_reducible repeat (first | refine blk_drewN ?_ _ | refine blk_drew ?_ | refine blk_alloc ?_ _)); exact BK363.out⟩, ⟨by repeat (first | (with_reducible first | exact HB.out | apply below_alloc | apply pw_below_drewN | apply below_drew1 | refine below_set ?_ GE363.out) | exact HB.out)⟩⟩
    case rest =>
      clear HC6
      try clear p1
      try clear q1
      try clear hx1
      try clear p2
      try clear c3
      try clear c3b0
      try clear c3b1
      try clear c7
      try clear c8
      try clear c8b0
      try clear c9
      try clear c9b0
      try clear p10
      try clear q10
      try clear hx10
      try clear hcz5_0
      try clear hcz5_1
      try clear hcz5_2
      try clear hcz5_3
      try clear hcz5_4
      try clear hfz5_0
      try clear hfz5_1
      try clear hfz5_2
      try clear hfz5_3
      try clear hfz5_4
      try clear p10
      try clear q10
      obtain ⟨kq, x8_5, rfl, HA, HJ5, BK363, HB⟩ := hcut
      cases kq with
      | zero => exact absurd HA.out (by simp [lexer_number.j0])
      | succ kj5 =>
        have H := HA.out
        clear HA
        simp only [lexer_number.j0] at H
        have HC11 := Aside0.mk H
        clear H
        go_upto_if 29 with (fail)
        go_cut [7] (fun v7 wc => ∃ (kq : Nat) (x7_10 : Int), v7 = .int .i64 x7_10 ∧ Aside0 (lexer_number.j1 kq a0 t364 t364 x7_10 x8_5 = some (r1, r2, r3, r4, r5, r6, r7)) ∧ Aside0 (kq ≤ kj5) ∧ Aside0 (wc.heap[gb363]? = some (.cells #[.int .i64 0, .string (⟨#[]⟩ : ByteArray), .int .i64 0, .int .i64 0, .int .i64 0] 29 (0, 0))) ∧ Aside0 (Below w.heap.size w wc))
        case first =>
          have H := HC11.out
          clear HC11
          by_cases c12 : x8_5 = true
          · subst c12
            have H1 : (if 0 ≤ (wrap64 (t364 + 1)) then (if (wrap64 (t364 + 1)) ≤ (a0.size : Int) then ((lexer_run_isDigit.f (a0.extract ((wrap64 (t364 + 1)) : Int).toNat a0.size)).bind fun t365 => (lexer_number.j1 kj5 a0 t364 t364 t365 true)) else (none)) else (none)) = some (r1, r2, r3, r4, r5, r6, r7) := by rw [if_pos rfl] at H; exact H
            clear H
            have H := H1
            clear H1
            obtain ⟨ji13, hji13⟩ : ∃ j_ : Int, (wrap64 (t364 + 1)) = j_ := ⟨_, rfl⟩
            replace H : (if 0 ≤ (ji13) then (if (ji13) ≤ (a0.size : Int) then ((lexer_run_isDigit.f (a0.extract ((ji13) : Int).toNat a0.size)).bind fun t365 => (lexer_number.j1 kj5 a0 t364 t364 t365 true)) else (none)) else (none)) = some (r1, r2, r3, r4, r5, r6, r7) := by first | (rw [hji13] at H; exact H) | (simp only [hji13] at H ⊢; exact H)
            have hji13w : (IntKind.i64.wrap (t364 + 1)) = ji13 := (i64_w _).trans hji13
            by_cases c14 : 0 ≤ (ji13)
            · rw [if_pos c14] at H
              have c14b0 := eq_true c14
              have c14b1 : decide (0 ≤ (ji13)) = true := decide_eq_true c14
              clear c14
              by_cases c15 : (ji13) ≤ (a0.size : Int)
              · rw [if_pos c15] at H
                have c15b0 := eq_true c15
                have c15b1 : decide ((ji13) ≤ (a0.size : Int)) = true := decide_eq_true c15
                clear c15
                replace H := Option.bind_eq_some_iff.mp H
                obtain ⟨t365, A160, H⟩ := H
                replace H : (lexer_number.j1 kj5 a0 t364 t364 t365 true) = some (r1, r2, r3, r4, r5, r6, r7) := H
                have A16 := Aside0.mk A160
                clear A160
                have H' := Aside0.mk H
                clear H
                go_wp2_with (first | ((with_reducible refine gate_callee (f := 97) rfl ?_); refine goesL_ (some 34) rfl rfl Tryz.func97 (by kernel_rfl) rfl #[.string (a0.extract ((ji13) : Int).toNat a0.size), .func (.func 98) #[] #[]] rfl (by (try simp only [List.map_toArray, List.map_cons, List.map_nil]); first | done | (simp only [hji13]; rfl) | rfl | (simp only [List.length_drop, List.length_take]; rfl)) ?_; (with_reducible refine (lexer_run_isDigit.calls (a0.extract ((ji13) : Int).toNat a0.size) t365 _ A16.out).mono ?_); rintro e w' ⟨rfl, ⟨nd, rfl⟩⟩; refine ⟨_, rfl, ?_⟩))
                go_meet
                case rel => exact ⟨_, (t365), (by first | rfl | (simp; done) | (simp [*]; done)), H', ⟨by have := HJ5.out; first | omega | exact Nat.le_refl _⟩, ⟨by (with_reducible repeat (first | refine blk_drewN ?_ _ | refine blk_drew ?_ | refine blk_alloc ?_ _)); exact BK363.out⟩, ⟨by repeat (first | (with_reducible first | exact HB.out | apply below_alloc | apply pw_below_drewN | apply below_drew1 | refine below_set ?_ GE363.out) | exact HB.out)⟩⟩
              · rw [if_neg c15] at H
                exact absurd H (by simp)
            · rw [if_neg c14] at H
              exact absurd H (by simp)
          · replace c12 := Bool.eq_false_iff.mpr c12
            subst c12
            have H1 : (lexer_number.j1 kj5 a0 t364 t364 0 false) = some (r1, r2, r3, r4, r5, r6, r7) := by rw [if_neg (show ¬ (false = true) by decide)] at H; exact H
            clear H
            have H := H1
            clear H1
            have H' := Aside0.mk H
            clear H
            go_wp2
            go_meet
            case rel => exact ⟨_, (0), (by first | rfl | (simp; done) | (simp [*]; done)), H', ⟨by have := HJ5.out; first | omega | exact Nat.le_refl _⟩, ⟨by (with_reducible repeat (first | refine blk_drewN ?_ _ | refine blk_drew ?_ | refine blk_alloc ?_ _)); exact BK363.out⟩, ⟨by repeat (first | (with_reducible first | exact HB.out | apply below_alloc | apply pw_below_drewN | apply below_drew1 | refine below_set ?_ GE363.out) | exact HB.out)⟩⟩
        case rest =>
          (try clear hji13w)
          (try clear hji13)
          clear HC11
          try clear c1
          try clear p1
          try clear q1
          try clear hx1
          try clear p2
          try clear c3
          try clear c3b0
          try clear c3b1
          try clear p6
          try clear c7
          try clear c8
          try clear c8b0
          try clear c9
          try clear c9b0
          try clear p10
          try clear q10
          try clear hx10
          try clear c12
          try clear c14
          try clear c14b0
          try clear c14b1
          try clear c15
          try clear c15b0
          try clear c15b1
          try clear hcz5_0
          try clear hcz5_1
          try clear hcz5_2
          try clear hcz5_3
          try clear hcz5_4
          try clear hfz5_0
          try clear hfz5_1
          try clear hfz5_2
          try clear hfz5_3
          try clear hfz5_4
          try clear p1
          try clear p10
          try clear p2
          try clear q1
          try clear q10
          obtain ⟨kq, x7_10, rfl, HA, HJ10, BK363, HB⟩ := hcut
          cases kq with
          | zero => exact absurd HA.out (by simp [lexer_number.j1])
          | succ kj10 =>
            have H := HA.out
            clear HA
            simp only [lexer_number.j1] at H
            by_cases c17 : (wrap64 (t364 + x7_10)) > 18
            · rw [if_pos c17] at H
              have c17b0 : decide (18 < (wrap64 (t364 + x7_10))) = true := decide_eq_true c17
              clear c17
              simp only [Option.some.injEq, Prod.mk.injEq] at H
              obtain ⟨rfl, rfl, rfl, rfl, rfl, rfl, rfl⟩ := H
              have hcz18_0 : wc.cell? ⟨gb363, 0, none⟩ = some (.int .i64 0) := (blk_cell BK363.out 0).trans rfl
              have hcz18_1 : wc.cell? ⟨gb363, 1, none⟩ = some (.string (⟨#[]⟩ : ByteArray)) := (blk_cell BK363.out 1).trans rfl
              have hcz18_2 : wc.cell? ⟨gb363, 2, none⟩ = some (.int .i64 0) := (blk_cell BK363.out 2).trans rfl
              have hcz18_3 : wc.cell? ⟨gb363, 3, none⟩ = some (.int .i64 0) := (blk_cell BK363.out 3).trans rfl
              have hcz18_4 : wc.cell? ⟨gb363, 4, none⟩ = some (.int .i64 0) := (blk_cell BK363.out 4).trans rfl
              have hfz18_0 := blk_frozen BK363.out 0
              have hfz18_1 := blk_frozen BK363.out 1
              have hfz18_2 := blk_frozen BK363.out 2
              have hfz18_3 := blk_frozen BK363.out 3
              have hfz18_4 := blk_frozen BK363.out 4
              go_wp2
              refine bodyPost_ret (results_ctt rfl _ _ gb363 29 #[.int .i64 0, .string (⟨#[]⟩ : ByteArray), .int .i64 0, .int .i64 0, .int .i64 0] (0, 0) _ rfl (by (with_reducible repeat (first | refine blk_drewN ?_ _ | refine blk_drew ?_ | refine blk_alloc ?_ _)); refine blk_put (cs := #[.int .i64 0, .string (⟨#[]⟩ : ByteArray), .int .i64 0, .int .i64 0, .int .i64 0]) ?_ 4 _ rfl; (with_reducible repeat (first | refine blk_drewN ?_ _ | refine blk_drew ?_ | refine blk_alloc ?_ _)); refine blk_put (cs := #[.int .i64 0, .string (⟨#[]⟩ : ByteArray), .int .i64 0, .int .i64 0, .int .i64 0]) ?_ 3 _ rfl; (with_reducible repeat (first | refine blk_drewN ?_ _ | refine blk_drew ?_ | refine blk_alloc ?_ _)); refine blk_put (cs := #[.int .i64 0, .string (⟨#[]⟩ : ByteArray), .int .i64 0, .int .i64 0, .int .i64 0]) ?_ 2 _ rfl; (with_reducible repeat (first | refine blk_drewN ?_ _ | refine blk_drew ?_ | refine blk_alloc ?_ _)); refine blk_put (cs := #[.int .i64 0, .string (⟨#[]⟩ : ByteArray), .int .i64 0, .int .i64 0, .int .i64 0]) ?_ 1 _ rfl; (with_reducible repeat (first | refine blk_drewN ?_ _ | refine blk_drew ?_ | refine blk_alloc ?_ _)); refine blk_put (cs := #[.int .i64 0, .string (⟨#[]⟩ : ByteArray), .int .i64 0, .int .i64 0, .int .i64 0]) ?_ 0 _ rfl; (with_reducible repeat (first | refine blk_drewN ?_ _ | refine blk_drew ?_ | refine blk_alloc ?_ _)); exact BK363.out) Tryz.underlying29 rfl (by kernel_rfl)) rfl ?_
              exact ⟨by first | rfl | (simp [errW_none, errW_some] <;> rfl) | (simp [*, errW_none, errW_some] <;> rfl), by repeat (first | (with_reducible first | exact HB.out | apply below_alloc | apply pw_below_drewN | apply below_drew1 | refine below_set ?_ GE363.out) | exact HB.out)⟩
            · rw [if_neg c17] at H
              have c17b0 : decide (18 < (wrap64 (t364 + x7_10))) = false := decide_eq_false c17
              clear c17
              have HC19 := Aside0.mk H
              clear H
              go_upto_region 10 with (fail)
              go_cut [45] (fun v45 wc => ∃ (kq : Nat) (x45_18 : Bool), v45 = .bool x45_18 ∧ Aside0 (lexer_number.j2 kq a0 t364 x7_10 x8_5 x45_18 = some (r1, r2, r3, r4, r5, r6, r7)) ∧ Aside0 (kq ≤ kj10) ∧ Aside0 (wc.heap[gb363]? = some (.cells #[.int .i64 0, .string (⟨#[]⟩ : ByteArray), .int .i64 0, .int .i64 0, .int .i64 0] 29 (0, 0))) ∧ Aside0 (Below w.heap.size w wc))
              case first =>
                have H := HC19.out
                clear HC19
                by_cases c20 : x8_5 = true
                · subst c20
                  have H1 : (lexer_number.j2 kj10 a0 t364 x7_10 true (x7_10 == 0)) = some (r1, r2, r3, r4, r5, r6, r7) := by rw [if_pos rfl] at H; exact H
                  clear H
                  have H := H1
                  clear H1
                  have H' := Aside0.mk H
                  clear H
                  go_wp2
                  go_meet
                  case rel => exact ⟨_, ((x7_10 == 0)), (by first | rfl | (simp; done) | (simp [*]; done)), H', ⟨by have := HJ5.out; have := HJ10.out; first | omega | exact Nat.le_refl _⟩, ⟨by (with_reducible repeat (first | refine blk_drewN ?_ _ | refine blk_drew ?_ | refine blk_alloc ?_ _)); exact BK363.out⟩, ⟨by repeat (first | (with_reducible first | exact HB.out | apply below_alloc | apply pw_below_drewN | apply below_drew1 | refine below_set ?_ GE363.out) | exact HB.out)⟩⟩
                · replace c20 := Bool.eq_false_iff.mpr c20
                  subst c20
                  have H1 : (lexer_number.j2 kj10 a0 t364 x7_10 false false) = some (r1, r2, r3, r4, r5, r6, r7) := by rw [if_neg (show ¬ (false = true) by decide)] at H; exact H
                  clear H
                  have H := H1
                  clear H1
                  have H' := Aside0.mk H
                  clear H
                  go_wp2
                  go_meet
                  case rel => exact ⟨_, (false), (by first | rfl | (simp; done) | (simp [*]; done)), H', ⟨by have := HJ5.out; have := HJ10.out; first | omega | exact Nat.le_refl _⟩, ⟨by (with_reducible repeat (first | refine blk_drewN ?_ _ | refine blk_drew ?_ | refine blk_alloc ?_ _)); exact BK363.out⟩, ⟨by repeat (first | (with_reducible first | exact HB.out | apply below_alloc | apply pw_below_drewN | apply below_drew1 | refine below_set ?_ GE363.out) | exact HB.out)⟩⟩
              case rest =>
                (try clear hji13w)
                (try clear hji13)
                clear HC19
                try clear c1
                try clear p1
                try clear q1
                try clear hx1
                try clear c2
                try clear p2
                try clear c3
                try clear c3b0
                try clear c3b1
                try clear p6
                try clear c7
                try clear c8
                try clear c8b0
                try clear c9
                try clear c9b0
                try clear p10
                try clear q10
                try clear hx10
                try clear c12
                try clear c14
                try clear c14b0
                try clear c14b1
                try clear c15
                try clear c15b0
                try clear c15b1
                try clear c17
                try clear c17b0
                try clear c20
                try clear hcz18_0
                try clear hcz18_1
                try clear hcz18_2
                try clear hcz18_3
                try clear hcz18_4
                try clear hcz5_0
                try clear hcz5_1
                try clear hcz5_2
                try clear hcz5_3
                try clear hcz5_4
                try clear hfz18_0
                try clear hfz18_1
                try clear hfz18_2
                try clear hfz18_3
                try clear hfz18_4
                try clear hfz5_0
                try clear hfz5_1
                try clear hfz5_2
                try clear hfz5_3
                try clear hfz5_4
                try clear p1
                try clear p10
                try clear p2
                try clear p6
                try clear q1
                try clear q10
                obtain ⟨kq, x45_18, rfl, HA, HJ18, BK363, HB⟩ := hcut
                cases kq with
                | zero => exact absurd HA.out (by simp [lexer_number.j2])
                | succ kj18 =>
                  have H := HA.out
                  clear HA
                  simp only [lexer_number.j2] at H
                  by_cases c21 : x45_18 = true
                  · subst c21
                    have H1 : (some (0, (⟨#[]⟩ : ByteArray), 0, 0, 0, t364, 3)) = some (r1, r2, r3, r4, r5, r6, r7) := by rw [if_pos rfl] at H; exact H
                    clear H
                    have H := H1
                    clear H1
                    simp only [Option.some.injEq, Prod.mk.injEq] at H
                    obtain ⟨rfl, rfl, rfl, rfl, rfl, rfl, rfl⟩ := H
                    have hcz22_0 : wc.cell? ⟨gb363, 0, none⟩ = some (.int .i64 0) := (blk_cell BK363.out 0).trans rfl
                    have hcz22_1 : wc.cell? ⟨gb363, 1, none⟩ = some (.string (⟨#[]⟩ : ByteArray)) := (blk_cell BK363.out 1).trans rfl
                    have hcz22_2 : wc.cell? ⟨gb363, 2, none⟩ = some (.int .i64 0) := (blk_cell BK363.out 2).trans rfl
                    have hcz22_3 : wc.cell? ⟨gb363, 3, none⟩ = some (.int .i64 0) := (blk_cell BK363.out 3).trans rfl
                    have hcz22_4 : wc.cell? ⟨gb363, 4, none⟩ = some (.int .i64 0) := (blk_cell BK363.out 4).trans rfl
                    have hfz22_0 := blk_frozen BK363.out 0
                    have hfz22_1 := blk_frozen BK363.out 1
                    have hfz22_2 := blk_frozen BK363.out 2
                    have hfz22_3 := blk_frozen BK363.out 3
                    have hfz22_4 := blk_frozen BK363.out 4
                    go_wp2
                    refine bodyPost_ret (results_ctt rfl _ _ gb363 29 #[.int .i64 0, .string (⟨#[]⟩ : ByteArray), .int .i64 0, .int .i64 0, .int .i64 0] (0, 0) _ rfl (by (with_reducible repeat (first | refine blk_drewN ?_ _ | refine blk_drew ?_ | refine blk_alloc ?_ _)); refine blk_put (cs := #[.int .i64 0, .string (⟨#[]⟩ : ByteArray), .int .i64 0, .int .i64 0, .int .i64 0]) ?_ 4 _ rfl; (with_reducible repeat (first | refine blk_drewN ?_ _ | refine blk_drew ?_ | refine blk_alloc ?_ _)); refine blk_put (cs := #[.int .i64 0, .string (⟨#[]⟩ : ByteArray), .int .i64 0, .int .i64 0, .int .i64 0]) ?_ 3 _ rfl; (with_reducible repeat (first | refine blk_drewN ?_ _ | refine blk_drew ?_ | refine blk_alloc ?_ _)); refine blk_put (cs := #[.int .i64 0, .string (⟨#[]⟩ : ByteArray), .int .i64 0, .int .i64 0, .int .i64 0]) ?_ 2 _ rfl; (with_reducible repeat (first | refine blk_drewN ?_ _ | refine blk_drew ?_ | refine blk_alloc ?_ _)); refine blk_put (cs := #[.int .i64 0, .string (⟨#[]⟩ : ByteArray), .int .i64 0, .int .i64 0, .int .i64 0]) ?_ 1 _ rfl; (with_reducible repeat (first | refine blk_drewN ?_ _ | refine blk_drew ?_ | refine blk_alloc ?_ _)); refine blk_put (cs := #[.int .i64 0, .string (⟨#[]⟩ : ByteArray), .int .i64 0, .int .i64 0, .int .i64 0]) ?_ 0 _ rfl; (with_reducible repeat (first | refine blk_drewN ?_ _ | refine blk_drew ?_ | refine blk_alloc ?_ _)); exact BK363.out) Tryz.underlying29 rfl (by kernel_rfl)) rfl ?_
                    exact ⟨by first | rfl | (simp [errW_none, errW_some] <;> rfl) | (simp [*, errW_none, errW_some] <;> rfl), by repeat (first | (with_reducible first | exact HB.out | apply below_alloc | apply pw_below_drewN | apply below_drew1 | refine below_set ?_ GE363.out) | exact HB.out)⟩
                  · replace c21 := Bool.eq_false_iff.mpr c21
                    subst c21
                    have H1 : (if x8_5 = true then (lexer_number.j3 kj18 a0 (wrap64 (t364 + (wrap64 (1 + x7_10)))) x7_10) else (lexer_number.j3 kj18 a0 t364 x7_10)) = some (r1, r2, r3, r4, r5, r6, r7) := by rw [if_neg (show ¬ (false = true) by decide)] at H; exact H
                    clear H
                    have H := H1
                    clear H1
                    have HC23 := Aside0.mk H
                    clear H
                    go_upto_if 48 with (fail)
                    go_cut [6] (fun v6 wc => ∃ (kq : Nat) (x6_22 : Int), v6 = .int .i64 x6_22 ∧ Aside0 (lexer_number.j3 kq a0 x6_22 x7_10 = some (r1, r2, r3, r4, r5, r6, r7)) ∧ Aside0 (kq ≤ kj18) ∧ Aside0 (wc.heap[gb363]? = some (.cells #[.int .i64 0, .string (⟨#[]⟩ : ByteArray), .int .i64 0, .int .i64 0, .int .i64 0] 29 (0, 0))) ∧ Aside0 (Below w.heap.size w wc))
                    case first =>
                      have H := HC23.out
                      clear HC23
                      by_cases c24 : x8_5 = true
                      · subst c24
                        have H1 : (lexer_number.j3 kj18 a0 (wrap64 (t364 + (wrap64 (1 + x7_10)))) x7_10) = some (r1, r2, r3, r4, r5, r6, r7) := by rw [if_pos rfl] at H; exact H
                        clear H
                        have H := H1
                        clear H1
                        have H' := Aside0.mk H
                        clear H
                        go_wp2
                        go_meet
                        case rel => exact ⟨_, (wrap64 (t364 + (wrap64 (1 + x7_10)))), (by first | rfl | (simp; done) | (simp [*]; done)), H', ⟨by have := HJ5.out; have := HJ10.out; have := HJ18.out; first | omega | exact Nat.le_refl _⟩, ⟨by (with_reducible repeat (first | refine blk_drewN ?_ _ | refine blk_drew ?_ | refine blk_alloc ?_ _)); exact BK363.out⟩, ⟨by repeat (first | (with_reducible first | exact HB.out | apply below_alloc | apply pw_below_drewN | apply below_drew1 | refine below_set ?_ GE363.out) | exact HB.out)⟩⟩
                      · replace c24 := Bool.eq_false_iff.mpr c24
                        subst c24
                        have H1 : (lexer_number.j3 kj18 a0 t364 x7_10) = some (r1, r2, r3, r4, r5, r6, r7) := by rw [if_neg (show ¬ (false = true) by decide)] at H; exact H
                        clear H
                        have H := H1
                        clear H1
                        have H' := Aside0.mk H
                        clear H
                        go_wp2
                        go_meet
                        case rel => exact ⟨_, (t364), (by first | rfl | (simp; done) | (simp [*]; done)), H', ⟨by have := HJ5.out; have := HJ10.out; have := HJ18.out; first | omega | exact Nat.le_refl _⟩, ⟨by (with_reducible repeat (first | refine blk_drewN ?_ _ | refine blk_drew ?_ | refine blk_alloc ?_ _)); exact BK363.out⟩, ⟨by repeat (first | (with_reducible first | exact HB.out | apply below_alloc | apply pw_below_drewN | apply below_drew1 | refine below_set ?_ GE363.out) | exact HB.out)⟩⟩
                    case rest =>
                      (try clear hji13w)
                      (try clear hji13)
                      clear HC23
                      try clear c1
                      try clear p1
                      try clear q1
                      try clear hx1
                      try clear c2
                      try clear p2
                      try clear c3
                      try clear c3b0
                      try clear c3b1
                      try clear p6
                      try clear c7
                      try clear c8
                      try clear c8b0
                      try clear c9
                      try clear c9b0
                      try clear p10
                      try clear q10
                      try clear hx10
                      try clear c12
                      try clear c14
                      try clear c14b0
                      try clear c14b1
                      try clear c15
                      try clear c15b0
                      try clear c15b1
                      try clear c17
                      try clear c17b0
                      try clear c20
                      try clear c21
                      try clear c24
                      try clear hcz18_0
                      try clear hcz18_1
                      try clear hcz18_2
                      try clear hcz18_3
                      try clear hcz18_4
                      try clear hcz22_0
                      try clear hcz22_1
                      try clear hcz22_2
                      try clear hcz22_3
                      try clear hcz22_4
                      try clear hcz5_0
                      try clear hcz5_1
                      try clear hcz5_2
                      try clear hcz5_3
                      try clear hcz5_4
                      try clear hfz18_0
                      try clear hfz18_1
                      try clear hfz18_2
                      try clear hfz18_3
                      try clear hfz18_4
                      try clear hfz22_0
                      try clear hfz22_1
                      try clear hfz22_2
                      try clear hfz22_3
                      try clear hfz22_4
                      try clear hfz5_0
                      try clear hfz5_1
                      try clear hfz5_2
                      try clear hfz5_3
                      try clear hfz5_4
                      try clear p1
                      try clear p10
                      try clear p2
                      try clear p6
                      try clear q1
                      try clear q10
                      obtain ⟨kq, x6_22, rfl, HA, HJ22, BK363, HB⟩ := hcut
                      cases kq with
                      | zero => exact absurd HA.out (by simp [lexer_number.j3])
                      | succ kj22 =>
                        have H := HA.out
                        clear HA
                        simp only [lexer_number.j3] at H
                        by_cases c25 : 0 ≤ x6_22
                        · rw [if_pos c25] at H
                          have c25b0 := eq_true c25
                          have c25b1 : decide (0 ≤ x6_22) = true := decide_eq_true c25
                          clear c25
                          by_cases c26 : x6_22 ≤ (a0.size : Int)
                          · rw [if_pos c26] at H
                            have c26b0 := eq_true c26
                            have c26b1 : decide (x6_22 ≤ (a0.size : Int)) = true := decide_eq_true c26
                            clear c26
                            replace H := Option.bind_eq_some_iff.mp H
                            obtain ⟨t366, A270, H⟩ := H
                            replace H : (if t366 = true then (some (0, (⟨#[]⟩ : ByteArray), 0, 0, 0, x6_22, 3)) else ((strings_Replace.f (a0.extract 0 (x6_22 : Int).toNat) (⟨#[46]⟩ : ByteArray) (⟨#[]⟩ : ByteArray) 1).bind fun t367 => ((strconv_Atoi.f t367).bind fun bt368 => (if bt368.2.isNone = true then ((lexer_power.f kj22 x7_10).bind fun t371 => ((ratio_Make.f bt368.1 t371).bind fun bt372 => (if bt372.2.2 = 0 then (some (2, a0.extract 0 (x6_22 : Int).toNat, bt372.1, bt372.2.1, 0, x6_22, 0)) else (some (0, (⟨#[]⟩ : ByteArray), 0, 0, 0, x6_22, 4))))) else (some (0, (⟨#[]⟩ : ByteArray), 0, 0, 0, x6_22, 4)))))) = some (r1, r2, r3, r4, r5, r6, r7) := H
                            have A27 := Aside0.mk A270
                            clear A270
                            by_cases c28 : t366 = true
                            · subst c28
                              have H1 : (some (0, (⟨#[]⟩ : ByteArray), 0, 0, 0, x6_22, 3)) = some (r1, r2, r3, r4, r5, r6, r7) := by rw [if_pos rfl] at H; exact H
                              clear H
                              have H := H1
                              clear H1
                              simp only [Option.some.injEq, Prod.mk.injEq] at H
                              obtain ⟨rfl, rfl, rfl, rfl, rfl, rfl, rfl⟩ := H
                              go_wp2_with (first | ((with_reducible refine gate_callee (f := 101) rfl ?_); refine goesL_ (some 56) rfl rfl Tryz.func101 (by kernel_rfl) rfl #[.string (a0.extract (x6_22 : Int).toNat a0.size)] rfl (by (try simp only [List.map_toArray, List.map_cons, List.map_nil]); first | done | rfl | (simp only [List.length_drop, List.length_take]; rfl)) ?_; (with_reducible refine (lexer_continues.calls (a0.extract (x6_22 : Int).toNat a0.size) true _ A27.out).mono ?_); rintro e w' ⟨rfl, ⟨nd, rfl⟩⟩; refine ⟨_, rfl, ?_⟩; (try (rw [drewN_self wc]; generalize hq_ : World.drewN wc _ = wc; have n0_ : Aside0 (wc.heap[gb363]? = some (.cells #[.int .i64 0, .string (⟨#[]⟩ : ByteArray), .int .i64 0, .int .i64 0, .int .i64 0] 29 (0, 0))) := ⟨by rw [← hq_]; exact (by (with_reducible repeat (first | refine blk_drewN ?_ _ | refine blk_drew ?_ | refine blk_alloc ?_ _)); exact BK363.out)⟩; have n1_ : Aside0 (Below w.heap.size w wc) := ⟨by rw [← hq_]; exact (by repeat (first | (with_reducible first | exact HB.out | apply below_alloc | apply pw_below_drewN | apply below_drew1 | refine below_set ?_ GE363.out) | exact HB.out))⟩; clear BK363 HB hq_; have BK363 := n0_; have HB := n1_; clear n0_ n1_)); have hcz29_0 : wc.cell? ⟨gb363, 0, none⟩ = some (.int .i64 0) := (blk_cell BK363.out 0).trans rfl; have hcz29_1 : wc.cell? ⟨gb363, 1, none⟩ = some (.string (⟨#[]⟩ : ByteArray)) := (blk_cell BK363.out 1).trans rfl; have hcz29_2 : wc.cell? ⟨gb363, 2, none⟩ = some (.int .i64 0) := (blk_cell BK363.out 2).trans rfl; have hcz29_3 : wc.cell? ⟨gb363, 3, none⟩ = some (.int .i64 0) := (blk_cell BK363.out 3).trans rfl; have hcz29_4 : wc.cell? ⟨gb363, 4, none⟩ = some (.int .i64 0) := (blk_cell BK363.out 4).trans rfl; have hfz29_0 := blk_frozen BK363.out 0; have hfz29_1 := blk_frozen BK363.out 1; have hfz29_2 := blk_frozen BK363.out 2; have hfz29_3 := blk_frozen BK363.out 3; have hfz29_4 := blk_frozen BK363.out 4))
                              refine bodyPost_ret (results_ctt rfl _ _ gb363 29 #[.int .i64 0, .string (⟨#[]⟩ : ByteArray), .int .i64 0, .int .i64 0, .int .i64 0] (0, 0) _ rfl (by (with_reducible repeat (first | refine blk_drewN ?_ _ | refine blk_drew ?_ | refine blk_alloc ?_ _)); refine blk_put (cs := #[.int .i64 0, .string (⟨#[]⟩ : ByteArray), .int .i64 0, .int .i64 0, .int .i64 0]) ?_ 4 _ rfl; (with_reducible repeat (first | refine blk_drewN ?_ _ | refine blk_drew ?_ | refine blk_alloc ?_ _)); refine blk_put (cs := #[.int .i64 0, .string (⟨#[]⟩ : ByteArray), .int .i64 0, .int .i64 0, .int .i64 0]) ?_ 3 _ rfl; (with_reducible repeat (first | refine blk_drewN ?_ _ | refine blk_drew ?_ | refine blk_alloc ?_ _)); refine blk_put (cs := #[.int .i64 0, .string (⟨#[]⟩ : ByteArray), .int .i64 0, .int .i64 0, .int .i64 0]) ?_ 2 _ rfl; (with_reducible repeat (first | refine blk_drewN ?_ _ | refine blk_drew ?_ | refine blk_alloc ?_ _)); refine blk_put (cs := #[.int .i64 0, .string (⟨#[]⟩ : ByteArray), .int .i64 0, .int .i64 0, .int .i64 0]) ?_ 1 _ rfl; (with_reducible repeat (first | refine blk_drewN ?_ _ | refine blk_drew ?_ | refine blk_alloc ?_ _)); refine blk_put (cs := #[.int .i64 0, .string (⟨#[]⟩ : ByteArray), .int .i64 0, .int .i64 0, .int .i64 0]) ?_ 0 _ rfl; (with_reducible repeat (first | refine blk_drewN ?_ _ | refine blk_drew ?_ | refine blk_alloc ?_ _)); exact BK363.out) Tryz.underlying29 rfl (by kernel_rfl)) rfl ?_
                              exact ⟨by first | rfl | (simp [errW_none, errW_some] <;> rfl) | (simp [*, errW_none, errW_some] <;> rfl), by repeat (first | (with_reducible first | exact HB.out | apply below_alloc | apply pw_below_drewN | apply below_drew1 | refine below_set ?_ GE363.out) | exact HB.out)⟩
                            · replace c28 := Bool.eq_false_iff.mpr c28
                              subst c28
                              have H1 : ((strings_Replace.f (a0.extract 0 (x6_22 : Int).toNat) (⟨#[46]⟩ : ByteArray) (⟨#[]⟩ : ByteArray) 1).bind fun t367 => ((strconv_Atoi.f t367).bind fun bt368 => (if bt368.2.isNone = true then ((lexer_power.f kj22 x7_10).bind fun t371 => ((ratio_Make.f bt368.1 t371).bind fun bt372 => (if bt372.2.2 = 0 then (some (2, a0.extract 0 (x6_22 : Int).toNat, bt372.1, bt372.2.1, 0, x6_22, 0)) else (some (0, (⟨#[]⟩ : ByteArray), 0, 0, 0, x6_22, 4))))) else (some (0, (⟨#[]⟩ : ByteArray), 0, 0, 0, x6_22, 4))))) = some (r1, r2, r3, r4, r5, r6, r7) := by rw [if_neg (show ¬ (false = true) by decide)] at H; exact H
                              clear H
                              have H := H1
                              clear H1
                              have c30b0 := eq_true (of_decide_eq_true (by first | (with_reducible assumption) | assumption) : 0 ≤ x6_22)
                              have c31b0 := eq_true (of_decide_eq_true (by first | (with_reducible assumption) | assumption) : x6_22 ≤ (a0.size : Int))
                              replace H := Option.bind_eq_some_iff.mp H
                              obtain ⟨t367, A320, H⟩ := H
                              replace H : ((strconv_Atoi.f t367).bind fun bt368 => (if bt368.2.isNone = true then ((lexer_power.f kj22 x7_10).bind fun t371 => ((ratio_Make.f bt368.1 t371).bind fun bt372 => (if bt372.2.2 = 0 then (some (2, a0.extract 0 (x6_22 : Int).toNat, bt372.1, bt372.2.1, 0, x6_22, 0)) else (some (0, (⟨#[]⟩ : ByteArray), 0, 0, 0, x6_22, 4))))) else (some (0, (⟨#[]⟩ : ByteArray), 0, 0, 0, x6_22, 4)))) = some (r1, r2, r3, r4, r5, r6, r7) := H
                              have A32 := Aside0.mk A320
                              clear A320
                              replace H := Option.bind_eq_some_iff.mp H
                              obtain ⟨⟨t368, t369⟩, A330, H⟩ := H
                              replace H : (if t369.isNone = true then ((lexer_power.f kj22 x7_10).bind fun t371 => ((ratio_Make.f t368 t371).bind fun bt372 => (if bt372.2.2 = 0 then (some (2, a0.extract 0 (x6_22 : Int).toNat, bt372.1, bt372.2.1, 0, x6_22, 0)) else (some (0, (⟨#[]⟩ : ByteArray), 0, 0, 0, x6_22, 4))))) else (some (0, (⟨#[]⟩ : ByteArray), 0, 0, 0, x6_22, 4))) = some (r1, r2, r3, r4, r5, r6, r7) := H
                              have A33 := Aside0.mk A330
                              clear A330
                              rcases t369 with _ | q370
                              · have H1 : ((lexer_power.f kj22 x7_10).bind fun t371 => ((ratio_Make.f t368 t371).bind fun bt372 => (if bt372.2.2 = 0 then (some (2, a0.extract 0 (x6_22 : Int).toNat, bt372.1, bt372.2.1, 0, x6_22, 0)) else (some (0, (⟨#[]⟩ : ByteArray), 0, 0, 0, x6_22, 4))))) = some (r1, r2, r3, r4, r5, r6, r7) := by rw [if_pos (show (none : Option Int).isNone = true by rfl)] at H; exact H
                                clear H
                                have H := H1
                                clear H1
                                try simp only [errW_none, errW_some]
                                replace H := Option.bind_eq_some_iff.mp H
                                obtain ⟨t371, A340, H⟩ := H
                                replace H : ((ratio_Make.f t368 t371).bind fun bt372 => (if bt372.2.2 = 0 then (some (2, a0.extract 0 (x6_22 : Int).toNat, bt372.1, bt372.2.1, 0, x6_22, 0)) else (some (0, (⟨#[]⟩ : ByteArray), 0, 0, 0, x6_22, 4)))) = some (r1, r2, r3, r4, r5, r6, r7) := H
                                have A34 := Aside0.mk A340
                                clear A340
                                replace H := Option.bind_eq_some_iff.mp H
                                obtain ⟨⟨t372, t373, t374⟩, A350, H⟩ := H
                                replace H : (if t374 = 0 then (some (2, a0.extract 0 (x6_22 : Int).toNat, t372, t373, 0, x6_22, 0)) else (some (0, (⟨#[]⟩ : ByteArray), 0, 0, 0, x6_22, 4))) = some (r1, r2, r3, r4, r5, r6, r7) := H
                                have A35 := Aside0.mk A350
                                clear A350
                                by_cases c36 : t374 = 0
                                · rw [if_pos c36] at H
                                  have c36b0 : (t374 == 0) = true := beq_iff_eq.mpr c36
                                  have c36b1 : (t374 != 0) = false := bne_eq_false_iff_eq.mpr c36
                                  clear c36
                                  have c37b0 := eq_true (of_decide_eq_true (by first | (with_reducible assumption) | assumption) : 0 ≤ x6_22)
                                  have c38b0 := eq_true (of_decide_eq_true (by first | (with_reducible assumption) | assumption) : x6_22 ≤ (a0.size : Int))
                                  simp only [Option.some.injEq, Prod.mk.injEq] at H
                                  obtain ⟨rfl, rfl, rfl, rfl, rfl, rfl, rfl⟩ := H
                                  try go_wp2_with (first | ((with_reducible refine gate_callee (f := 101) rfl ?_); refine goesL_ (some 56) rfl rfl Tryz.func101 (by kernel_rfl) rfl #[.string (a0.extract (x6_22 : Int).toNat a0.size)] rfl (by (try simp only [List.map_toArray, List.map_cons, List.map_nil]); first | done | rfl | (simp only [List.length_drop, List.length_take]; rfl)) ?_; (with_reducible refine (lexer_continues.calls (a0.extract (x6_22 : Int).toNat a0.size) false _ A27.out).mono ?_); rintro e w' ⟨rfl, ⟨nd, rfl⟩⟩; refine ⟨_, rfl, ?_⟩; (try (rw [drewN_self wc]; generalize hq_ : World.drewN wc _ = wc; have n0_ : Aside0 (wc.heap[gb363]? = some (.cells #[.int .i64 0, .string (⟨#[]⟩ : ByteArray), .int .i64 0, .int .i64 0, .int .i64 0] 29 (0, 0))) := ⟨by rw [← hq_]; exact (by (with_reducible repeat (first | refine blk_drewN ?_ _ | refine blk_drew ?_ | refine blk_alloc ?_ _)); exact BK363.out)⟩; have n1_ : Aside0 (Below w.heap.size w wc) := ⟨by rw [← hq_]; exact (by repeat (first | (with_reducible first | exact HB.out | apply below_alloc | apply pw_below_drewN | apply below_drew1 | refine below_set ?_ GE363.out) | exact HB.out))⟩; clear BK363 HB hq_; have BK363 := n0_; have HB := n1_; clear n0_ n1_))) | ((with_reducible refine gate_callee (f := 102) rfl ?_); refine goesL_ (some 63) rfl rfl Tryz.func102 (by kernel_rfl) rfl #[.string (a0.extract 0 (x6_22 : Int).toNat), .string (⟨#[46]⟩ : ByteArray), .string (⟨#[]⟩ : ByteArray), .int .i64 1] rfl (by (try simp only [List.map_toArray, List.map_cons, List.map_nil]); first | done | rfl | (simp only [List.length_drop, List.length_take]; rfl)) ?_; (with_reducible refine (strings_Replace.calls (a0.extract 0 (x6_22 : Int).toNat) (⟨#[46]⟩ : ByteArray) (⟨#[]⟩ : ByteArray) 1 t367 _ ?side1 A32.out).mono ?_); (case side1 => exact Tabs.below HT.out (by repeat (first | (with_reducible first | exact HB.out | apply below_alloc | apply pw_below_drewN | apply below_drew1 | refine below_set ?_ GE363.out) | exact HB.out))); rintro e w39 ⟨rfl, hb⟩; refine ⟨_, rfl, ?_⟩; have n0_ := Aside0.mk (blk_below (g := gb363) (o := .cells #[.int .i64 0, .string (⟨#[]⟩ : ByteArray), .int .i64 0, .int .i64 0, .int .i64 0] 29 (0, 0)) (by (with_reducible repeat (first | refine blk_drewN ?_ _ | refine blk_drew ?_ | refine blk_alloc ?_ _)); exact BK363.out) hb); have n1_ := Aside0.mk (below_step (by repeat (first | (with_reducible first | exact HB.out | apply below_alloc | apply pw_below_drewN | apply below_drew1 | refine below_set ?_ GE363.out) | exact HB.out)) hb); clear BK363; clear HB; have BK363 := n0_; have HB := n1_; clear n0_ n1_; (try clear hb); (try clear hb2); (try clear hk); (try clear hi)) | ((with_reducible refine gate_callee (f := 100) rfl ?_); refine goesL_ (some 64) rfl rfl Tryz.func100 (by kernel_rfl) rfl #[.string t367] rfl (by (try simp only [List.map_toArray, List.map_cons, List.map_nil]); first | done | rfl | (simp only [List.length_drop, List.length_take]; rfl)) ?_; (with_reducible refine (strconv_Atoi.calls t367 t368 none _ ?side1 A33.out).mono ?_); (case side1 => exact Tabs.below HT.out (by repeat (first | (with_reducible first | exact HB.out | apply below_alloc | apply pw_below_drewN | apply below_drew1 | refine below_set ?_ GE363.out) | exact HB.out))); rintro e w40 ⟨rfl, hb⟩; refine ⟨_, rfl, ?_⟩; have n0_ := Aside0.mk (blk_below (g := gb363) (o := .cells #[.int .i64 0, .string (⟨#[]⟩ : ByteArray), .int .i64 0, .int .i64 0, .int .i64 0] 29 (0, 0)) (by (with_reducible repeat (first | refine blk_drewN ?_ _ | refine blk_drew ?_ | refine blk_alloc ?_ _)); exact BK363.out) hb); have n1_ := Aside0.mk (below_step (by repeat (first | (with_reducible first | exact HB.out | apply below_alloc | apply pw_below_drewN | apply below_drew1 | refine below_set ?_ GE363.out) | exact HB.out)) hb); clear BK363; clear HB; have BK363 := n0_; have HB := n1_; clear n0_ n1_; (try clear hb); (try clear hb2); (try clear hk); (try clear hi); (try simp only [errW_none, errW_some])) | ((with_reducible refine gate_callee (f := 104) rfl ?_); refine goesL_ (some 74) rfl rfl Tryz.func104 (by kernel_rfl) rfl #[.int .i64 x7_10] rfl (by (try simp only [List.map_toArray, List.map_cons, List.map_nil]); first | done | rfl | (simp only [List.length_drop, List.length_take]; rfl)) ?_; (with_reducible refine (lexer_power.calls kj22 x7_10 t371 _ A34.out).mono ?_); rintro e w' ⟨rfl, ⟨nd, rfl⟩⟩; refine ⟨_, rfl, ?_⟩; (try (rw [drewN_self w40]; generalize hq_ : World.drewN w40 _ = w40; have n0_ : Aside0 (w40.heap[gb363]? = some (.cells #[.int .i64 0, .string (⟨#[]⟩ : ByteArray), .int .i64 0, .int .i64 0, .int .i64 0] 29 (0, 0))) := ⟨by rw [← hq_]; exact (by (with_reducible repeat (first | refine blk_drewN ?_ _ | refine blk_drew ?_ | refine blk_alloc ?_ _)); exact BK363.out)⟩; have n1_ : Aside0 (Below w.heap.size w w40) := ⟨by rw [← hq_]; exact (by repeat (first | (with_reducible first | exact HB.out | apply below_alloc | apply pw_below_drewN | apply below_drew1 | refine below_set ?_ GE363.out) | exact HB.out))⟩; clear BK363 HB hq_; have BK363 := n0_; have HB := n1_; clear n0_ n1_))) | ((with_reducible refine gate_callee (f := 103) rfl ?_); refine goesL_ (some 75) rfl rfl Tryz.func103 (by kernel_rfl) rfl #[.int .i64 t368, .int .i64 t371] rfl (by (try simp only [List.map_toArray, List.map_cons, List.map_nil]); first | done | rfl | (simp only [List.length_drop, List.length_take]; rfl)) ?_; (with_reducible refine (ratio_Make.calls t368 t371 t372 t373 t374 _ A35.out).mono ?_); rintro e w41 ⟨rfl, hb⟩; refine ⟨_, rfl, ?_⟩; have n0_ := Aside0.mk (blk_below (g := gb363) (o := .cells #[.int .i64 0, .string (⟨#[]⟩ : ByteArray), .int .i64 0, .int .i64 0, .int .i64 0] 29 (0, 0)) (by (with_reducible repeat (first | refine blk_drewN ?_ _ | refine blk_drew ?_ | refine blk_alloc ?_ _)); exact BK363.out) hb); have n1_ := Aside0.mk (below_step (by repeat (first | (with_reducible first | exact HB.out | apply below_alloc | apply pw_below_drewN | apply below_drew1 | refine below_set ?_ GE363.out) | exact HB.out)) hb); clear BK363; clear HB; have BK363 := n0_; have HB := n1_; clear n0_ n1_; (try clear hb); (try clear hb2); (try clear hk); (try clear hi)) | ((with_reducible refine gate_dst (N := 11) rfl ?_); refine box_event ?hg (N := 11) ?hd (cs := #[.int .i64 0, .int .i64 0]) (t := 27) ?hr ?_; (case hd => rfl); (case hg => rfl); (case hr => first | (go_simp; done) | (go_simp; rfl)); intro gb375 hg w42 hbox hb; have n0_ := Aside0.mk (blk_below (g := gb363) (o := .cells #[.int .i64 0, .string (⟨#[]⟩ : ByteArray), .int .i64 0, .int .i64 0, .int .i64 0] 29 (0, 0)) (by (with_reducible repeat (first | refine blk_drewN ?_ _ | refine blk_drew ?_ | refine blk_alloc ?_ _)); exact BK363.out) hb); have n1_ := Aside0.mk (below_step (by repeat (first | (with_reducible first | exact HB.out | apply below_alloc | apply pw_below_drewN | apply below_drew1 | refine below_set ?_ GE363.out) | exact HB.out)) hb); have n2_ := Aside0.mk (hbox); have n3_ := Aside0.mk ((by rw [hg]; exact (below_size (by repeat (first | (with_reducible first | exact HB.out | apply below_alloc | apply pw_below_drewN | apply below_drew1 | refine below_set ?_ GE363.out) | exact HB.out))) : w.heap.size ≤ gb375)); have n4_ := Aside0.mk ((by rw [hg]; exact (below_size (by repeat (first | (with_reducible first | exact HB.out | apply below_alloc | apply pw_below_drewN | apply below_drew1 | refine below_set ?_ GE363.out) | exact HB.out))) : w.heap.size ≤ gb375)); have n5_ := Aside0.mk ((by rw [hg]; exact Nat.ne_of_lt (blk_lt (g := gb363) (o := .cells #[.int .i64 0, .string (⟨#[]⟩ : ByteArray), .int .i64 0, .int .i64 0, .int .i64 0] 29 (0, 0)) (by (with_reducible repeat (first | refine blk_drewN ?_ _ | refine blk_drew ?_ | refine blk_alloc ?_ _)); exact BK363.out)) : gb363 ≠ gb375)); have n6_ := Aside0.mk ((by rw [hg]; exact Nat.ne_of_gt (blk_lt (g := gb363) (o := .cells #[.int .i64 0, .string (⟨#[]⟩ : ByteArray), .int .i64 0, .int .i64 0, .int .i64 0] 29 (0, 0)) (by (with_reducible repeat (first | refine blk_drewN ?_ _ | refine blk_drew ?_ | refine blk_alloc ?_ _)); exact BK363.out)) : gb375 ≠ gb363)); clear BK363; clear HB; have BK363 := n0_; have HB := n1_; have BK375 := n2_; have GW375 := n3_; have GE375 := n4_; have NB363_375 := n5_; have NB375_363 := n6_; clear n0_ n1_ n2_ n3_ n4_ n5_ n6_; clear hb hbox hg; have hnb43 := NB375_363.out; have hnc43 := NB363_375.out; have hcz44_0 : w42.cell? ⟨gb375, 0, none⟩ = some (.int .i64 0) := (blk_cell BK375.out 0).trans rfl; have hcz44_1 : w42.cell? ⟨gb375, 1, none⟩ = some (.int .i64 0) := (blk_cell BK375.out 1).trans rfl; have hfz44_0 := blk_frozen BK375.out 0; have hfz44_1 := blk_frozen BK375.out 1))
                                  have n0_ : Aside0 (((w42.setCell ⟨gb375, 0, none⟩ (.int .i64 t372)).setCell ⟨gb375, 1, none⟩ (.int .i64 t373)).heap[gb363]? = some (.cells #[.int .i64 0, .string (⟨#[]⟩ : ByteArray), .int .i64 0, .int .i64 0, .int .i64 0] 29 (0, 0))) := ⟨by (with_reducible repeat (first | refine blk_drewN ?_ _ | refine blk_drew ?_ | refine blk_alloc ?_ _)); refine blk_far ?_ NB363_375.out _; (with_reducible repeat (first | refine blk_drewN ?_ _ | refine blk_drew ?_ | refine blk_alloc ?_ _)); refine blk_far ?_ NB363_375.out _; (with_reducible repeat (first | refine blk_drewN ?_ _ | refine blk_drew ?_ | refine blk_alloc ?_ _)); exact BK363.out⟩
                                  have n1_ : Aside0 (((w42.setCell ⟨gb375, 0, none⟩ (.int .i64 t372)).setCell ⟨gb375, 1, none⟩ (.int .i64 t373)).heap[gb375]? = some (.cells #[.int .i64 t372, .int .i64 t373] 27 (0, 0))) := ⟨by (with_reducible repeat (first | refine blk_drewN ?_ _ | refine blk_drew ?_ | refine blk_alloc ?_ _)); refine blk_put (cs := #[.int .i64 t372, .int .i64 0]) ?_ 1 _ rfl; (with_reducible repeat (first | refine blk_drewN ?_ _ | refine blk_drew ?_ | refine blk_alloc ?_ _)); refine blk_put (cs := #[.int .i64 0, .int .i64 0]) ?_ 0 _ rfl; (with_reducible repeat (first | refine blk_drewN ?_ _ | refine blk_drew ?_ | refine blk_alloc ?_ _)); exact BK375.out⟩
                                  have n2_ : Aside0 (Below w.heap.size w ((w42.setCell ⟨gb375, 0, none⟩ (.int .i64 t372)).setCell ⟨gb375, 1, none⟩ (.int .i64 t373))) := ⟨by repeat (first | (with_reducible first | exact HB.out | apply below_alloc | apply pw_below_drewN | apply below_drew1 | refine below_set ?_ GE363.out | refine below_set ?_ GE375.out) | exact HB.out)⟩
                                  (try clear BK363)
                                  (try clear BK375)
                                  (try clear HB)
                                  generalize ((w42.setCell ⟨gb375, 0, none⟩ (.int .i64 t372)).setCell ⟨gb375, 1, none⟩ (.int .i64 t373)) = w45 at n0_ n1_ n2_ ⊢
                                  have BK363 := n0_
                                  have BK375 := n1_
                                  have HB := n2_
                                  clear n0_ n1_ n2_
                                  have n0_ := Aside0.mk (blk_drew BK363.out)
                                  have n1_ := Aside0.mk (blk_drew BK375.out)
                                  have n2_ := Aside0.mk (below_drew1 HB.out)
                                  clear BK363
                                  clear BK375
                                  clear HB
                                  have BK363 := n0_
                                  have BK375 := n1_
                                  have HB := n2_
                                  clear n0_ n1_ n2_
                                  refine start_ (n := 9) (S := fun w' => w'.cell? ⟨gb375, 0, none⟩ = some (.int .i64 t372) ∧ w'.cell? ⟨gb375, 1, none⟩ = some (.int .i64 t373)) (ds := []) #[false, false, false, false, false, false, false, false, false] (by kernel_rfl) rfl rfl ⟨(blk_cell BK375.out 0).trans rfl, (blk_cell BK375.out 1).trans rfl⟩ (fun hHeld => ?_); refine with_tabW lexer_number.tab22 lexer_number.bits22 (fun HT_ HW_ => ?_)
                                  generalize w45.drew = w46 at BK363 BK375 HB hHeld ⊢
                                  refine pure_ (i := 0) (N := some 82) (v := ?_) (a' := ?_) #[true, false, false, false, false, false, false, false, false] rfl rfl (any_of HT_.out (by kernel_rfl)) (fun _ _ _ h => h) (Or.inl ⟨by rfl, ?_⟩) ?_ ?_
                                  rotate_left
                                  · intro w'
                                    go_simp
                                    with_reducible rfl
                                  rotate_left
                                  · simp only [Act.put, List.setIfInBounds_toArray, List.set_cons_zero, List.set_cons_succ, i64_w, i32_w]
                                    rfl
                                  refine pure_ (i := 1) (N := some 83) (v := ?_) (a' := ?_) #[true, true, false, false, false, false, false, false, false] rfl rfl (any_of HT_.out (by kernel_rfl)) (fun _ _ _ h => h) (Or.inl ⟨by rfl, ?_⟩) ?_ ?_
                                  rotate_left
                                  · intro w'
                                    go_simp
                                    with_reducible rfl
                                  rotate_left
                                  · simp only [Act.put, List.setIfInBounds_toArray, List.set_cons_zero, List.set_cons_succ, i64_w, i32_w]
                                    rfl
                                  refine pure_ (i := 2) (N := some 84) (v := ?_) (a' := ?_) #[true, true, true, false, false, false, false, false, false] rfl rfl (any_of HT_.out (by kernel_rfl)) (fun _ _ _ h => h) (Or.inl ⟨by rfl, ?_⟩) ?_ ?_
                                  rotate_left
                                  · intro w'
                                    go_simp
                                    with_reducible rfl
                                  rotate_left
                                  · simp only [Act.put, List.setIfInBounds_toArray, List.set_cons_zero, List.set_cons_succ, i64_w, i32_w]
                                    rfl
                                  refine pure_ (i := 5) (N := some 87) (v := ?_) (a' := ?_) #[true, true, true, false, false, true, false, false, false] rfl rfl (any_of HT_.out (by kernel_rfl)) (fun _ _ _ h => h) (Or.inl ⟨by rfl, ?_⟩) ?_ ?_
                                  rotate_left
                                  · intro w'
                                    go_simp
                                    with_reducible rfl
                                  rotate_left
                                  · simp only [Act.put, List.setIfInBounds_toArray, List.set_cons_zero, List.set_cons_succ, i64_w, i32_w]
                                    rfl
                                  refine take_ (i := 3) (N := some 85) (v := ?_) (a' := ?_) #[true, true, true, true, false, true, false, false, false] rfl rfl (take_ofW HT_.out HW_.out (by kernel_rfl)) (fun _ _ _ h => h) (Or.inl ⟨by rfl, ?_⟩) hHeld ?_ ?_
                                  rotate_left
                                  · rintro w' ⟨s0, s1⟩
                                    go_simp
                                    with_reducible rfl
                                  rotate_left
                                  · simp only [Act.put, List.setIfInBounds_toArray, List.set_cons_zero, List.set_cons_succ, i64_w, i32_w]
                                    rfl
                                  refine pure_ (i := 4) (N := some 86) (v := ?_) (a' := ?_) #[true, true, true, true, true, true, false, false, false] rfl rfl (any_of HT_.out (by kernel_rfl)) (fun _ _ _ h => h) (Or.inl ⟨by rfl, ?_⟩) ?_ ?_
                                  rotate_left
                                  · intro w'
                                    go_simp
                                    with_reducible rfl
                                  rotate_left
                                  · simp only [Act.put, List.setIfInBounds_toArray, List.set_cons_zero, List.set_cons_succ, i64_w, i32_w]
                                    rfl
                                  refine one_ (i := 6) (N := none) #[true, true, true, true, true, true, true, false, false] rfl rfl (one_of HT_.out (by kernel_rfl)) (by decide) (fun K hK => ?_)
                                  have hs47 : w46.cell? ⟨gb363, 0, none⟩ = some (.int .i64 0) := (blk_cell BK363.out 0).trans rfl
                                  have hfs47 := blk_frozen BK363.out 0
                                  have hns47_1 := NB375_363.out
                                  have hms47_1 := NB363_375.out
                                  have hs48 : w46.cell? ⟨gb363, 1, none⟩ = some (.string (⟨#[]⟩ : ByteArray)) := (blk_cell BK363.out 1).trans rfl
                                  have hfs48 := blk_frozen BK363.out 1
                                  have hns48_1 := NB375_363.out
                                  have hms48_1 := NB363_375.out
                                  have hs49 : w46.cell? ⟨gb363, 2, none⟩ = some (.int .i64 0) := (blk_cell BK363.out 2).trans rfl
                                  have hfs49 := blk_frozen BK363.out 2
                                  have hns49_1 := NB375_363.out
                                  have hms49_1 := NB363_375.out
                                  have hs50 : w46.cell? ⟨gb363, 3, none⟩ = some (.int .i64 0) := (blk_cell BK363.out 3).trans rfl
                                  have hfs50 := blk_frozen BK363.out 3
                                  have hns50_1 := NB375_363.out
                                  have hms50_1 := NB363_375.out
                                  have hs51 : w46.cell? ⟨gb363, 4, none⟩ = some (.int .i64 0) := (blk_cell BK363.out 4).trans rfl
                                  have hfs51 := blk_frozen BK363.out 4
                                  have hns51_1 := NB375_363.out
                                  have hms51_1 := NB363_375.out
                                  refine skip_ (w1 := ?_) (by rfl) rfl ?_ ?_
                                  rotate_left
                                  · go_simp
                                    rfl
                                  refine hK.out _ _ ⟨((cell_far (p := ⟨gb363, _, none⟩) NB375_363.out _).trans (((cell_far (p := ⟨gb363, _, none⟩) NB375_363.out _).trans (((cell_far (p := ⟨gb363, _, none⟩) NB375_363.out _).trans (((cell_far (p := ⟨gb363, _, none⟩) NB375_363.out _).trans (((cell_far (p := ⟨gb363, _, none⟩) NB375_363.out _).trans (hHeld.1)))))))))), ((cell_far (p := ⟨gb363, _, none⟩) NB375_363.out _).trans (((cell_far (p := ⟨gb363, _, none⟩) NB375_363.out _).trans (((cell_far (p := ⟨gb363, _, none⟩) NB375_363.out _).trans (((cell_far (p := ⟨gb363, _, none⟩) NB375_363.out _).trans (((cell_far (p := ⟨gb363, _, none⟩) NB375_363.out _).trans (hHeld.2))))))))))⟩ (fun hHeld => ?_)
                                  clear hK K
                                  refine pure_ (i := 7) (N := some 3) (v := ?_) (a' := ?_) #[true, true, true, true, true, true, true, true, false] rfl rfl (any_of HT_.out (by kernel_rfl)) (fun _ _ _ h => h) (Or.inl ⟨by rfl, ?_⟩) ?_ ?_
                                  rotate_left
                                  · intro w'
                                    go_simp
                                    with_reducible rfl
                                  rotate_left
                                  · simp only [Act.put, List.setIfInBounds_toArray, List.set_cons_zero, List.set_cons_succ, i64_w, i32_w]
                                    rfl
                                  refine pure_ (i := 8) (N := some 4) (v := ?_) (a' := ?_) #[true, true, true, true, true, true, true, true, true] rfl rfl (any_of HT_.out (by kernel_rfl)) (fun _ _ _ h => h) (Or.inl ⟨by rfl, ?_⟩) ?_ ?_
                                  rotate_left
                                  · intro w'
                                    go_simp
                                    with_reducible rfl
                                  rotate_left
                                  · simp only [Act.put, List.setIfInBounds_toArray, List.set_cons_zero, List.set_cons_succ, i64_w, i32_w]
                                    rfl
                                  refine done_ (done_of HT_.out (by kernel_rfl)) ?_
                                  try go_wp2
                                  refine bodyPost_ret (results_ctt rfl _ _ gb363 29 #[.int .i64 2, .string (a0.extract 0 (x6_22 : Int).toNat), .int .i64 t372, .int .i64 t373, .int .i64 0] (0, 0) _ rfl (by (with_reducible repeat (first | refine blk_drewN ?_ _ | refine blk_drew ?_ | refine blk_alloc ?_ _)); refine blk_put (cs := #[.int .i64 2, .string (a0.extract 0 (x6_22 : Int).toNat), .int .i64 t372, .int .i64 t373, .int .i64 0]) ?_ 4 _ rfl; (with_reducible repeat (first | refine blk_drewN ?_ _ | refine blk_drew ?_ | refine blk_alloc ?_ _)); refine blk_put (cs := #[.int .i64 2, .string (a0.extract 0 (x6_22 : Int).toNat), .int .i64 t372, .int .i64 0, .int .i64 0]) ?_ 3 _ rfl; (with_reducible repeat (first | refine blk_drewN ?_ _ | refine blk_drew ?_ | refine blk_alloc ?_ _)); refine blk_put (cs := #[.int .i64 2, .string (a0.extract 0 (x6_22 : Int).toNat), .int .i64 0, .int .i64 0, .int .i64 0]) ?_ 2 _ rfl; (with_reducible repeat (first | refine blk_drewN ?_ _ | refine blk_drew ?_ | refine blk_alloc ?_ _)); refine blk_put (cs := #[.int .i64 2, .string (⟨#[]⟩ : ByteArray), .int .i64 0, .int .i64 0, .int .i64 0]) ?_ 1 _ rfl; (with_reducible repeat (first | refine blk_drewN ?_ _ | refine blk_drew ?_ | refine blk_alloc ?_ _)); refine blk_put (cs := #[.int .i64 0, .string (⟨#[]⟩ : ByteArray), .int .i64 0, .int .i64 0, .int .i64 0]) ?_ 0 _ rfl; (with_reducible repeat (first | refine blk_drewN ?_ _ | refine blk_drew ?_ | refine blk_alloc ?_ _)); exact BK363.out) Tryz.underlying29 rfl (by kernel_rfl)) rfl ?_
                                  exact ⟨by first | rfl | (simp [errW_none, errW_some] <;> rfl) | (simp [*, errW_none, errW_some] <;> rfl), by repeat (first | (with_reducible first | exact HB.out | apply below_alloc | apply pw_below_drewN | apply below_drew1 | refine below_set ?_ GE363.out | refine below_set ?_ GE375.out) | exact HB.out)⟩
                                · rw [if_neg c36] at H
                                  have c36b0 : (t374 == 0) = false := beq_eq_false_iff_ne.mpr c36
                                  have c36b1 : (t374 != 0) = true := bne_iff_ne.mpr c36
                                  simp only [Option.some.injEq, Prod.mk.injEq] at H
                                  obtain ⟨rfl, rfl, rfl, rfl, rfl, rfl, rfl⟩ := H
                                  go_wp2_with (first | ((with_reducible refine gate_callee (f := 101) rfl ?_); refine goesL_ (some 56) rfl rfl Tryz.func101 (by kernel_rfl) rfl #[.string (a0.extract (x6_22 : Int).toNat a0.size)] rfl (by (try simp only [List.map_toArray, List.map_cons, List.map_nil]); first | done | rfl | (simp only [List.length_drop, List.length_take]; rfl)) ?_; (with_reducible refine (lexer_continues.calls (a0.extract (x6_22 : Int).toNat a0.size) false _ A27.out).mono ?_); rintro e w' ⟨rfl, ⟨nd, rfl⟩⟩; refine ⟨_, rfl, ?_⟩; (try (rw [drewN_self wc]; generalize hq_ : World.drewN wc _ = wc; have n0_ : Aside0 (wc.heap[gb363]? = some (.cells #[.int .i64 0, .string (⟨#[]⟩ : ByteArray), .int .i64 0, .int .i64 0, .int .i64 0] 29 (0, 0))) := ⟨by rw [← hq_]; exact (by (with_reducible repeat (first | refine blk_drewN ?_ _ | refine blk_drew ?_ | refine blk_alloc ?_ _)); exact BK363.out)⟩; have n1_ : Aside0 (Below w.heap.size w wc) := ⟨by rw [← hq_]; exact (by repeat (first | (with_reducible first | exact HB.out | apply below_alloc | apply pw_below_drewN | apply below_drew1 | refine below_set ?_ GE363.out) | exact HB.out))⟩; clear BK363 HB hq_; have BK363 := n0_; have HB := n1_; clear n0_ n1_))) | ((with_reducible refine gate_callee (f := 102) rfl ?_); refine goesL_ (some 63) rfl rfl Tryz.func102 (by kernel_rfl) rfl #[.string (a0.extract 0 (x6_22 : Int).toNat), .string (⟨#[46]⟩ : ByteArray), .string (⟨#[]⟩ : ByteArray), .int .i64 1] rfl (by (try simp only [List.map_toArray, List.map_cons, List.map_nil]); first | done | rfl | (simp only [List.length_drop, List.length_take]; rfl)) ?_; (with_reducible refine (strings_Replace.calls (a0.extract 0 (x6_22 : Int).toNat) (⟨#[46]⟩ : ByteArray) (⟨#[]⟩ : ByteArray) 1 t367 _ ?side1 A32.out).mono ?_); (case side1 => exact Tabs.below HT.out (by repeat (first | (with_reducible first | exact HB.out | apply below_alloc | apply pw_below_drewN | apply below_drew1 | refine below_set ?_ GE363.out) | exact HB.out))); rintro e w52 ⟨rfl, hb⟩; refine ⟨_, rfl, ?_⟩; have n0_ := Aside0.mk (blk_below (g := gb363) (o := .cells #[.int .i64 0, .string (⟨#[]⟩ : ByteArray), .int .i64 0, .int .i64 0, .int .i64 0] 29 (0, 0)) (by (with_reducible repeat (first | refine blk_drewN ?_ _ | refine blk_drew ?_ | refine blk_alloc ?_ _)); exact BK363.out) hb); have n1_ := Aside0.mk (below_step (by repeat (first | (with_reducible first | exact HB.out | apply below_alloc | apply pw_below_drewN | apply below_drew1 | refine below_set ?_ GE363.out) | exact HB.out)) hb); clear BK363; clear HB; have BK363 := n0_; have HB := n1_; clear n0_ n1_; (try clear hb); (try clear hb2); (try clear hk); (try clear hi)) | ((with_reducible refine gate_callee (f := 100) rfl ?_); refine goesL_ (some 64) rfl rfl Tryz.func100 (by kernel_rfl) rfl #[.string t367] rfl (by (try simp only [List.map_toArray, List.map_cons, List.map_nil]); first | done | rfl | (simp only [List.length_drop, List.length_take]; rfl)) ?_; (with_reducible refine (strconv_Atoi.calls t367 t368 none _ ?side1 A33.out).mono ?_); (case side1 => exact Tabs.below HT.out (by repeat (first | (with_reducible first | exact HB.out | apply below_alloc | apply pw_below_drewN | apply below_drew1 | refine below_set ?_ GE363.out) | exact HB.out))); rintro e w53 ⟨rfl, hb⟩; refine ⟨_, rfl, ?_⟩; have n0_ := Aside0.mk (blk_below (g := gb363) (o := .cells #[.int .i64 0, .string (⟨#[]⟩ : ByteArray), .int .i64 0, .int .i64 0, .int .i64 0] 29 (0, 0)) (by (with_reducible repeat (first | refine blk_drewN ?_ _ | refine blk_drew ?_ | refine blk_alloc ?_ _)); exact BK363.out) hb); have n1_ := Aside0.mk (below_step (by repeat (first | (with_reducible first | exact HB.out | apply below_alloc | apply pw_below_drewN | apply below_drew1 | refine below_set ?_ GE363.out) | exact HB.out)) hb); clear BK363; clear HB; have BK363 := n0_; have HB := n1_; clear n0_ n1_; (try clear hb); (try clear hb2); (try clear hk); (try clear hi); (try simp only [errW_none, errW_some])) | ((with_reducible refine gate_callee (f := 104) rfl ?_); refine goesL_ (some 74) rfl rfl Tryz.func104 (by kernel_rfl) rfl #[.int .i64 x7_10] rfl (by (try simp only [List.map_toArray, List.map_cons, List.map_nil]); first | done | rfl | (simp only [List.length_drop, List.length_take]; rfl)) ?_; (with_reducible refine (lexer_power.calls kj22 x7_10 t371 _ A34.out).mono ?_); rintro e w' ⟨rfl, ⟨nd, rfl⟩⟩; refine ⟨_, rfl, ?_⟩; (try (rw [drewN_self w53]; generalize hq_ : World.drewN w53 _ = w53; have n0_ : Aside0 (w53.heap[gb363]? = some (.cells #[.int .i64 0, .string (⟨#[]⟩ : ByteArray), .int .i64 0, .int .i64 0, .int .i64 0] 29 (0, 0))) := ⟨by rw [← hq_]; exact (by (with_reducible repeat (first | refine blk_drewN ?_ _ | refine blk_drew ?_ | refine blk_alloc ?_ _)); exact BK363.out)⟩; have n1_ : Aside0 (Below w.heap.size w w53) := ⟨by rw [← hq_]; exact (by repeat (first | (with_reducible first | exact HB.out | apply below_alloc | apply pw_below_drewN | apply below_drew1 | refine below_set ?_ GE363.out) | exact HB.out))⟩; clear BK363 HB hq_; have BK363 := n0_; have HB := n1_; clear n0_ n1_))) | ((with_reducible refine gate_callee (f := 103) rfl ?_); refine goesL_ (some 75) rfl rfl Tryz.func103 (by kernel_rfl) rfl #[.int .i64 t368, .int .i64 t371] rfl (by (try simp only [List.map_toArray, List.map_cons, List.map_nil]); first | done | rfl | (simp only [List.length_drop, List.length_take]; rfl)) ?_; (with_reducible refine (ratio_Make.calls t368 t371 t372 t373 t374 _ A35.out).mono ?_); rintro e w54 ⟨rfl, hb⟩; refine ⟨_, rfl, ?_⟩; have n0_ := Aside0.mk (blk_below (g := gb363) (o := .cells #[.int .i64 0, .string (⟨#[]⟩ : ByteArray), .int .i64 0, .int .i64 0, .int .i64 0] 29 (0, 0)) (by (with_reducible repeat (first | refine blk_drewN ?_ _ | refine blk_drew ?_ | refine blk_alloc ?_ _)); exact BK363.out) hb); have n1_ := Aside0.mk (below_step (by repeat (first | (with_reducible first | exact HB.out | apply below_alloc | apply pw_below_drewN | apply below_drew1 | refine below_set ?_ GE363.out) | exact HB.out)) hb); clear BK363; clear HB; have BK363 := n0_; have HB := n1_; clear n0_ n1_; (try clear hb); (try clear hb2); (try clear hk); (try clear hi)) | ((with_reducible refine gate_dst (N := 11) rfl ?_); refine box_event ?hg (N := 11) ?hd (cs := #[.int .i64 0, .int .i64 0]) (t := 27) ?hr ?_; (case hd => rfl); (case hg => rfl); (case hr => first | (go_simp; done) | (go_simp; rfl)); intro gb375 hg w55 hbox hb; have n0_ := Aside0.mk (blk_below (g := gb363) (o := .cells #[.int .i64 0, .string (⟨#[]⟩ : ByteArray), .int .i64 0, .int .i64 0, .int .i64 0] 29 (0, 0)) (by (with_reducible repeat (first | refine blk_drewN ?_ _ | refine blk_drew ?_ | refine blk_alloc ?_ _)); exact BK363.out) hb); have n1_ := Aside0.mk (below_step (by repeat (first | (with_reducible first | exact HB.out | apply below_alloc | apply pw_below_drewN | apply below_drew1 | refine below_set ?_ GE363.out) | exact HB.out)) hb); have n2_ := Aside0.mk (hbox); have n3_ := Aside0.mk ((by rw [hg]; exact (below_size (by repeat (first | (with_reducible first | exact HB.out | apply below_alloc | apply pw_below_drewN | apply below_drew1 | refine below_set ?_ GE363.out) | exact HB.out))) : w.heap.size ≤ gb375)); have n4_ := Aside0.mk ((by rw [hg]; exact (below_size (by repeat (first | (with_reducible first | exact HB.out | apply below_alloc | apply pw_below_drewN | apply below_drew1 | refine below_set ?_ GE363.out) | exact HB.out))) : w.heap.size ≤ gb375)); have n5_ := Aside0.mk ((by rw [hg]; exact Nat.ne_of_lt (blk_lt (g := gb363) (o := .cells #[.int .i64 0, .string (⟨#[]⟩ : ByteArray), .int .i64 0, .int .i64 0, .int .i64 0] 29 (0, 0)) (by (with_reducible repeat (first | refine blk_drewN ?_ _ | refine blk_drew ?_ | refine blk_alloc ?_ _)); exact BK363.out)) : gb363 ≠ gb375)); have n6_ := Aside0.mk ((by rw [hg]; exact Nat.ne_of_gt (blk_lt (g := gb363) (o := .cells #[.int .i64 0, .string (⟨#[]⟩ : ByteArray), .int .i64 0, .int .i64 0, .int .i64 0] 29 (0, 0)) (by (with_reducible repeat (first | refine blk_drewN ?_ _ | refine blk_drew ?_ | refine blk_alloc ?_ _)); exact BK363.out)) : gb375 ≠ gb363)); clear BK363; clear HB; have BK363 := n0_; have HB := n1_; have BK375 := n2_; have GW375 := n3_; have GE375 := n4_; have NB363_375 := n5_; have NB375_363 := n6_; clear n0_ n1_ n2_ n3_ n4_ n5_ n6_; clear hb hbox hg; have hnb56 := NB375_363.out; have hnc56 := NB363_375.out; have hcz57_0 : w55.cell? ⟨gb375, 0, none⟩ = some (.int .i64 0) := (blk_cell BK375.out 0).trans rfl; have hcz57_1 : w55.cell? ⟨gb375, 1, none⟩ = some (.int .i64 0) := (blk_cell BK375.out 1).trans rfl; have hfz57_0 := blk_frozen BK375.out 0; have hfz57_1 := blk_frozen BK375.out 1; have hcz58_0 : w55.cell? ⟨gb363, 0, none⟩ = some (.int .i64 0) := (blk_cell BK363.out 0).trans rfl; have hcz58_1 : w55.cell? ⟨gb363, 1, none⟩ = some (.string (⟨#[]⟩ : ByteArray)) := (blk_cell BK363.out 1).trans rfl; have hcz58_2 : w55.cell? ⟨gb363, 2, none⟩ = some (.int .i64 0) := (blk_cell BK363.out 2).trans rfl; have hcz58_3 : w55.cell? ⟨gb363, 3, none⟩ = some (.int .i64 0) := (blk_cell BK363.out 3).trans rfl; have hcz58_4 : w55.cell? ⟨gb363, 4, none⟩ = some (.int .i64 0) := (blk_cell BK363.out 4).trans rfl; have hfz58_0 := blk_frozen BK363.out 0; have hfz58_1 := blk_frozen BK363.out 1; have hfz58_2 := blk_frozen BK363.out 2; have hfz58_3 := blk_frozen BK363.out 3; have hfz58_4 := blk_frozen BK363.out 4))
                                  refine bodyPost_ret (results_ctt rfl _ _ gb363 29 #[.int .i64 0, .string (⟨#[]⟩ : ByteArray), .int .i64 0, .int .i64 0, .int .i64 0] (0, 0) _ rfl (by (with_reducible repeat (first | refine blk_drewN ?_ _ | refine blk_drew ?_ | refine blk_alloc ?_ _)); refine blk_put (cs := #[.int .i64 0, .string (⟨#[]⟩ : ByteArray), .int .i64 0, .int .i64 0, .int .i64 0]) ?_ 4 _ rfl; (with_reducible repeat (first | refine blk_drewN ?_ _ | refine blk_drew ?_ | refine blk_alloc ?_ _)); refine blk_put (cs := #[.int .i64 0, .string (⟨#[]⟩ : ByteArray), .int .i64 0, .int .i64 0, .int .i64 0]) ?_ 3 _ rfl; (with_reducible repeat (first | refine blk_drewN ?_ _ | refine blk_drew ?_ | refine blk_alloc ?_ _)); refine blk_put (cs := #[.int .i64 0, .string (⟨#[]⟩ : ByteArray), .int .i64 0, .int .i64 0, .int .i64 0]) ?_ 2 _ rfl; (with_reducible repeat (first | refine blk_drewN ?_ _ | refine blk_drew ?_ | refine blk_alloc ?_ _)); refine blk_put (cs := #[.int .i64 0, .string (⟨#[]⟩ : ByteArray), .int .i64 0, .int .i64 0, .int .i64 0]) ?_ 1 _ rfl; (with_reducible repeat (first | refine blk_drewN ?_ _ | refine blk_drew ?_ | refine blk_alloc ?_ _)); refine blk_put (cs := #[.int .i64 0, .string (⟨#[]⟩ : ByteArray), .int .i64 0, .int .i64 0, .int .i64 0]) ?_ 0 _ rfl; (with_reducible repeat (first | refine blk_drewN ?_ _ | refine blk_drew ?_ | refine blk_alloc ?_ _)); refine blk_far ?_ NB363_375.out _; (with_reducible repeat (first | refine blk_drewN ?_ _ | refine blk_drew ?_ | refine blk_alloc ?_ _)); refine blk_far ?_ NB363_375.out _; (with_reducible repeat (first | refine blk_drewN ?_ _ | refine blk_drew ?_ | refine blk_alloc ?_ _)); exact BK363.out) Tryz.underlying29 rfl (by kernel_rfl)) rfl ?_
                                  exact ⟨by first | rfl | (simp [errW_none, errW_some] <;> rfl) | (simp [*, errW_none, errW_some] <;> rfl), by repeat (first | (with_reducible first | exact HB.out | apply below_alloc | apply pw_below_drewN | apply below_drew1 | refine below_set ?_ GE363.out | refine below_set ?_ GE375.out) | exact HB.out)⟩
                              · have H1 : (some (0, (⟨#[]⟩ : ByteArray), 0, 0, 0, x6_22, 4)) = some (r1, r2, r3, r4, r5, r6, r7) := by rw [if_neg (show ¬ (some q370).isNone = true by simp)] at H; exact H
                                clear H
                                have H := H1
                                clear H1
                                try simp only [errW_none, errW_some]
                                simp only [Option.some.injEq, Prod.mk.injEq] at H
                                obtain ⟨rfl, rfl, rfl, rfl, rfl, rfl, rfl⟩ := H
                                go_wp2_with (first | ((with_reducible refine gate_callee (f := 101) rfl ?_); refine goesL_ (some 56) rfl rfl Tryz.func101 (by kernel_rfl) rfl #[.string (a0.extract (x6_22 : Int).toNat a0.size)] rfl (by (try simp only [List.map_toArray, List.map_cons, List.map_nil]); first | done | rfl | (simp only [List.length_drop, List.length_take]; rfl)) ?_; (with_reducible refine (lexer_continues.calls (a0.extract (x6_22 : Int).toNat a0.size) false _ A27.out).mono ?_); rintro e w' ⟨rfl, ⟨nd, rfl⟩⟩; refine ⟨_, rfl, ?_⟩; (try (rw [drewN_self wc]; generalize hq_ : World.drewN wc _ = wc; have n0_ : Aside0 (wc.heap[gb363]? = some (.cells #[.int .i64 0, .string (⟨#[]⟩ : ByteArray), .int .i64 0, .int .i64 0, .int .i64 0] 29 (0, 0))) := ⟨by rw [← hq_]; exact (by (with_reducible repeat (first | refine blk_drewN ?_ _ | refine blk_drew ?_ | refine blk_alloc ?_ _)); exact BK363.out)⟩; have n1_ : Aside0 (Below w.heap.size w wc) := ⟨by rw [← hq_]; exact (by repeat (first | (with_reducible first | exact HB.out | apply below_alloc | apply pw_below_drewN | apply below_drew1 | refine below_set ?_ GE363.out) | exact HB.out))⟩; clear BK363 HB hq_; have BK363 := n0_; have HB := n1_; clear n0_ n1_))) | ((with_reducible refine gate_callee (f := 102) rfl ?_); refine goesL_ (some 63) rfl rfl Tryz.func102 (by kernel_rfl) rfl #[.string (a0.extract 0 (x6_22 : Int).toNat), .string (⟨#[46]⟩ : ByteArray), .string (⟨#[]⟩ : ByteArray), .int .i64 1] rfl (by (try simp only [List.map_toArray, List.map_cons, List.map_nil]); first | done | rfl | (simp only [List.length_drop, List.length_take]; rfl)) ?_; (with_reducible refine (strings_Replace.calls (a0.extract 0 (x6_22 : Int).toNat) (⟨#[46]⟩ : ByteArray) (⟨#[]⟩ : ByteArray) 1 t367 _ ?side1 A32.out).mono ?_); (case side1 => exact Tabs.below HT.out (by repeat (first | (with_reducible first | exact HB.out | apply below_alloc | apply pw_below_drewN | apply below_drew1 | refine below_set ?_ GE363.out) | exact HB.out))); rintro e w59 ⟨rfl, hb⟩; refine ⟨_, rfl, ?_⟩; have n0_ := Aside0.mk (blk_below (g := gb363) (o := .cells #[.int .i64 0, .string (⟨#[]⟩ : ByteArray), .int .i64 0, .int .i64 0, .int .i64 0] 29 (0, 0)) (by (with_reducible repeat (first | refine blk_drewN ?_ _ | refine blk_drew ?_ | refine blk_alloc ?_ _)); exact BK363.out) hb); have n1_ := Aside0.mk (below_step (by repeat (first | (with_reducible first | exact HB.out | apply below_alloc | apply pw_below_drewN | apply below_drew1 | refine below_set ?_ GE363.out) | exact HB.out)) hb); clear BK363; clear HB; have BK363 := n0_; have HB := n1_; clear n0_ n1_; (try clear hb); (try clear hb2); (try clear hk); (try clear hi)) | ((with_reducible refine gate_callee (f := 100) rfl ?_); refine goesL_ (some 64) rfl rfl Tryz.func100 (by kernel_rfl) rfl #[.string t367] rfl (by (try simp only [List.map_toArray, List.map_cons, List.map_nil]); first | done | rfl | (simp only [List.length_drop, List.length_take]; rfl)) ?_; (with_reducible refine (strconv_Atoi.calls t367 t368 (some q370) _ ?side1 A33.out).mono ?_); (case side1 => exact Tabs.below HT.out (by repeat (first | (with_reducible first | exact HB.out | apply below_alloc | apply pw_below_drewN | apply below_drew1 | refine below_set ?_ GE363.out) | exact HB.out))); rintro e w60 ⟨rfl, hb⟩; refine ⟨_, rfl, ?_⟩; have n0_ := Aside0.mk (blk_below (g := gb363) (o := .cells #[.int .i64 0, .string (⟨#[]⟩ : ByteArray), .int .i64 0, .int .i64 0, .int .i64 0] 29 (0, 0)) (by (with_reducible repeat (first | refine blk_drewN ?_ _ | refine blk_drew ?_ | refine blk_alloc ?_ _)); exact BK363.out) hb); have n1_ := Aside0.mk (below_step (by repeat (first | (with_reducible first | exact HB.out | apply below_alloc | apply pw_below_drewN | apply below_drew1 | refine below_set ?_ GE363.out) | exact HB.out)) hb); clear BK363; clear HB; have BK363 := n0_; have HB := n1_; clear n0_ n1_; (try clear hb); (try clear hb2); (try clear hk); (try clear hi); (try simp only [errW_none, errW_some]); have hcz61_0 : w60.cell? ⟨gb363, 0, none⟩ = some (.int .i64 0) := (blk_cell BK363.out 0).trans rfl; have hcz61_1 : w60.cell? ⟨gb363, 1, none⟩ = some (.string (⟨#[]⟩ : ByteArray)) := (blk_cell BK363.out 1).trans rfl; have hcz61_2 : w60.cell? ⟨gb363, 2, none⟩ = some (.int .i64 0) := (blk_cell BK363.out 2).trans rfl; have hcz61_3 : w60.cell? ⟨gb363, 3, none⟩ = some (.int .i64 0) := (blk_cell BK363.out 3).trans rfl; have hcz61_4 : w60.cell? ⟨gb363, 4, none⟩ = some (.int .i64 0) := (blk_cell BK363.out 4).trans rfl; have hfz61_0 := blk_frozen BK363.out 0; have hfz61_1 := blk_frozen BK363.out 1; have hfz61_2 := blk_frozen BK363.out 2; have hfz61_3 := blk_frozen BK363.out 3; have hfz61_4 := blk_frozen BK363.out 4))
                                refine bodyPost_ret (results_ctt rfl _ _ gb363 29 #[.int .i64 0, .string (⟨#[]⟩ : ByteArray), .int .i64 0, .int .i64 0, .int .i64 0] (0, 0) _ rfl (by (with_reducible repeat (first | refine blk_drewN ?_ _ | refine blk_drew ?_ | refine blk_alloc ?_ _)); refine blk_put (cs := #[.int .i64 0, .string (⟨#[]⟩ : ByteArray), .int .i64 0, .int .i64 0, .int .i64 0]) ?_ 4 _ rfl; (with_reducible repeat (first | refine blk_drewN ?_ _ | refine blk_drew ?_ | refine blk_alloc ?_ _)); refine blk_put (cs := #[.int .i64 0, .string (⟨#[]⟩ : ByteArray), .int .i64 0, .int .i64 0, .int .i64 0]) ?_ 3 _ rfl; (with_reducible repeat (first | refine blk_drewN ?_ _ | refine blk_drew ?_ | refine blk_alloc ?_ _)); refine blk_put (cs := #[.int .i64 0, .string (⟨#[]⟩ : ByteArray), .int .i64 0, .int .i64 0, .int .i64 0]) ?_ 2 _ rfl; (with_reducible repeat (first | refine blk_drewN ?_ _ | refine blk_drew ?_ | refine blk_alloc ?_ _)); refine blk_put (cs := #[.int .i64 0, .string (⟨#[]⟩ : ByteArray), .int .i64 0, .int .i64 0, .int .i64 0]) ?_ 1 _ rfl; (with_reducible repeat (first | refine blk_drewN ?_ _ | refine blk_drew ?_ | refine blk_alloc ?_ _)); refine blk_put (cs := #[.int .i64 0, .string (⟨#[]⟩ : ByteArray), .int .i64 0, .int .i64 0, .int .i64 0]) ?_ 0 _ rfl; (with_reducible repeat (first | refine blk_drewN ?_ _ | refine blk_drew ?_ | refine blk_alloc ?_ _)); exact BK363.out) Tryz.underlying29 rfl (by kernel_rfl)) rfl ?_
                                exact ⟨by first | rfl | (simp [errW_none, errW_some] <;> rfl) | (simp [*, errW_none, errW_some] <;> rfl), by repeat (first | (with_reducible first | exact HB.out | apply below_alloc | apply pw_below_drewN | apply below_drew1 | refine below_set ?_ GE363.out) | exact HB.out)⟩
                          · rw [if_neg c26] at H
                            exact absurd H (by simp)
                        · rw [if_neg c25] at H
                          exact absurd H (by simp)
end Go.Proofs.YteokilkcchdeiaaGreatDoor.Q
end
section
namespace Go.Proofs.YteokilkcchdeiaaGreatDoor.Q
open Go.Proofs.YteokilkcchdeiaaGreatDoor
open Go.Proofs.YteokilkcchdeiaaGreatDoor.X
open Go.RowKit Go.Proofs.YteokilkcchdeiaaGreatDoorW.PrintWords Go.Proofs.YteokilkcchdeiaaGreatDoorW.PrintLast Go.Proofs.YteokilkcchdeiaaGreatDoorW.PrintMore
attribute [local go_sem] max2_int min2_int max_two min_two max_three min_three max_four min_four   -- for this text's walks alone
set_option linter.unusedVariables false
set_option linter.unusedSimpArgs false
mutual
def lexer_blank.l0 : Nat → ByteArray → Int → Option (Int)
  | 0, _, _ => none
  | k + 1, x0, x1 => if x1 < (x0.size : Int) then (if 0 ≤ x1 then (if (bt x0 x1) = 32 then (lexer_blank.j1 k x0 x1 (bt x0 x1) ((bt x0 x1) == 32)) else (if (bt x0 x1) = 9 then (lexer_blank.j1 k x0 x1 (bt x0 x1) ((bt x0 x1) == 9)) else (lexer_blank.j1 k x0 x1 (bt x0 x1) ((bt x0 x1) == 10)))) else (none)) else (some x1)
def lexer_blank.j1 : Nat → ByteArray → Int → Int → Bool → Option (Int)
  | 0, _, _, _, _ => none
  | k + 1, x0, x1, x12, x14 => if x14 = true then (lexer_blank.l0 k x0 (wrap64 (x1 + 1))) else (if x12 = 35 then (if 0 ≤ x1 then (if x1 ≤ (x0.size : Int) then ((strings_IndexByte.f (x0.extract (x1 : Int).toNat x0.size) 10).bind fun t382 => (if t382 < 0 then (some (x0.size : Int)) else (lexer_blank.l0 k x0 (wrap64 (x1 + t382))))) else (none)) else (none)) else (some x1))
end
def lexer_blank.f (k : Nat) (a0 : ByteArray) (a1 : Int) : Option (Int) := lexer_blank.l0 k a0 a1
set_option maxHeartbeats 8000000 in
set_option maxRecDepth 100000 in
theorem lexer_blank.calls (k : Nat) (a0 : ByteArray) (a1 : Int) (r : Int) (w : World) (h : lexer_blank.f k a0 a1 = some r) :
    Calls Tryz.prog 73 #[.string a0, .int .i64 a1] w fun e w' => e = .returned (.int .i64 r) ∧ Drawn0 w w' := by
  have H : (lexer_blank.l0 k a0 a1) = some r := h
  clear h
  have H' := Aside0.mk H
  clear H
  go_enter Tryz.func73, Tryz.ntmps73
  go_wp2
  go_loopg [1] k (fun kq v1 w' => ∃ (x1_1 : Int), v1 = .int .i64 x1_1 ∧ Aside0 (lexer_blank.l0 kq a0 x1_1 = some r) ∧ Aside0 (kq ≤ k) ∧ Drawn0 w w')
  case atStart => exact ⟨(a1), (by first | rfl | (simp; done) | (simp [*]; done)), H', ⟨Nat.le_refl _⟩, by repeat (first | exact Drawn0.refl _ | apply Drawn0.step)⟩
  case round =>
    clear H'
    try clear p2
    obtain ⟨x1_1, rfl, HA, HK1, ⟨m1, rfl⟩⟩ := hrel
    cases gk with
    | zero => exact absurd HA.out (by simp [lexer_blank.l0])
    | succ k1 =>
      have H := HA.out
      clear HA
      simp only [lexer_blank.l0] at H
      by_cases c3 : x1_1 < (a0.size : Int)
      · rw [if_pos c3] at H
        have c3b0 : decide (x1_1 < (a0.size : Int)) = true := decide_eq_true c3
        clear c3
        by_cases c4 : 0 ≤ x1_1
        · rw [if_pos c4] at H
          have c4b0 : decide (0 ≤ x1_1) = true := decide_eq_true c4
          clear c4
          have HC6 := Aside0.mk H
          clear H
          have p5 : 0 ≤ (x1_1 : Int) := of_decide_eq_true (by first | (with_reducible assumption) | assumption)
          have q5 : x1_1 < (a0.size : Int) := of_decide_eq_true (by first | (with_reducible assumption) | assumption)
          have hx5 := bt_at a0 x1_1
          replace p5 := eq_true p5
          replace q5 := eq_true q5
          go_upto_if 14 with (fail)
          go_cut [14] (fun v14 wc => ∃ (kq : Nat) (x14_5 : Bool), v14 = .bool x14_5 ∧ Aside0 (lexer_blank.j1 kq a0 x1_1 (bt a0 x1_1) x14_5 = some r) ∧ Aside0 (kq ≤ k1) ∧ Drawn0 w wc)
          case first =>
            have H := HC6.out
            clear HC6
            by_cases c7 : (bt a0 x1_1) = 32
            · rw [if_pos c7] at H
              have c7b0 : ((bt a0 x1_1) == 32) = true := beq_iff_eq.mpr c7
              have c7b1 : ((bt a0 x1_1) != 32) = false := bne_eq_false_iff_eq.mpr c7
              clear c7
              (first | rw [c7b0] | (simp only [i64_w, i32_w]; rw [c7b0]) | skip)
              have H' := Aside0.mk H
              clear H
              go_wp2
              go_meet
              case rel => exact ⟨_, (((bt a0 x1_1) == 32)), (by first | rfl | (simp; done) | (simp [*]; done)), H', ⟨by have := HK1.out; first | omega | exact Nat.le_refl _⟩, by repeat (first | exact Drawn0.refl _ | apply Drawn0.step)⟩
            · rw [if_neg c7] at H
              have c7b0 : ((bt a0 x1_1) == 32) = false := beq_eq_false_iff_ne.mpr c7
              have c7b1 : ((bt a0 x1_1) != 32) = true := bne_iff_ne.mpr c7
              (first | rw [c7b0] | (simp only [i64_w, i32_w]; rw [c7b0]) | skip)
              by_cases c8 : (bt a0 x1_1) = 9
              · rw [if_pos c8] at H
                have c8b0 : ((bt a0 x1_1) == 9) = true := beq_iff_eq.mpr c8
                have c8b1 : ((bt a0 x1_1) != 9) = false := bne_eq_false_iff_eq.mpr c8
                clear c8
                have H' := Aside0.mk H
                clear H
                go_wp2
                go_meet
                case rel => exact ⟨_, (((bt a0 x1_1) == 9)), (by first | rfl | (simp; done) | (simp [*]; done)), H', ⟨by have := HK1.out; first | omega | exact Nat.le_refl _⟩, by repeat (first | exact Drawn0.refl _ | apply Drawn0.step)⟩
              · rw [if_neg c8] at H
                have c8b0 : ((bt a0 x1_1) == 9) = false := beq_eq_false_iff_ne.mpr c8
                have c8b1 : ((bt a0 x1_1) != 9) = true := bne_iff_ne.mpr c8
                have H' := Aside0.mk H
                clear H
                go_wp2
                go_meet
                case rel => exact ⟨_, (((bt a0 x1_1) == 10)), (by first | rfl | (simp; done) | (simp [*]; done)), H', ⟨by have := HK1.out; first | omega | exact Nat.le_refl _⟩, by repeat (first | exact Drawn0.refl _ | apply Drawn0.step)⟩
          case rest =>
            clear HC6
            try clear p2
            try clear c3
            try clear c3b0
            try clear c4
            try clear c4b0
            try clear p5
            try clear q5
            try clear hx5
            try clear c7
            try clear c7b0
            try clear c7b1
            try clear c8
            try clear c8b0
            try clear c8b1
            try clear p2
            try clear p5
            try clear q5
            obtain ⟨kq, x14_5, rfl, HA, HJ5, ⟨mc5, rfl⟩⟩ := hcut
            cases kq with
            | zero => exact absurd HA.out (by simp [lexer_blank.j1])
            | succ kj5 =>
              have H := HA.out
              clear HA
              simp only [lexer_blank.j1] at H
              by_cases c9 : x14_5 = true
              · subst c9
                have H1 : (lexer_blank.l0 kj5 a0 (wrap64 (x1_1 + 1))) = some r := by rw [if_pos rfl] at H; exact H
                clear H
                have H := H1
                clear H1
                have H' := Aside0.mk H
                clear H
                go_wp2
                go_roundg kj5
                case measure => have := HK1.out; have := HJ5.out; omega
                case rel => exact ⟨(wrap64 (x1_1 + 1)), (by first | rfl | (simp; done) | (simp [*]; done)), H', ⟨by have := HK1.out; have := HJ5.out; omega⟩, by repeat (first | exact Drawn0.refl _ | apply Drawn0.step)⟩
              · replace c9 := Bool.eq_false_iff.mpr c9
                subst c9
                have H1 : (if (bt a0 x1_1) = 35 then (if 0 ≤ x1_1 then (if x1_1 ≤ (a0.size : Int) then ((strings_IndexByte.f (a0.extract (x1_1 : Int).toNat a0.size) 10).bind fun t382 => (if t382 < 0 then (some (a0.size : Int)) else (lexer_blank.l0 kj5 a0 (wrap64 (x1_1 + t382))))) else (none)) else (none)) else (some x1_1)) = some r := by rw [if_neg (show ¬ (false = true) by decide)] at H; exact H
                clear H
                have H := H1
                clear H1
                by_cases c10 : (bt a0 x1_1) = 35
                · rw [if_pos c10] at H
                  have c10b0 : ((bt a0 x1_1) == 35) = true := beq_iff_eq.mpr c10
                  have c10b1 : ((bt a0 x1_1) != 35) = false := bne_eq_false_iff_eq.mpr c10
                  clear c10
                  by_cases c11 : 0 ≤ x1_1
                  · rw [if_pos c11] at H
                    have c11b0 := eq_true c11
                    have c11b1 : decide (0 ≤ x1_1) = true := decide_eq_true c11
                    clear c11
                    by_cases c12 : x1_1 ≤ (a0.size : Int)
                    · rw [if_pos c12] at H
                      have c12b0 := eq_true c12
                      have c12b1 : decide (x1_1 ≤ (a0.size : Int)) = true := decide_eq_true c12
                      clear c12
                      replace H := Option.bind_eq_some_iff.mp H
                      obtain ⟨t382, A130, H⟩ := H
                      replace H : (if t382 < 0 then (some (a0.size : Int)) else (lexer_blank.l0 kj5 a0 (wrap64 (x1_1 + t382)))) = some r := H
                      have A13 := Aside0.mk A130
                      clear A130
                      by_cases c14 : t382 < 0
                      · rw [if_pos c14] at H
                        have c14b0 : decide (t382 < 0) = true := decide_eq_true c14
                        clear c14
                        obtain rfl := Option.some.inj H
                        go_wp2_with (first | ((with_reducible refine gate_callee (f := 105) rfl ?_); refine goesL_ (some 25) rfl rfl Tryz.func105 (by kernel_rfl) rfl #[.string (a0.extract (x1_1 : Int).toNat a0.size), .int .u8 10] rfl (by (try simp only [List.map_toArray, List.map_cons, List.map_nil]); first | done | rfl | (simp only [List.length_drop, List.length_take]; rfl)) ?_; (with_reducible refine (strings_IndexByte.calls (a0.extract (x1_1 : Int).toNat a0.size) 10 t382 _ A13.out).mono ?_); rintro e w' ⟨rfl, ⟨nd, rfl⟩⟩; refine ⟨_, rfl, ?_⟩))
                        go_ret
                        exact ⟨by first | rfl | (simp; done) | (simp [*]; done), by repeat (first | exact Drawn0.refl _ | apply Drawn0.step)⟩
                      · rw [if_neg c14] at H
                        have c14b0 : decide (t382 < 0) = false := decide_eq_false c14
                        clear c14
                        have H' := Aside0.mk H
                        clear H
                        go_wp2_with (first | ((with_reducible refine gate_callee (f := 105) rfl ?_); refine goesL_ (some 25) rfl rfl Tryz.func105 (by kernel_rfl) rfl #[.string (a0.extract (x1_1 : Int).toNat a0.size), .int .u8 10] rfl (by (try simp only [List.map_toArray, List.map_cons, List.map_nil]); first | done | rfl | (simp only [List.length_drop, List.length_take]; rfl)) ?_; (with_reducible refine (strings_IndexByte.calls (a0.extract (x1_1 : Int).toNat a0.size) 10 t382 _ A13.out).mono ?_); rintro e w' ⟨rfl, ⟨nd, rfl⟩⟩; refine ⟨_, rfl, ?_⟩))
                        go_roundg kj5
                        case measure => have := HK1.out; have := HJ5.out; omega
                        case rel => exact ⟨(wrap64 (x1_1 + t382)), (by first | rfl | (simp; done) | (simp [*]; done)), H', ⟨by have := HK1.out; have := HJ5.out; omega⟩, by repeat (first | exact Drawn0.refl _ | apply Drawn0.step)⟩
                    · rw [if_neg c12] at H
                      exact absurd H (by simp)
                  · rw [if_neg c11] at H
                    exact absurd H (by simp)
                · rw [if_neg c10] at H
                  have c10b0 : ((bt a0 x1_1) == 35) = false := beq_eq_false_iff_ne.mpr c10
                  have c10b1 : ((bt a0 x1_1) != 35) = true := bne_iff_ne.mpr c10
                  obtain rfl := Option.some.inj H
                  go_wp2
                  go_ret
                  exact ⟨by first | rfl | (simp; done) | (simp [*]; done), by repeat (first | exact Drawn0.refl _ | apply Drawn0.step)⟩
        · rw [if_neg c4] at H
          exact absurd H (by simp)
      · rw [if_neg c3] at H
        have c3b0 : decide (x1_1 < (a0.size : Int)) = false := decide_eq_false c3
        clear c3
        obtain rfl := Option.some.inj H
        go_wp2
        go_ret
        exact ⟨by first | rfl | (simp; done) | (simp [*]; done), by repeat (first | exact Drawn0.refl _ | apply Drawn0.step)⟩
end Go.Proofs.YteokilkcchdeiaaGreatDoor.Q
end
section
namespace Go.Proofs.YteokilkcchdeiaaGreatDoor.Q
open Go.Proofs.YteokilkcchdeiaaGreatDoor
open Go.Proofs.YteokilkcchdeiaaGreatDoor.X
open Go.RowKit Go.Proofs.YteokilkcchdeiaaGreatDoorW.PrintWords Go.Proofs.YteokilkcchdeiaaGreatDoorW.PrintLast Go.Proofs.YteokilkcchdeiaaGreatDoorW.PrintMore
attribute [local go_sem] max2_int min2_int max_two min_two max_three min_three max_four min_four   -- for this text's walks alone
set_option linter.unusedVariables false
set_option linter.unusedSimpArgs false
def lexer_part.f (a0 : ByteArray) : Option (Int) := if a0.toList = ([] : List UInt8) then (some 0) else (if 0 < (a0.size : Int) then ((lexer_isLetter.f (bt a0 0)).bind fun t340 => (if t340 = true then ((lexer_run_part.f a0).bind fun t341 => (some t341)) else (some 0))) else (none))
set_option maxHeartbeats 8000000 in
set_option maxRecDepth 100000 in
theorem lexer_part.calls (a0 : ByteArray) (r : Int) (w : World) (h : lexer_part.f a0 = some r) :
    Calls Tryz.prog 96 #[.string a0] w fun e w' => e = .returned (.int .i64 r) ∧ Drawn0 w w' := by
  have H : (if a0.toList = ([] : List UInt8) then (some 0) else (if 0 < (a0.size : Int) then ((lexer_isLetter.f (bt a0 0)).bind fun t340 => (if t340 = true then ((lexer_run_part.f a0).bind fun t341 => (some t341)) else (some 0))) else (none))) = some r := h
  clear h
  by_cases c2 : a0.toList = ([] : List UInt8)
  · rw [if_pos c2] at H
    have c2b0 : (a0.toList == ([] : List UInt8)) = true := beq_iff_eq.mpr c2
    have c2b1 : (a0.toList != ([] : List UInt8)) = false := bne_eq_false_iff_eq.mpr c2
    clear c2
    obtain rfl := Option.some.inj H
    go_enter Tryz.func96, Tryz.ntmps96
    go_wp2
    go_ret
    exact ⟨by first | rfl | (simp; done) | (simp [*]; done), by repeat (first | exact Drawn0.refl _ | apply Drawn0.step)⟩
  · rw [if_neg c2] at H
    have c2b0 : (a0.toList == ([] : List UInt8)) = false := beq_eq_false_iff_ne.mpr c2
    have c2b1 : (a0.toList != ([] : List UInt8)) = true := bne_iff_ne.mpr c2
    by_cases c3 : 0 < (a0.size : Int)
    · rw [if_pos c3] at H
      have c3b0 : decide (0 < (a0.size : Int)) = true := decide_eq_true c3
      have c3b1 : decide (0 < a0.size) = true := decide_eq_true (by omega)
      clear c3
      replace H := Option.bind_eq_some_iff.mp H
      obtain ⟨t340, A50, H⟩ := H
      replace H : (if t340 = true then ((lexer_run_part.f a0).bind fun t341 => (some t341)) else (some 0)) = some r := H
      have A5 := Aside0.mk A50
      clear A50
      by_cases c6 : t340 = true
      · subst c6
        have H1 : ((lexer_run_part.f a0).bind fun t341 => (some t341)) = some r := by rw [if_pos rfl] at H; exact H
        clear H
        have H := H1
        clear H1
        replace H := Option.bind_eq_some_iff.mp H
        obtain ⟨t341, A70, H⟩ := H
        replace H : (some t341) = some r := H
        have A7 := Aside0.mk A70
        clear A70
        obtain rfl := Option.some.inj H
        have p4 : 0 ≤ (0 : Int) := (by omega)
        have q4 : 0 < a0.size := (by have : (0 : Int) < (a0.size : Int) := of_decide_eq_true (by first | (with_reducible assumption) | assumption); omega)
        have hx4 : ∀ h : 0 < a0.size, ((a0[0]'h).toNat : Int) = bt a0 0 := bt_at a0 0
        clear p4
        have qi4 : (0 < (a0.size : Int)) = True := eq_true (of_decide_eq_true (by first | (with_reducible assumption) | assumption))
        replace q4 := eq_true q4
        go_enter Tryz.func96, Tryz.ntmps96
        go_wp2_with (first | (go_at_call 120; (with_reducible refine (lexer_isLetter.calls (bt a0 0) true _ A5.out).mono ?_); rintro e w' ⟨rfl, ⟨nd, rfl⟩⟩) | ((with_reducible refine gate_callee (f := 97) rfl ?_); refine goesL_ (some 12) rfl rfl Tryz.func97 (by kernel_rfl) rfl #[.string a0, .func (.func 121) #[] #[]] rfl (by (try simp only [List.map_toArray, List.map_cons, List.map_nil]); first | done | rfl | (simp only [List.length_drop, List.length_take]; rfl)) ?_; (with_reducible refine (lexer_run_part.calls a0 t341 _ A7.out).mono ?_); rintro e w' ⟨rfl, ⟨nd, rfl⟩⟩; refine ⟨_, rfl, ?_⟩))
        go_ret
        exact ⟨by first | rfl | (simp; done) | (simp [*]; done), by repeat (first | exact Drawn0.refl _ | apply Drawn0.step)⟩
      · replace c6 := Bool.eq_false_iff.mpr c6
        subst c6
        have H1 : (some 0) = some r := by rw [if_neg (show ¬ (false = true) by decide)] at H; exact H
        clear H
        have H := H1
        clear H1
        obtain rfl := Option.some.inj H
        have p4 : 0 ≤ (0 : Int) := (by omega)
        have q4 : 0 < a0.size := (by have : (0 : Int) < (a0.size : Int) := of_decide_eq_true (by first | (with_reducible assumption) | assumption); omega)
        have hx4 : ∀ h : 0 < a0.size, ((a0[0]'h).toNat : Int) = bt a0 0 := bt_at a0 0
        clear p4
        have qi4 : (0 < (a0.size : Int)) = True := eq_true (of_decide_eq_true (by first | (with_reducible assumption) | assumption))
        replace q4 := eq_true q4
        go_enter Tryz.func96, Tryz.ntmps96
        go_wp2_with (first | (go_at_call 120; (with_reducible refine (lexer_isLetter.calls (bt a0 0) false _ A5.out).mono ?_); rintro e w' ⟨rfl, ⟨nd, rfl⟩⟩))
        go_ret
        exact ⟨by first | rfl | (simp; done) | (simp [*]; done), by repeat (first | exact Drawn0.refl _ | apply Drawn0.step)⟩
    · rw [if_neg c3] at H
      exact absurd H (by simp)
end Go.Proofs.YteokilkcchdeiaaGreatDoor.Q
end
section
namespace Go.Proofs.YteokilkcchdeiaaGreatDoor.Q
open Go.RowKit Go.Proofs.YteokilkcchdeiaaGreatDoorW.PrintWords Go.Proofs.YteokilkcchdeiaaGreatDoorW.PrintLast Go.Proofs.YteokilkcchdeiaaGreatDoorW.PrintMore
attribute [local go_sem] max2_int min2_int max_two min_two max_three min_three max_four min_four   -- for this text's walks alone
set_option linter.unusedVariables false
set_option linter.unusedSimpArgs false
mutual
def lexer_name.l0 : Nat → ByteArray → Int → Option (Int × ByteArray × Int × Int × Int × Int × Int)
  | 0, _, _ => none
  | k + 1, x0, x5 => if x5 > 0 then (if x5 < (x0.size : Int) then (if 0 ≤ x5 then (lexer_name.j1 k x0 x5 ((bt x0 x5) == 46)) else (none)) else (lexer_name.j1 k x0 x5 false)) else (lexer_name.j1 k x0 x5 false)
def lexer_name.j1 : Nat → ByteArray → Int → Bool → Option (Int × ByteArray × Int × Int × Int × Int × Int)
  | 0, _, _, _ => none
  | k + 1, x0, x5, x22 => if x22 = true then (if 0 ≤ (wrap64 (x5 + 1)) then (if (wrap64 (x5 + 1)) ≤ (x0.size : Int) then ((lexer_part.f (x0.extract ((wrap64 (x5 + 1)) : Int).toNat x0.size)).bind fun t344 => (if t344 = 0 then (if x5 > 100 then (some (0, (⟨#[]⟩ : ByteArray), 0, 0, 0, x5, 4)) else (if 0 ≤ x5 then (if x5 ≤ (x0.size : Int) then (some (1, x0.extract 0 (x5 : Int).toNat, 0, 0, 0, x5, 0)) else (none)) else (none))) else (lexer_name.l0 k x0 (wrap64 (x5 + (wrap64 (1 + t344))))))) else (none)) else (none)) else (if x5 > 100 then (some (0, (⟨#[]⟩ : ByteArray), 0, 0, 0, x5, 4)) else (if 0 ≤ x5 then (if x5 ≤ (x0.size : Int) then (some (1, x0.extract 0 (x5 : Int).toNat, 0, 0, 0, x5, 0)) else (none)) else (none)))
end
def lexer_name.f (k : Nat) (a0 : ByteArray) : Option (Int × ByteArray × Int × Int × Int × Int × Int) := (lexer_part.f a0).bind fun t343 => (lexer_name.l0 k a0 t343)
set_option maxHeartbeats 8000000 in
set_option maxRecDepth 100000 in
theorem lexer_name.calls (k : Nat) (a0 : ByteArray) (r1 : Int) (r2 : ByteArray) (r3 : Int) (r4 : Int) (r5 : Int) (r6 : Int) (r7 : Int) (w : World) (h : lexer_name.f k a0 = some (r1, r2, r3, r4, r5, r6, r7)) :
    Calls Tryz.prog 68 #[.string a0] w fun e w' => e = .returned (.tuple #[.agg #[.int .i64 r1, .string r2, .int .i64 r3, .int .i64 r4, .int .i64 r5], .int .i64 r6, .int .i64 r7]) ∧ Below w.heap.size w w' := by
  have hu29 := Tryz.underlying29
  have HB := Aside0.mk (Below.refl w.heap.size w)
  have H : ((lexer_part.f a0).bind fun t343 => (lexer_name.l0 k a0 t343)) = some (r1, r2, r3, r4, r5, r6, r7) := h
  clear h
  replace H := Option.bind_eq_some_iff.mp H
  obtain ⟨t343, A20, H⟩ := H
  replace H : (lexer_name.l0 k a0 t343) = some (r1, r2, r3, r4, r5, r6, r7) := H
  have A2 := Aside0.mk A20
  clear A20
  have H' := Aside0.mk H
  clear H
  go_enter Tryz.func68, Tryz.ntmps68
  go_wp2_with (first | ((with_reducible refine gate_dst (N := 2) rfl ?_); (try (refine gate_guard (by rfl) ?_; dsimp only)); refine box_event ?hg (N := 2) ?hd (cs := #[.int .i64 0, .string (⟨#[]⟩ : ByteArray), .int .i64 0, .int .i64 0, .int .i64 0]) (t := 29) ?hr ?_; (case hd => rfl); (case hg => rfl); (case hr => first | (go_simp; done) | (go_simp; rfl)); intro gb342 hg w3 hbox hb; have n0_ := Aside0.mk (below_step (by repeat (first | (with_reducible first | exact HB.out | apply below_alloc | apply pw_below_drewN | apply below_drew1) | exact HB.out)) hb); have n1_ := Aside0.mk (hbox); have n2_ := Aside0.mk ((by rw [hg]; exact (below_size (by repeat (first | (with_reducible first | exact HB.out | apply below_alloc | apply pw_below_drewN | apply below_drew1) | exact HB.out))) : w.heap.size ≤ gb342)); have n3_ := Aside0.mk ((by rw [hg]; exact (below_size (by repeat (first | (with_reducible first | exact HB.out | apply below_alloc | apply pw_below_drewN | apply below_drew1) | exact HB.out))) : w.heap.size ≤ gb342)); clear HB; have HB := n0_; have BK342 := n1_; have GW342 := n2_; have GE342 := n3_; clear n0_ n1_ n2_ n3_; clear hb hbox hg) | ((with_reducible refine gate_callee (f := 96) rfl ?_); refine goesL_ (some 8) rfl rfl Tryz.func96 (by kernel_rfl) rfl #[.string a0] rfl (by (try simp only [List.map_toArray, List.map_cons, List.map_nil]); first | done | rfl | (simp only [List.length_drop, List.length_take]; rfl)) ?_; (with_reducible refine (lexer_part.calls a0 t343 _ A2.out).mono ?_); rintro e w' ⟨rfl, ⟨nd, rfl⟩⟩; refine ⟨_, rfl, ?_⟩))
  go_loopg [5] k (fun kq v5 w' => ∃ (x5_1 : Int), v5 = .int .i64 x5_1 ∧ Aside0 (lexer_name.l0 kq a0 x5_1 = some (r1, r2, r3, r4, r5, r6, r7)) ∧ Aside0 (kq ≤ k) ∧ Aside0 (w'.heap[gb342]? = some (.cells #[.int .i64 0, .string (⟨#[]⟩ : ByteArray), .int .i64 0, .int .i64 0, .int .i64 0] 29 (0, 0))) ∧ Aside0 (Below w.heap.size w w'))
  case atStart => exact ⟨(t343), (by first | rfl | (simp; done) | (simp [*]; done)), H', ⟨Nat.le_refl _⟩, ⟨by (with_reducible repeat (first | refine blk_drewN ?_ _ | refine blk_drew ?_ | refine blk_alloc ?_ _)); exact BK342.out⟩, ⟨by repeat (first | (with_reducible first | exact HB.out | apply below_alloc | apply pw_below_drewN | apply below_drew1 | refine below_set ?_ GE342.out) | exact HB.out)⟩⟩
  case round =>
    clear H'
    try clear p2
    obtain ⟨x5_1, rfl, HA, HK1, BK342, HB⟩ := hrel
    cases gk with
    | zero => exact absurd HA.out (by simp [lexer_name.l0])
    | succ k1 =>
      have H := HA.out
      clear HA
      simp only [lexer_name.l0] at H
      have HC4 := Aside0.mk H
      clear H
      go_upto_region 2 with (fail)
      go_cut [22] (fun v22 wc => ∃ (kq : Nat) (x22_3 : Bool), v22 = .bool x22_3 ∧ Aside0 (lexer_name.j1 kq a0 x5_1 x22_3 = some (r1, r2, r3, r4, r5, r6, r7)) ∧ Aside0 (kq ≤ k1) ∧ Aside0 (wc.heap[gb342]? = some (.cells #[.int .i64 0, .string (⟨#[]⟩ : ByteArray), .int .i64 0, .int .i64 0, .int .i64 0] 29 (0, 0))) ∧ Aside0 (Below w.heap.size w wc))
      case first =>
        have H := HC4.out
        clear HC4
        by_cases c5 : x5_1 > 0
        · rw [if_pos c5] at H
          have c5b0 : decide (0 < x5_1) = true := decide_eq_true c5
          clear c5
          (first | rw [c5b0] | (simp only [i64_w, i32_w]; rw [c5b0]) | skip)
          by_cases c6 : x5_1 < (a0.size : Int)
          · rw [if_pos c6] at H
            have c6b0 : decide (x5_1 < (a0.size : Int)) = true := decide_eq_true c6
            clear c6
            by_cases c7 : 0 ≤ x5_1
            · rw [if_pos c7] at H
              have c7b0 : decide (0 ≤ x5_1) = true := decide_eq_true c7
              clear c7
              have H' := Aside0.mk H
              clear H
              have p8 : 0 ≤ (x5_1 : Int) := of_decide_eq_true (by first | (with_reducible assumption) | assumption)
              have q8 : x5_1 < (a0.size : Int) := of_decide_eq_true (by first | (with_reducible assumption) | assumption)
              have hx8 := bt_at a0 x5_1
              replace p8 := eq_true p8
              replace q8 := eq_true q8
              go_wp2
              go_meet
              case rel => exact ⟨_, (((bt a0 x5_1) == 46)), (by first | rfl | (simp; done) | (simp [*]; done)), H', ⟨by have := HK1.out; first | omega | exact Nat.le_refl _⟩, ⟨by (with_reducible repeat (first | refine blk_drewN ?_ _ | refine blk_drew ?_ | refine blk_alloc ?_ _)); exact BK342.out⟩, ⟨by repeat (first | (with_reducible first | exact HB.out | apply below_alloc | apply pw_below_drewN | apply below_drew1 | refine below_set ?_ GE342.out) | exact HB.out)⟩⟩
            · rw [if_neg c7] at H
              exact absurd H (by simp)
          · rw [if_neg c6] at H
            have c6b0 : decide (x5_1 < (a0.size : Int)) = false := decide_eq_false c6
            clear c6
            have H' := Aside0.mk H
            clear H
            go_wp2
            go_meet
            case rel => exact ⟨_, (false), (by first | rfl | (simp; done) | (simp [*]; done)), H', ⟨by have := HK1.out; first | omega | exact Nat.le_refl _⟩, ⟨by (with_reducible repeat (first | refine blk_drewN ?_ _ | refine blk_drew ?_ | refine blk_alloc ?_ _)); exact BK342.out⟩, ⟨by repeat (first | (with_reducible first | exact HB.out | apply below_alloc | apply pw_below_drewN | apply below_drew1 | refine below_set ?_ GE342.out) | exact HB.out)⟩⟩
        · rw [if_neg c5] at H
          have c5b0 : decide (0 < x5_1) = false := decide_eq_false c5
          clear c5
          (first | rw [c5b0] | (simp only [i64_w, i32_w]; rw [c5b0]) | skip)
          have H' := Aside0.mk H
          clear H
          go_wp2
          go_meet
          case rel => exact ⟨_, (false), (by first | rfl | (simp; done) | (simp [*]; done)), H', ⟨by have := HK1.out; first | omega | exact Nat.le_refl _⟩, ⟨by (with_reducible repeat (first | refine blk_drewN ?_ _ | refine blk_drew ?_ | refine blk_alloc ?_ _)); exact BK342.out⟩, ⟨by repeat (first | (with_reducible first | exact HB.out | apply below_alloc | apply pw_below_drewN | apply below_drew1 | refine below_set ?_ GE342.out) | exact HB.out)⟩⟩
      case rest =>
        clear HC4
        try clear p2
        try clear c5
        try clear c5b0
        try clear c6
        try clear c6b0
        try clear c7
        try clear c7b0
        try clear p8
        try clear q8
        try clear hx8
        try clear p2
        try clear p8
        try clear q8
        obtain ⟨kq, x22_3, rfl, HA, HJ3, BK342, HB⟩ := hcut
        cases kq with
        | zero => exact absurd HA.out (by simp [lexer_name.j1])
        | succ kj3 =>
          have H := HA.out
          clear HA
          simp only [lexer_name.j1] at H
          by_cases c9 : x22_3 = true
          · subst c9
            have H1 : (if 0 ≤ (wrap64 (x5_1 + 1)) then (if (wrap64 (x5_1 + 1)) ≤ (a0.size : Int) then ((lexer_part.f (a0.extract ((wrap64 (x5_1 + 1)) : Int).toNat a0.size)).bind fun t344 => (if t344 = 0 then (if x5_1 > 100 then (some (0, (⟨#[]⟩ : ByteArray), 0, 0, 0, x5_1, 4)) else (if 0 ≤ x5_1 then (if x5_1 ≤ (a0.size : Int) then (some (1, a0.extract 0 (x5_1 : Int).toNat, 0, 0, 0, x5_1, 0)) else (none)) else (none))) else (lexer_name.l0 kj3 a0 (wrap64 (x5_1 + (wrap64 (1 + t344))))))) else (none)) else (none)) = some (r1, r2, r3, r4, r5, r6, r7) := by rw [if_pos rfl] at H; exact H
            clear H
            have H := H1
            clear H1
            obtain ⟨ji10, hji10⟩ : ∃ j_ : Int, (wrap64 (x5_1 + 1)) = j_ := ⟨_, rfl⟩
            replace H : (if 0 ≤ (ji10) then (if (ji10) ≤ (a0.size : Int) then ((lexer_part.f (a0.extract ((ji10) : Int).toNat a0.size)).bind fun t344 => (if t344 = 0 then (if x5_1 > 100 then (some (0, (⟨#[]⟩ : ByteArray), 0, 0, 0, x5_1, 4)) else (if 0 ≤ x5_1 then (if x5_1 ≤ (a0.size : Int) then (some (1, a0.extract 0 (x5_1 : Int).toNat, 0, 0, 0, x5_1, 0)) else (none)) else (none))) else (lexer_name.l0 kj3 a0 (wrap64 (x5_1 + (wrap64 (1 + t344))))))) else (none)) else (none)) = some (r1, r2, r3, r4, r5, r6, r7) := by first | (rw [hji10] at H; exact H) | (simp only [hji10] at H ⊢; exact H)
            have hji10w : (IntKind.i64.wrap (x5_1 + 1)) = ji10 := (i64_w _).trans hji10
            by_cases c11 : 0 ≤ (ji10)
            · rw [if_pos c11] at H
              have c11b0 := eq_true c11
              have c11b1 : decide (0 ≤ (ji10)) = true := decide_eq_true c11
              clear c11
              by_cases c12 : (ji10) ≤ (a0.size : Int)
              · rw [if_pos c12] at H
                have c12b0 := eq_true c12
                have c12b1 : decide ((ji10) ≤ (a0.size : Int)) = true := decide_eq_true c12
                clear c12
                replace H := Option.bind_eq_some_iff.mp H
                obtain ⟨t344, A130, H⟩ := H
                replace H : (if t344 = 0 then (if x5_1 > 100 then (some (0, (⟨#[]⟩ : ByteArray), 0, 0, 0, x5_1, 4)) else (if 0 ≤ x5_1 then (if x5_1 ≤ (a0.size : Int) then (some (1, a0.extract 0 (x5_1 : Int).toNat, 0, 0, 0, x5_1, 0)) else (none)) else (none))) else (lexer_name.l0 kj3 a0 (wrap64 (x5_1 + (wrap64 (1 + t344)))))) = some (r1, r2, r3, r4, r5, r6, r7) := H
                have A13 := Aside0.mk A130
                clear A130
                by_cases c14 : t344 = 0
                · rw [if_pos c14] at H
                  have c14b0 : (t344 == 0) = true := beq_iff_eq.mpr c14
                  have c14b1 : (t344 != 0) = false := bne_eq_false_iff_eq.mpr c14
                  clear c14
                  by_cases c15 : x5_1 > 100
                  · rw [if_pos c15] at H
                    have c15b0 : decide (100 < x5_1) = true := decide_eq_true c15
                    clear c15
                    simp only [Option.some.injEq, Prod.mk.injEq] at H
                    obtain ⟨rfl, rfl, rfl, rfl, rfl, rfl, rfl⟩ := H
                    go_wp2_with (first | ((with_reducible refine gate_callee (f := 96) rfl ?_); refine goesL_ (some 27) rfl rfl Tryz.func96 (by kernel_rfl) rfl #[.string (a0.extract ((ji10) : Int).toNat a0.size)] rfl (by (try simp only [List.map_toArray, List.map_cons, List.map_nil]); first | done | (simp only [hji10]; rfl) | rfl | (simp only [List.length_drop, List.length_take]; rfl)) ?_; (with_reducible refine (lexer_part.calls (a0.extract ((ji10) : Int).toNat a0.size) t344 _ A13.out).mono ?_); rintro e w' ⟨rfl, ⟨nd, rfl⟩⟩; refine ⟨_, rfl, ?_⟩; (try (rw [drewN_self wc]; generalize hq_ : World.drewN wc _ = wc; have n0_ : Aside0 (wc.heap[gb342]? = some (.cells #[.int .i64 0, .string (⟨#[]⟩ : ByteArray), .int .i64 0, .int .i64 0, .int .i64 0] 29 (0, 0))) := ⟨by rw [← hq_]; exact (by (with_reducible repeat (first | refine blk_drewN ?_ _ | refine blk_drew ?_ | refine blk_alloc ?_ _)); exact BK342.out)⟩; have n1_ : Aside0 (Below w.heap.size w wc) := ⟨by rw [← hq_]; exact (by repeat (first | (with_reducible first | exact HB.out | apply below_alloc | apply pw_below_drewN | apply below_drew1 | refine below_set ?_ GE342.out) | exact HB.out))⟩; clear BK342 HB hq_; have BK342 := n0_; have HB := n1_; clear n0_ n1_)); have hcz16_0 : wc.cell? ⟨gb342, 0, none⟩ = some (.int .i64 0) := (blk_cell BK342.out 0).trans rfl; have hcz16_1 : wc.cell? ⟨gb342, 1, none⟩ = some (.string (⟨#[]⟩ : ByteArray)) := (blk_cell BK342.out 1).trans rfl; have hcz16_2 : wc.cell? ⟨gb342, 2, none⟩ = some (.int .i64 0) := (blk_cell BK342.out 2).trans rfl; have hcz16_3 : wc.cell? ⟨gb342, 3, none⟩ = some (.int .i64 0) := (blk_cell BK342.out 3).trans rfl; have hcz16_4 : wc.cell? ⟨gb342, 4, none⟩ = some (.int .i64 0) := (blk_cell BK342.out 4).trans rfl; have hfz16_0 := blk_frozen BK342.out 0; have hfz16_1 := blk_frozen BK342.out 1; have hfz16_2 := blk_frozen BK342.out 2; have hfz16_3 := blk_frozen BK342.out 3; have hfz16_4 := blk_frozen BK342.out 4))
                    refine bodyPost_ret (results_ctt rfl _ _ gb342 29 #[.int .i64 0, .string (⟨#[]⟩ : ByteArray), .int .i64 0, .int .i64 0, .int .i64 0] (0, 0) _ rfl (by (with_reducible repeat (first | refine blk_drewN ?_ _ | refine blk_drew ?_ | refine blk_alloc ?_ _)); refine blk_put (cs := #[.int .i64 0, .string (⟨#[]⟩ : ByteArray), .int .i64 0, .int .i64 0, .int .i64 0]) ?_ 4 _ rfl; (with_reducible repeat (first | refine blk_drewN ?_ _ | refine blk_drew ?_ | refine blk_alloc ?_ _)); refine blk_put (cs := #[.int .i64 0, .string (⟨#[]⟩ : ByteArray), .int .i64 0, .int .i64 0, .int .i64 0]) ?_ 3 _ rfl; (with_reducible repeat (first | refine blk_drewN ?_ _ | refine blk_drew ?_ | refine blk_alloc ?_ _)); refine blk_put (cs := #[.int .i64 0, .string (⟨#[]⟩ : ByteArray), .int .i64 0, .int .i64 0, .int .i64 0]) ?_ 2 _ rfl; (with_reducible repeat (first | refine blk_drewN ?_ _ | refine blk_drew ?_ | refine blk_alloc ?_ _)); refine blk_put (cs := #[.int .i64 0, .string (⟨#[]⟩ : ByteArray), .int .i64 0, .int .i64 0, .int .i64 0]) ?_ 1 _ rfl; (with_reducible repeat (first | refine blk_drewN ?_ _ | refine blk_drew ?_ | refine blk_alloc ?_ _)); refine blk_put (cs := #[.int .i64 0, .string (⟨#[]⟩ : ByteArray), .int .i64 0, .int .i64 0, .int .i64 0]) ?_ 0 _ rfl; (with_reducible repeat (first | refine blk_drewN ?_ _ | refine blk_drew ?_ | refine blk_alloc ?_ _)); exact BK342.out) Tryz.underlying29 rfl (by kernel_rfl)) rfl ?_
                    exact ⟨by first | rfl | (simp [errW_none, errW_some] <;> rfl) | (simp only [← hji10]; first | rfl | (simp [errW_none, errW_some] <;> rfl)) | (simp [*, errW_none, errW_some] <;> rfl), by repeat (first | (with_reducible first | exact HB.out | apply below_alloc | apply pw_below_drewN | apply below_drew1 | refine below_set ?_ GE342.out) | exact HB.out)⟩
                  · rw [if_neg c15] at H
                    have c15b0 : decide (100 < x5_1) = false := decide_eq_false c15
                    clear c15
                    by_cases c17 : 0 ≤ x5_1
                    · rw [if_pos c17] at H
                      have c17b0 := eq_true c17
                      have c17b1 : decide (0 ≤ x5_1) = true := decide_eq_true c17
                      clear c17
                      by_cases c18 : x5_1 ≤ (a0.size : Int)
                      · rw [if_pos c18] at H
                        have c18b0 := eq_true c18
                        have c18b1 : decide (x5_1 ≤ (a0.size : Int)) = true := decide_eq_true c18
                        clear c18
                        simp only [Option.some.injEq, Prod.mk.injEq] at H
                        obtain ⟨rfl, rfl, rfl, rfl, rfl, rfl, rfl⟩ := H
                        go_wp2_with (first | ((with_reducible refine gate_callee (f := 96) rfl ?_); refine goesL_ (some 27) rfl rfl Tryz.func96 (by kernel_rfl) rfl #[.string (a0.extract ((ji10) : Int).toNat a0.size)] rfl (by (try simp only [List.map_toArray, List.map_cons, List.map_nil]); first | done | (simp only [hji10]; rfl) | rfl | (simp only [List.length_drop, List.length_take]; rfl)) ?_; (with_reducible refine (lexer_part.calls (a0.extract ((ji10) : Int).toNat a0.size) t344 _ A13.out).mono ?_); rintro e w' ⟨rfl, ⟨nd, rfl⟩⟩; refine ⟨_, rfl, ?_⟩; (try (rw [drewN_self wc]; generalize hq_ : World.drewN wc _ = wc; have n0_ : Aside0 (wc.heap[gb342]? = some (.cells #[.int .i64 0, .string (⟨#[]⟩ : ByteArray), .int .i64 0, .int .i64 0, .int .i64 0] 29 (0, 0))) := ⟨by rw [← hq_]; exact (by (with_reducible repeat (first | refine blk_drewN ?_ _ | refine blk_drew ?_ | refine blk_alloc ?_ _)); exact BK342.out)⟩; have n1_ : Aside0 (Below w.heap.size w wc) := ⟨by rw [← hq_]; exact (by repeat (first | (with_reducible first | exact HB.out | apply below_alloc | apply pw_below_drewN | apply below_drew1 | refine below_set ?_ GE342.out) | exact HB.out))⟩; clear BK342 HB hq_; have BK342 := n0_; have HB := n1_; clear n0_ n1_)); have hcz19_0 : wc.cell? ⟨gb342, 0, none⟩ = some (.int .i64 0) := (blk_cell BK342.out 0).trans rfl; have hcz19_1 : wc.cell? ⟨gb342, 1, none⟩ = some (.string (⟨#[]⟩ : ByteArray)) := (blk_cell BK342.out 1).trans rfl; have hcz19_2 : wc.cell? ⟨gb342, 2, none⟩ = some (.int .i64 0) := (blk_cell BK342.out 2).trans rfl; have hcz19_3 : wc.cell? ⟨gb342, 3, none⟩ = some (.int .i64 0) := (blk_cell BK342.out 3).trans rfl; have hcz19_4 : wc.cell? ⟨gb342, 4, none⟩ = some (.int .i64 0) := (blk_cell BK342.out 4).trans rfl; have hfz19_0 := blk_frozen BK342.out 0; have hfz19_1 := blk_frozen BK342.out 1; have hfz19_2 := blk_frozen BK342.out 2; have hfz19_3 := blk_frozen BK342.out 3; have hfz19_4 := blk_frozen BK342.out 4))
                        refine bodyPost_ret (results_ctt rfl _ _ gb342 29 #[.int .i64 1, .string (a0.extract 0 (x5_1 : Int).toNat), .int .i64 0, .int .i64 0, .int .i64 0] (0, 0) _ rfl (by (with_reducible repeat (first | refine blk_drewN ?_ _ | refine blk_drew ?_ | refine blk_alloc ?_ _)); refine blk_put (cs := #[.int .i64 1, .string (a0.extract 0 (x5_1 : Int).toNat), .int .i64 0, .int .i64 0, .int .i64 0]) ?_ 4 _ rfl; (with_reducible repeat (first | refine blk_drewN ?_ _ | refine blk_drew ?_ | refine blk_alloc ?_ _)); refine blk_put (cs := #[.int .i64 1, .string (a0.extract 0 (x5_1 : Int).toNat), .int .i64 0, .int .i64 0, .int .i64 0]) ?_ 3 _ rfl; (with_reducible repeat (first | refine blk_drewN ?_ _ | refine blk_drew ?_ | refine blk_alloc ?_ _)); refine blk_put (cs := #[.int .i64 1, .string (a0.extract 0 (x5_1 : Int).toNat), .int .i64 0, .int .i64 0, .int .i64 0]) ?_ 2 _ rfl; (with_reducible repeat (first | refine blk_drewN ?_ _ | refine blk_drew ?_ | refine blk_alloc ?_ _)); refine blk_put (cs := #[.int .i64 1, .string (⟨#[]⟩ : ByteArray), .int .i64 0, .int .i64 0, .int .i64 0]) ?_ 1 _ rfl; (with_reducible repeat (first | refine blk_drewN ?_ _ | refine blk_drew ?_ | refine blk_alloc ?_ _)); refine blk_put (cs := #[.int .i64 0, .string (⟨#[]⟩ : ByteArray), .int .i64 0, .int .i64 0, .int .i64 0]) ?_ 0 _ rfl; (with_reducible repeat (first | refine blk_drewN ?_ _ | refine blk_drew ?_ | refine blk_alloc ?_ _)); exact BK342.out) Tryz.underlying29 rfl (by kernel_rfl)) rfl ?_
                        exact ⟨by first | rfl | (simp [errW_none, errW_some] <;> rfl) | (simp only [← hji10]; first | rfl | (simp [errW_none, errW_some] <;> rfl)) | (simp [*, errW_none, errW_some] <;> rfl), by repeat (first | (with_reducible first | exact HB.out | apply below_alloc | apply pw_below_drewN | apply below_drew1 | refine below_set ?_ GE342.out) | exact HB.out)⟩
                      · rw [if_neg c18] at H
                        exact absurd H (by simp)
                    · rw [if_neg c17] at H
                      exact absurd H (by simp)
                · rw [if_neg c14] at H
                  have c14b0 : (t344 == 0) = false := beq_eq_false_iff_ne.mpr c14
                  have c14b1 : (t344 != 0) = true := bne_iff_ne.mpr c14
                  have H' := Aside0.mk H
                  clear H
                  go_wp2_with (first | ((with_reducible refine gate_callee (f := 96) rfl ?_); refine goesL_ (some 27) rfl rfl Tryz.func96 (by kernel_rfl) rfl #[.string (a0.extract ((ji10) : Int).toNat a0.size)] rfl (by (try simp only [List.map_toArray, List.map_cons, List.map_nil]); first | done | (simp only [hji10]; rfl) | rfl | (simp only [List.length_drop, List.length_take]; rfl)) ?_; (with_reducible refine (lexer_part.calls (a0.extract ((ji10) : Int).toNat a0.size) t344 _ A13.out).mono ?_); rintro e w' ⟨rfl, ⟨nd, rfl⟩⟩; refine ⟨_, rfl, ?_⟩))
                  go_roundg kj3
                  case measure => have := HK1.out; have := HJ3.out; omega
                  case rel => exact ⟨(wrap64 (x5_1 + (wrap64 (1 + t344)))), (by first | rfl | (simp; done) | (simp [*]; done)), H', ⟨by have := HK1.out; have := HJ3.out; omega⟩, ⟨by (with_reducible repeat (first | refine blk_drewN ?_ _ | refine blk_drew ?_ | refine blk_alloc ?_ _)); exact BK342.out⟩, ⟨by repeat (first | (with_reducible first | exact HB.out | apply below_alloc | apply pw_below_drewN | apply below_drew1 | refine below_set ?_ GE342.out) | exact HB.out)⟩⟩
              · rw [if_neg c12] at H
                exact absurd H (by simp)
            · rw [if_neg c11] at H
              exact absurd H (by simp)
          · replace c9 := Bool.eq_false_iff.mpr c9
            subst c9
            have H1 : (if x5_1 > 100 then (some (0, (⟨#[]⟩ : ByteArray), 0, 0, 0, x5_1, 4)) else (if 0 ≤ x5_1 then (if x5_1 ≤ (a0.size : Int) then (some (1, a0.extract 0 (x5_1 : Int).toNat, 0, 0, 0, x5_1, 0)) else (none)) else (none))) = some (r1, r2, r3, r4, r5, r6, r7) := by rw [if_neg (show ¬ (false = true) by decide)] at H; exact H
            clear H
            have H := H1
            clear H1
            by_cases c20 : x5_1 > 100
            · rw [if_pos c20] at H
              have c20b0 : decide (100 < x5_1) = true := decide_eq_true c20
              clear c20
              simp only [Option.some.injEq, Prod.mk.injEq] at H
              obtain ⟨rfl, rfl, rfl, rfl, rfl, rfl, rfl⟩ := H
              have hcz21_0 : wc.cell? ⟨gb342, 0, none⟩ = some (.int .i64 0) := (blk_cell BK342.out 0).trans rfl
              have hcz21_1 : wc.cell? ⟨gb342, 1, none⟩ = some (.string (⟨#[]⟩ : ByteArray)) := (blk_cell BK342.out 1).trans rfl
              have hcz21_2 : wc.cell? ⟨gb342, 2, none⟩ = some (.int .i64 0) := (blk_cell BK342.out 2).trans rfl
              have hcz21_3 : wc.cell? ⟨gb342, 3, none⟩ = some (.int .i64 0) := (blk_cell BK342.out 3).trans rfl
              have hcz21_4 : wc.cell? ⟨gb342, 4, none⟩ = some (.int .i64 0) := (blk_cell BK342.out 4).trans rfl
              have hfz21_0 := blk_frozen BK342.out 0
              have hfz21_1 := blk_frozen BK342.out 1
              have hfz21_2 := blk_frozen BK342.out 2
              have hfz21_3 := blk_frozen BK342.out 3
              have hfz21_4 := blk_frozen BK342.out 4
              go_wp2
              refine bodyPost_ret (results_ctt rfl _ _ gb342 29 #[.int .i64 0, .string (⟨#[]⟩ : ByteArray), .int .i64 0, .int .i64 0, .int .i64 0] (0, 0) _ rfl (by (with_reducible repeat (first | refine blk_drewN ?_ _ | refine blk_drew ?_ | refine blk_alloc ?_ _)); refine blk_put (cs := #[.int .i64 0, .string (⟨#[]⟩ : ByteArray), .int .i64 0, .int .i64 0, .int .i64 0]) ?_ 4 _ rfl; (with_reducible repeat (first | refine blk_drewN ?_ _ | refine blk_drew ?_ | refine blk_alloc ?_ _)); refine blk_put (cs := #[.int .i64 0, .string (⟨#[]⟩ : ByteArray), .int .i64 0, .int .i64 0, .int .i64 0]) ?_ 3 _ rfl; (with_reducible repeat (first | refine blk_drewN ?_ _ | refine blk_drew ?_ | refine blk_alloc ?_ _)); refine blk_put (cs := #[.int .i64 0, .string (⟨#[]⟩ : ByteArray), .int .i64 0, .int .i64 0, .int .i64 0]) ?_ 2 _ rfl; (with_reducible repeat (first | refine blk_drewN ?_ _ | refine blk_drew ?_ | refine blk_alloc ?_ _)); refine blk_put (cs := #[.int .i64 0, .string (⟨#[]⟩ : ByteArray), .int .i64 0, .int .i64 0, .int .i64 0]) ?_ 1 _ rfl; (with_reducible repeat (first | refine blk_drewN ?_ _ | refine blk_drew ?_ | refine blk_alloc ?_ _)); refine blk_put (cs := #[.int .i64 0, .string (⟨#[]⟩ : ByteArray), .int .i64 0, .int .i64 0, .int .i64 0]) ?_ 0 _ rfl; (with_reducible repeat (first | refine blk_drewN ?_ _ | refine blk_drew ?_ | refine blk_alloc ?_ _)); exact BK342.out) Tryz.underlying29 rfl (by kernel_rfl)) rfl ?_
              exact ⟨by first | rfl | (simp [errW_none, errW_some] <;> rfl) | (simp [*, errW_none, errW_some] <;> rfl), by repeat (first | (with_reducible first | exact HB.out | apply below_alloc | apply pw_below_drewN | apply below_drew1 | refine below_set ?_ GE342.out) | exact HB.out)⟩
            · rw [if_neg c20] at H
              have c20b0 : decide (100 < x5_1) = false := decide_eq_false c20
              clear c20
              by_cases c22 : 0 ≤ x5_1
              · rw [if_pos c22] at H
                have c22b0 := eq_true c22
                have c22b1 : decide (0 ≤ x5_1) = true := decide_eq_true c22
                clear c22
                by_cases c23 : x5_1 ≤ (a0.size : Int)
                · rw [if_pos c23] at H
                  have c23b0 := eq_true c23
                  have c23b1 : decide (x5_1 ≤ (a0.size : Int)) = true := decide_eq_true c23
                  clear c23
                  simp only [Option.some.injEq, Prod.mk.injEq] at H
                  obtain ⟨rfl, rfl, rfl, rfl, rfl, rfl, rfl⟩ := H
                  have hcz24_0 : wc.cell? ⟨gb342, 0, none⟩ = some (.int .i64 0) := (blk_cell BK342.out 0).trans rfl
                  have hcz24_1 : wc.cell? ⟨gb342, 1, none⟩ = some (.string (⟨#[]⟩ : ByteArray)) := (blk_cell BK342.out 1).trans rfl
                  have hcz24_2 : wc.cell? ⟨gb342, 2, none⟩ = some (.int .i64 0) := (blk_cell BK342.out 2).trans rfl
                  have hcz24_3 : wc.cell? ⟨gb342, 3, none⟩ = some (.int .i64 0) := (blk_cell BK342.out 3).trans rfl
                  have hcz24_4 : wc.cell? ⟨gb342, 4, none⟩ = some (.int .i64 0) := (blk_cell BK342.out 4).trans rfl
                  have hfz24_0 := blk_frozen BK342.out 0
                  have hfz24_1 := blk_frozen BK342.out 1
                  have hfz24_2 := blk_frozen BK342.out 2
                  have hfz24_3 := blk_frozen BK342.out 3
                  have hfz24_4 := blk_frozen BK342.out 4
                  go_wp2
                  refine bodyPost_ret (results_ctt rfl _ _ gb342 29 #[.int .i64 1, .string (a0.extract 0 (x5_1 : Int).toNat), .int .i64 0, .int .i64 0, .int .i64 0] (0, 0) _ rfl (by (with_reducible repeat (first | refine blk_drewN ?_ _ | refine blk_drew ?_ | refine blk_alloc ?_ _)); refine blk_put (cs := #[.int .i64 1, .string (a0.extract 0 (x5_1 : Int).toNat), .int .i64 0, .int .i64 0, .int .i64 0]) ?_ 4 _ rfl; (with_reducible repeat (first | refine blk_drewN ?_ _ | refine blk_drew ?_ | refine blk_alloc ?_ _)); refine blk_put (cs := #[.int .i64 1, .string (a0.extract 0 (x5_1 : Int).toNat), .int .i64 0, .int .i64 0, .int .i64 0]) ?_ 3 _ rfl; (with_reducible repeat (first | refine blk_drewN ?_ _ | refine blk_drew ?_ | refine blk_alloc ?_ _)); refine blk_put (cs := #[.int .i64 1, .string (a0.extract 0 (x5_1 : Int).toNat), .int .i64 0, .int .i64 0, .int .i64 0]) ?_ 2 _ rfl; (with_reducible repeat (first | refine blk_drewN ?_ _ | refine blk_drew ?_ | refine blk_alloc ?_ _)); refine blk_put (cs := #[.int .i64 1, .string (⟨#[]⟩ : ByteArray), .int .i64 0, .int .i64 0, .int .i64 0]) ?_ 1 _ rfl; (with_reducible repeat (first | refine blk_drewN ?_ _ | refine blk_drew ?_ | refine blk_alloc ?_ _)); refine blk_put (cs := #[.int .i64 0, .string (⟨#[]⟩ : ByteArray), .int .i64 0, .int .i64 0, .int .i64 0]) ?_ 0 _ rfl; (with_reducible repeat (first | refine blk_drewN ?_ _ | refine blk_drew ?_ | refine blk_alloc ?_ _)); exact BK342.out) Tryz.underlying29 rfl (by kernel_rfl)) rfl ?_
                  exact ⟨by first | rfl | (simp [errW_none, errW_some] <;> rfl) | (simp [*, errW_none, errW_some] <;> rfl), by repeat (first | (with_reducible first | exact HB.out | apply below_alloc | apply pw_below_drewN | apply below_drew1 | refine below_set ?_ GE342.out) | exact HB.out)⟩
                · rw [if_neg c23] at H
                  exact absurd H (by simp)
              · rw [if_neg c22] at H
                exact absurd H (by simp)
end Go.Proofs.YteokilkcchdeiaaGreatDoor.Q
end
section
namespace Go.Proofs.YteokilkcchdeiaaGreatDoor.Q
open Go.Proofs.YteokilkcchdeiaaGreatDoor
open Go.Proofs.YteokilkcchdeiaaGreatDoor.X
open Go.RowKit Go.Proofs.YteokilkcchdeiaaGreatDoorW.PrintWords Go.Proofs.YteokilkcchdeiaaGreatDoorW.PrintLast Go.Proofs.YteokilkcchdeiaaGreatDoorW.PrintMore
attribute [local go_sem] max2_int min2_int max_two min_two max_three min_three max_four min_four   -- for this text's walks alone
set_option linter.unusedVariables false
set_option linter.unusedSimpArgs false
def lexer_sign.l0 : Nat → ByteArray → List ByteArray → Int → Int → Option (Int × ByteArray × Int × Int × Int × Int × Int)
  | 0, _, _, _, _ => none
  | k + 1, x0, x9, x10, x11 => if x11 < x10 then (if 0 ≤ x11 then (if x11 < (x9.length : Int) then ((strings_HasPrefix.f x0 (rdOf ByteArray.empty x9 x11)).bind fun t381 => (if t381 = true then (some (5, rdOf ByteArray.empty x9 x11, 0, 0, 0, ((rdOf ByteArray.empty x9 x11).size : Int), 0)) else (lexer_sign.l0 k x0 x9 x10 (wrap64 (x11 + 1))))) else (none)) else (none)) else (some (0, (⟨#[]⟩ : ByteArray), 0, 0, 0, 0, 0))
def lexer_sign.f (k : Nat) (a0 : ByteArray) : Option (Int × ByteArray × Int × Int × Int × Int × Int) := (strings_Fields.f (⟨#[61, 61, 32, 33, 61, 32, 60, 61, 32, 62, 61, 32, 61, 126, 32, 33, 126, 32, 38, 38, 32, 124, 124, 32, 62, 62, 32, 124, 61, 32, 124, 126, 32, 45, 62, 32, 61, 62, 32, 40, 32, 41, 32, 123, 32, 125, 32, 91, 32, 93, 32, 44, 32, 46, 32, 58, 32, 59, 32, 43, 32, 45, 32, 42, 32, 47, 32, 37, 32, 60, 32, 62, 32, 61, 32, 33, 32, 124, 32, 38, 32, 126, 32, 64, 32, 94, 32, 63]⟩ : ByteArray)).bind fun t377 => (lexer_sign.l0 k a0 t377 (t377.length : Int) 0)
set_option maxHeartbeats 8000000 in
set_option maxRecDepth 100000 in
theorem lexer_sign.calls (k : Nat) (a0 : ByteArray) (r1 : Int) (r2 : ByteArray) (r3 : Int) (r4 : Int) (r5 : Int) (r6 : Int) (r7 : Int) (w : World) (hT : Tabs w) (h : lexer_sign.f k a0 = some (r1, r2, r3, r4, r5, r6, r7)) :
    Calls Tryz.prog 72 #[.string a0] w fun e w' => e = .returned (.tuple #[.agg #[.int .i64 r1, .string r2, .int .i64 r3, .int .i64 r4, .int .i64 r5], .int .i64 r6, .int .i64 r7]) ∧ Below w.heap.size w w' := by
  have hu29 := Tryz.underlying29
  have HT := Aside0.mk hT
  clear hT
  have HB := Aside0.mk (Below.refl w.heap.size w)
  have H : ((strings_Fields.f (⟨#[61, 61, 32, 33, 61, 32, 60, 61, 32, 62, 61, 32, 61, 126, 32, 33, 126, 32, 38, 38, 32, 124, 124, 32, 62, 62, 32, 124, 61, 32, 124, 126, 32, 45, 62, 32, 61, 62, 32, 40, 32, 41, 32, 123, 32, 125, 32, 91, 32, 93, 32, 44, 32, 46, 32, 58, 32, 59, 32, 43, 32, 45, 32, 42, 32, 47, 32, 37, 32, 60, 32, 62, 32, 61, 32, 33, 32, 124, 32, 38, 32, 126, 32, 64, 32, 94, 32, 63]⟩ : ByteArray)).bind fun t377 => (lexer_sign.l0 k a0 t377 (t377.length : Int) 0)) = some (r1, r2, r3, r4, r5, r6, r7) := h
  clear h
  replace H := Option.bind_eq_some_iff.mp H
  obtain ⟨t377, A20, H⟩ := H
  replace H : (lexer_sign.l0 k a0 t377 (t377.length : Int) 0) = some (r1, r2, r3, r4, r5, r6, r7) := H
  have A2 := Aside0.mk A20
  clear A20
  have H' := Aside0.mk H
  clear H
  go_enter Tryz.func72, Tryz.ntmps72
  go_wp2_with (first | ((with_reducible refine gate_dst (N := 2) rfl ?_); refine box_event ?hg (N := 2) ?hd (cs := #[.int .i64 0, .string (⟨#[]⟩ : ByteArray), .int .i64 0, .int .i64 0, .int .i64 0]) (t := 29) ?hr ?_; (case hd => rfl); (case hg => rfl); (case hr => first | (go_simp; done) | (go_simp; rfl)); intro gb376 hg w3 hbox hb; have n0_ := Aside0.mk (below_step (by repeat (first | (with_reducible first | exact HB.out | apply below_alloc | apply pw_below_drewN | apply below_drew1) | exact HB.out)) hb); have n1_ := Aside0.mk (hbox); have n2_ := Aside0.mk ((by rw [hg]; exact (below_size (by repeat (first | (with_reducible first | exact HB.out | apply below_alloc | apply pw_below_drewN | apply below_drew1) | exact HB.out))) : w.heap.size ≤ gb376)); have n3_ := Aside0.mk ((by rw [hg]; exact (below_size (by repeat (first | (with_reducible first | exact HB.out | apply below_alloc | apply pw_below_drewN | apply below_drew1) | exact HB.out))) : w.heap.size ≤ gb376)); clear HB; have HB := n0_; have BK376 := n1_; have GW376 := n2_; have GE376 := n3_; clear n0_ n1_ n2_ n3_; clear hb hbox hg) | ((with_reducible refine gate_callee (f := 30) rfl ?_); refine goesL_ (some 9) rfl rfl Tryz.func30 (by kernel_rfl) rfl #[.string (⟨#[61, 61, 32, 33, 61, 32, 60, 61, 32, 62, 61, 32, 61, 126, 32, 33, 126, 32, 38, 38, 32, 124, 124, 32, 62, 62, 32, 124, 61, 32, 124, 126, 32, 45, 62, 32, 61, 62, 32, 40, 32, 41, 32, 123, 32, 125, 32, 91, 32, 93, 32, 44, 32, 46, 32, 58, 32, 59, 32, 43, 32, 45, 32, 42, 32, 47, 32, 37, 32, 60, 32, 62, 32, 61, 32, 33, 32, 124, 32, 38, 32, 126, 32, 64, 32, 94, 32, 63]⟩ : ByteArray)] rfl (by (try simp only [List.map_toArray, List.map_cons, List.map_nil]); first | done | rfl | (simp only [List.length_drop, List.length_take]; rfl)) ?_; (with_reducible refine (strings_Fields.calls (⟨#[61, 61, 32, 33, 61, 32, 60, 61, 32, 62, 61, 32, 61, 126, 32, 33, 126, 32, 38, 38, 32, 124, 124, 32, 62, 62, 32, 124, 61, 32, 124, 126, 32, 45, 62, 32, 61, 62, 32, 40, 32, 41, 32, 123, 32, 125, 32, 91, 32, 93, 32, 44, 32, 46, 32, 58, 32, 59, 32, 43, 32, 45, 32, 42, 32, 47, 32, 37, 32, 60, 32, 62, 32, 61, 32, 33, 32, 124, 32, 38, 32, 126, 32, 64, 32, 94, 32, 63]⟩ : ByteArray) t377 _ ?side1 A2.out).mono ?_); (case side1 => exact Tabs.below HT.out (by repeat (first | (with_reducible first | exact HB.out | apply below_alloc | apply pw_below_drewN | apply below_drew1 | refine below_set ?_ GE376.out) | exact HB.out))); rintro e w4 ⟨v378, rfl, ho0, hb⟩; refine ⟨_, rfl, ?_⟩; have n0_ := Aside0.mk (Kd.R_lower ho0 (below_size (by repeat (first | (with_reducible first | exact HB.out | apply below_alloc | apply pw_below_drewN | apply below_drew1 | refine below_set ?_ GE376.out) | exact HB.out)))); have n1_ := Aside0.mk (blk_below (g := gb376) (o := .cells #[.int .i64 0, .string (⟨#[]⟩ : ByteArray), .int .i64 0, .int .i64 0, .int .i64 0] 29 (0, 0)) (by (with_reducible repeat (first | refine blk_drewN ?_ _ | refine blk_drew ?_ | refine blk_alloc ?_ _)); exact BK376.out) hb); have n2_ := Aside0.mk (below_step (by repeat (first | (with_reducible first | exact HB.out | apply below_alloc | apply pw_below_drewN | apply below_drew1 | refine below_set ?_ GE376.out) | exact HB.out)) hb); clear BK376; clear HB; have HO379 := n0_; have BK376 := n1_; have HB := n2_; clear n0_ n1_ n2_; (try clear hb); (try clear hb2); (try clear hk); (try clear hi); (try clear ho0); obtain ⟨Ao5, co5, eo5⟩ := Kd.R_slice HO379.out; subst eo5))
  go_loopg [11] k (fun kq v11 w' => ∃ (x11_1 : Int) (x377000_1 : Int) (x377001_1 : ByteArray) (x377002_1 : Int) (x377003_1 : Int) (x377004_1 : Int), v11 = .int .i64 x11_1 ∧ Aside0 (lexer_sign.l0 kq a0 t377 (t377.length : Int) x11_1 = some (r1, r2, r3, r4, r5, r6, r7)) ∧ Aside0 (kq ≤ k) ∧ Aside0 (Kd.R Kd.string 9 w' w.heap.size (fun _ => True) (.slice Ao5 t377.length co5) t377) ∧ Aside0 (w'.heap[gb376]? = some (.cells #[.int .i64 x377000_1, .string x377001_1, .int .i64 x377002_1, .int .i64 x377003_1, .int .i64 x377004_1] 29 (0, 0))) ∧ Aside0 (Below w.heap.size w w'))
  case atStart => exact ⟨(0), (0), ((⟨#[]⟩ : ByteArray)), (0), (0), (0), (by first | rfl | (simp; done) | (simp [*]; done)), H', ⟨Nat.le_refl _⟩, ⟨by (with_reducible repeat (first | apply Kd.R_alloc | apply Kd.R_drewN | apply Kd.R_drew)); exact HO379.out⟩, ⟨by (with_reducible repeat (first | refine blk_drewN ?_ _ | refine blk_drew ?_ | refine blk_alloc ?_ _)); exact BK376.out⟩, ⟨by repeat (first | (with_reducible first | exact HB.out | apply below_alloc | apply pw_below_drewN | apply below_drew1 | refine below_set ?_ GE376.out) | exact HB.out)⟩⟩
  case round =>
    clear H'
    try clear p2
    try clear c3
    obtain ⟨x11_1, x377000_1, x377001_1, x377002_1, x377003_1, x377004_1, rfl, HA, HK1, HO_9, BK376, HB⟩ := hrel
    cases gk with
    | zero => exact absurd HA.out (by simp [lexer_sign.l0])
    | succ k1 =>
      have H := HA.out
      clear HA
      simp only [lexer_sign.l0] at H
      by_cases c6 : x11_1 < (t377.length : Int)
      · rw [if_pos c6] at H
        have c6b0 : decide (x11_1 < (t377.length : Int)) = true := decide_eq_true c6
        clear c6
        by_cases c7 : 0 ≤ x11_1
        · rw [if_pos c7] at H
          have c7b0 : decide (0 ≤ x11_1) = true := decide_eq_true c7
          clear c7
          by_cases c8 : x11_1 < (t377.length : Int)
          · rw [if_pos c8] at H
            have c8b0 : decide (x11_1 < (t377.length : Int)) = true := decide_eq_true c8
            clear c8
            replace H := Option.bind_eq_some_iff.mp H
            obtain ⟨t381, A90, H⟩ := H
            replace H : (if t381 = true then (some (5, rdOf ByteArray.empty t377 x11_1, 0, 0, 0, ((rdOf ByteArray.empty t377 x11_1).size : Int), 0)) else (lexer_sign.l0 k1 a0 t377 (t377.length : Int) (wrap64 (x11_1 + 1)))) = some (r1, r2, r3, r4, r5, r6, r7) := H
            have A9 := Aside0.mk A90
            clear A90
            by_cases c10 : t381 = true
            · subst c10
              have H1 : (some (5, rdOf ByteArray.empty t377 x11_1, 0, 0, 0, ((rdOf ByteArray.empty t377 x11_1).size : Int), 0)) = some (r1, r2, r3, r4, r5, r6, r7) := by rw [if_pos rfl] at H; exact H
              clear H
              have H := H1
              clear H1
              simp only [Option.some.injEq, Prod.mk.injEq] at H
              obtain ⟨rfl, rfl, rfl, rfl, rfl, rfl, rfl⟩ := H
              have p380 : 0 ≤ (x11_1 : Int) := of_decide_eq_true (by first | (with_reducible assumption) | assumption)
              have q380 : x11_1 < (t377.length : Int) := of_decide_eq_true (by first | (with_reducible assumption) | assumption)
              obtain ⟨ad380, e380, hx380_0⟩ := Kd.at_string (Kd.R_reads' HO_9.out).2.2 x11_1 p380 q380
              cases e380
              replace p380 := eq_true p380
              replace q380 := eq_true q380
              go_wp2_with (first | ((with_reducible refine gate_callee (f := 28) rfl ?_); refine goesL_ (some 17) rfl rfl Tryz.func28 (by kernel_rfl) rfl #[.string a0, .string (rdOf ByteArray.empty t377 x11_1)] rfl (by (try simp only [List.map_toArray, List.map_cons, List.map_nil]); first | done | rfl | (simp only [List.length_drop, List.length_take]; rfl)) ?_; (with_reducible refine (strings_HasPrefix.calls a0 (rdOf ByteArray.empty t377 x11_1) true _ A9.out).mono ?_); rintro e w' ⟨rfl, ⟨nd, rfl⟩⟩; refine ⟨_, rfl, ?_⟩; (try (rw [drewN_self wr]; generalize hq_ : World.drewN wr _ = wr; have n0_ : Aside0 (Kd.R Kd.string 9 wr w.heap.size (fun _ => True) (.slice (some ad380) t377.length co5) t377) := ⟨by rw [← hq_]; exact (by (with_reducible repeat (first | apply Kd.R_alloc | apply Kd.R_drewN | apply Kd.R_drew)); exact HO_9.out)⟩; have n1_ : Aside0 (wr.heap[gb376]? = some (.cells #[.int .i64 x377000_1, .string x377001_1, .int .i64 x377002_1, .int .i64 x377003_1, .int .i64 x377004_1] 29 (0, 0))) := ⟨by rw [← hq_]; exact (by (with_reducible repeat (first | refine blk_drewN ?_ _ | refine blk_drew ?_ | refine blk_alloc ?_ _)); exact BK376.out)⟩; have n2_ : Aside0 (Below w.heap.size w wr) := ⟨by rw [← hq_]; exact (by repeat (first | (with_reducible first | exact HB.out | apply below_alloc | apply pw_below_drewN | apply below_drew1 | refine below_set ?_ GE376.out) | exact HB.out))⟩; clear HO_9 BK376 HB hq_; have HO_9 := n0_; have BK376 := n1_; have HB := n2_; clear n0_ n1_ n2_)); have hcz11_0 : wr.cell? ⟨gb376, 0, none⟩ = some (.int .i64 x377000_1) := (blk_cell BK376.out 0).trans rfl; have hcz11_1 : wr.cell? ⟨gb376, 1, none⟩ = some (.string x377001_1) := (blk_cell BK376.out 1).trans rfl; have hcz11_2 : wr.cell? ⟨gb376, 2, none⟩ = some (.int .i64 x377002_1) := (blk_cell BK376.out 2).trans rfl; have hcz11_3 : wr.cell? ⟨gb376, 3, none⟩ = some (.int .i64 x377003_1) := (blk_cell BK376.out 3).trans rfl; have hcz11_4 : wr.cell? ⟨gb376, 4, none⟩ = some (.int .i64 x377004_1) := (blk_cell BK376.out 4).trans rfl; have hfz11_0 := blk_frozen BK376.out 0; have hfz11_1 := blk_frozen BK376.out 1; have hfz11_2 := blk_frozen BK376.out 2; have hfz11_3 := blk_frozen BK376.out 3; have hfz11_4 := blk_frozen BK376.out 4))
              refine bodyPost_ret (results_ctt rfl _ _ gb376 29 #[.int .i64 5, .string (rdOf ByteArray.empty t377 x11_1), .int .i64 0, .int .i64 0, .int .i64 0] (0, 0) _ rfl (by (with_reducible repeat (first | refine blk_drewN ?_ _ | refine blk_drew ?_ | refine blk_alloc ?_ _)); refine blk_put (cs := #[.int .i64 5, .string (rdOf ByteArray.empty t377 x11_1), .int .i64 0, .int .i64 0, .int .i64 x377004_1]) ?_ 4 _ rfl; (with_reducible repeat (first | refine blk_drewN ?_ _ | refine blk_drew ?_ | refine blk_alloc ?_ _)); refine blk_put (cs := #[.int .i64 5, .string (rdOf ByteArray.empty t377 x11_1), .int .i64 0, .int .i64 x377003_1, .int .i64 x377004_1]) ?_ 3 _ rfl; (with_reducible repeat (first | refine blk_drewN ?_ _ | refine blk_drew ?_ | refine blk_alloc ?_ _)); refine blk_put (cs := #[.int .i64 5, .string (rdOf ByteArray.empty t377 x11_1), .int .i64 x377002_1, .int .i64 x377003_1, .int .i64 x377004_1]) ?_ 2 _ rfl; (with_reducible repeat (first | refine blk_drewN ?_ _ | refine blk_drew ?_ | refine blk_alloc ?_ _)); refine blk_put (cs := #[.int .i64 5, .string x377001_1, .int .i64 x377002_1, .int .i64 x377003_1, .int .i64 x377004_1]) ?_ 1 _ rfl; (with_reducible repeat (first | refine blk_drewN ?_ _ | refine blk_drew ?_ | refine blk_alloc ?_ _)); refine blk_put (cs := #[.int .i64 x377000_1, .string x377001_1, .int .i64 x377002_1, .int .i64 x377003_1, .int .i64 x377004_1]) ?_ 0 _ rfl; (with_reducible repeat (first | refine blk_drewN ?_ _ | refine blk_drew ?_ | refine blk_alloc ?_ _)); exact BK376.out) Tryz.underlying29 rfl (by kernel_rfl)) rfl ?_
              exact ⟨by first | rfl | (simp [errW_none, errW_some] <;> rfl) | (simp [*, errW_none, errW_some] <;> rfl), by repeat (first | (with_reducible first | exact HB.out | apply below_alloc | apply pw_below_drewN | apply below_drew1 | refine below_set ?_ GE376.out) | exact HB.out)⟩
            · replace c10 := Bool.eq_false_iff.mpr c10
              subst c10
              have H1 : (lexer_sign.l0 k1 a0 t377 (t377.length : Int) (wrap64 (x11_1 + 1))) = some (r1, r2, r3, r4, r5, r6, r7) := by rw [if_neg (show ¬ (false = true) by decide)] at H; exact H
              clear H
              have H := H1
              clear H1
              have H' := Aside0.mk H
              clear H
              have p380 : 0 ≤ (x11_1 : Int) := of_decide_eq_true (by first | (with_reducible assumption) | assumption)
              have q380 : x11_1 < (t377.length : Int) := of_decide_eq_true (by first | (with_reducible assumption) | assumption)
              obtain ⟨ad380, e380, hx380_0⟩ := Kd.at_string (Kd.R_reads' HO_9.out).2.2 x11_1 p380 q380
              cases e380
              replace p380 := eq_true p380
              replace q380 := eq_true q380
              go_wp2_with (first | ((with_reducible refine gate_callee (f := 28) rfl ?_); refine goesL_ (some 17) rfl rfl Tryz.func28 (by kernel_rfl) rfl #[.string a0, .string (rdOf ByteArray.empty t377 x11_1)] rfl (by (try simp only [List.map_toArray, List.map_cons, List.map_nil]); first | done | rfl | (simp only [List.length_drop, List.length_take]; rfl)) ?_; (with_reducible refine (strings_HasPrefix.calls a0 (rdOf ByteArray.empty t377 x11_1) false _ A9.out).mono ?_); rintro e w' ⟨rfl, ⟨nd, rfl⟩⟩; refine ⟨_, rfl, ?_⟩))
              go_roundg k1
              case measure => have := HK1.out; omega
              case rel => exact ⟨(wrap64 (x11_1 + 1)), (x377000_1), (x377001_1), (x377002_1), (x377003_1), (x377004_1), (by first | rfl | (simp; done) | (simp [*]; done)), H', ⟨by have := HK1.out; omega⟩, ⟨by (with_reducible repeat (first | apply Kd.R_alloc | apply Kd.R_drewN | apply Kd.R_drew)); exact HO_9.out⟩, ⟨by (with_reducible repeat (first | refine blk_drewN ?_ _ | refine blk_drew ?_ | refine blk_alloc ?_ _)); exact BK376.out⟩, ⟨by repeat (first | (with_reducible first | exact HB.out | apply below_alloc | apply pw_below_drewN | apply below_drew1 | refine below_set ?_ GE376.out) | exact HB.out)⟩⟩
          · rw [if_neg c8] at H
            exact absurd H (by simp)
        · rw [if_neg c7] at H
          exact absurd H (by simp)
      · rw [if_neg c6] at H
        have c6b0 : decide (x11_1 < (t377.length : Int)) = false := decide_eq_false c6
        clear c6
        simp only [Option.some.injEq, Prod.mk.injEq] at H
        obtain ⟨rfl, rfl, rfl, rfl, rfl, rfl, rfl⟩ := H
        have hcz12_0 : wr.cell? ⟨gb376, 0, none⟩ = some (.int .i64 x377000_1) := (blk_cell BK376.out 0).trans rfl
        have hcz12_1 : wr.cell? ⟨gb376, 1, none⟩ = some (.string x377001_1) := (blk_cell BK376.out 1).trans rfl
        have hcz12_2 : wr.cell? ⟨gb376, 2, none⟩ = some (.int .i64 x377002_1) := (blk_cell BK376.out 2).trans rfl
        have hcz12_3 : wr.cell? ⟨gb376, 3, none⟩ = some (.int .i64 x377003_1) := (blk_cell BK376.out 3).trans rfl
        have hcz12_4 : wr.cell? ⟨gb376, 4, none⟩ = some (.int .i64 x377004_1) := (blk_cell BK376.out 4).trans rfl
        have hfz12_0 := blk_frozen BK376.out 0
        have hfz12_1 := blk_frozen BK376.out 1
        have hfz12_2 := blk_frozen BK376.out 2
        have hfz12_3 := blk_frozen BK376.out 3
        have hfz12_4 := blk_frozen BK376.out 4
        go_wp2
        refine bodyPost_ret (results_ctt rfl _ _ gb376 29 #[.int .i64 0, .string (⟨#[]⟩ : ByteArray), .int .i64 0, .int .i64 0, .int .i64 0] (0, 0) _ rfl (by (with_reducible repeat (first | refine blk_drewN ?_ _ | refine blk_drew ?_ | refine blk_alloc ?_ _)); refine blk_put (cs := #[.int .i64 0, .string (⟨#[]⟩ : ByteArray), .int .i64 0, .int .i64 0, .int .i64 x377004_1]) ?_ 4 _ rfl; (with_reducible repeat (first | refine blk_drewN ?_ _ | refine blk_drew ?_ | refine blk_alloc ?_ _)); refine blk_put (cs := #[.int .i64 0, .string (⟨#[]⟩ : ByteArray), .int .i64 0, .int .i64 x377003_1, .int .i64 x377004_1]) ?_ 3 _ rfl; (with_reducible repeat (first | refine blk_drewN ?_ _ | refine blk_drew ?_ | refine blk_alloc ?_ _)); refine blk_put (cs := #[.int .i64 0, .string (⟨#[]⟩ : ByteArray), .int .i64 x377002_1, .int .i64 x377003_1, .int .i64 x377004_1]) ?_ 2 _ rfl; (with_reducible repeat (first | refine blk_drewN ?_ _ | refine blk_drew ?_ | refine blk_alloc ?_ _)); refine blk_put (cs := #[.int .i64 0, .string x377001_1, .int .i64 x377002_1, .int .i64 x377003_1, .int .i64 x377004_1]) ?_ 1 _ rfl; (with_reducible repeat (first | refine blk_drewN ?_ _ | refine blk_drew ?_ | refine blk_alloc ?_ _)); refine blk_put (cs := #[.int .i64 x377000_1, .string x377001_1, .int .i64 x377002_1, .int .i64 x377003_1, .int .i64 x377004_1]) ?_ 0 _ rfl; (with_reducible repeat (first | refine blk_drewN ?_ _ | refine blk_drew ?_ | refine blk_alloc ?_ _)); exact BK376.out) Tryz.underlying29 rfl (by kernel_rfl)) rfl ?_
        exact ⟨by first | rfl | (simp [errW_none, errW_some] <;> rfl) | (simp [*, errW_none, errW_some] <;> rfl), by repeat (first | (with_reducible first | exact HB.out | apply below_alloc | apply pw_below_drewN | apply below_drew1 | refine below_set ?_ GE376.out) | exact HB.out)⟩
end Go.Proofs.YteokilkcchdeiaaGreatDoor.Q
end
section
namespace Go.Proofs.YteokilkcchdeiaaGreatDoor.X
open Go.RowKit Go.Proofs.YteokilkcchdeiaaGreatDoor Go.Proofs.YteokilkcchdeiaaGreatDoorW.PrintWords Go.Proofs.YteokilkcchdeiaaGreatDoorW.PrintLast Go.Proofs.YteokilkcchdeiaaGreatDoorW.PrintMore Go.Proofs.YteokilkcchdeiaaGreatDoor.Q
set_option linter.unusedVariables false
def unitsL : List (List UInt8 × Int) := [([100], 86400000), ([104], 3600000), ([109], 60000), ([115], 1000), ([109, 115], 1)]
def durStep (p : List UInt8 × Int) (u : List UInt8 × Int) : List UInt8 × Int := if 0 < p.2 / u.2 then (p.1 ++ Lib.itoa (p.2 / u.2) ++ u.1, p.2 % u.2) else p
def durN (ms : Int) (j : Nat) : List UInt8 × Int := (unitsL.take j).foldl durStep ([], ms)
theorem durN_succ (ms : Int) (j : Nat) (h : j < 5) : durN ms (j + 1) = durStep (durN ms j) (unitsL.getD j ([], 0)) := by
  unfold durN
  rw [List.take_succ_eq_append_getElem (by simpa [unitsL] using h), List.foldl_append]
  simp [List.getD_eq_getElem?_getD, show j < unitsL.length by simpa [unitsL] using h]
def lexer_Duration.f (ms : Int) : Option (ByteArray × Int) :=
  if ms < 0 ∨ 1099511627776 < ms then some (⟨#[]⟩, 2) else if ms = 0 then some (⟨#[48, 115]⟩, 0) else some (⟨(durN ms 5).1.toArray⟩, 0)
theorem fields_units : Lib.fields [100, 32, 104, 32, 109, 32, 115, 32, 109, 115] = [[100], [104], [109], [115], [109, 115]] := by decide +kernel
theorem itoa_len (n : Int) (h0 : 0 ≤ n) (h1 : n ≤ 1099511627776) : (Lib.itoa n).length ≤ 21 := Lib.itoa_length_le n (by omega) (by omega)
abbrev BuF (B b : Nat) (l : List UInt8) (w : World) : Prop := Lib.IsBuilderF 54 5 B b (Lib.byteCells l) w
theorem rowF_below {w w1 : World} {base : Nat} {e : TypeId} {size : Nat} {v : Value} {n : Nat} {xs : List Value} (h : w.ownsRowF base e size v n xs) (hb : Below w.heap.size w w1) : w1.ownsRowF base e size v n xs := by
  obtain ⟨h1, h2⟩ := h
  refine ⟨h1, ?_⟩
  rcases h2 with h2 | ⟨g, cap, cur, fz, rfl, hg, hh, r⟩
  · exact .inl h2
  · exact .inr ⟨g, cap, cur, fz, rfl, hg, (hb.block g (Array.getElem?_eq_some_iff.1 hh).1).trans hh, r⟩
theorem bufAt_below {B b : Nat} {p : Value} {bs : List Value} {w w1 : World} (h : Lib.BuilderAtF 54 5 B b p bs w) (hb : Below w.heap.size w w1) : Lib.BuilderAtF 54 5 B b p bs w1 := by
  obtain ⟨h0, v, h1, h2, h3⟩ := h
  exact ⟨h0, v, (hb.block b (Array.getElem?_eq_some_iff.1 h1).1).trans h1, rowF_below h2 hb, h3⟩
theorem buf_below {B b : Nat} {l : List UInt8} {w w1 : World} (h : BuF B b l w) (hb : Below w.heap.size w w1) : BuF B b l w1 := h.imp (fun z => bufAt_below z hb) (fun z => bufAt_below z hb)
theorem wstrF (B b : Nat) (l : List UInt8) (s : ByteArray) (w : World) (h : BuF B b l w) (hl : l.length + s.size ≤ 140737488355328) (hB : B ≤ w.heap.size) :
    Calls Tryz.prog 32 #[.pointer (some ⟨b, 0, none⟩), .string s] w fun e w' => e = .returned (.tuple #[.int .i64 s.size, .nilIface]) ∧ BuF B b (l ++ s.data.toList) w' ∧ Below B w w' ∧ Lib.OthersKept 5 (some b) w w' := by
  refine (Tryz.Builder_WriteString_k B b (Lib.byteCells l) s w h (by rw [bc_len]; exact hl) hB).mono ?_
  rintro e w' ⟨rfl, h1, h2, h3⟩
  have h4 : Lib.BuilderAtF 54 5 B b (.pointer (some ⟨b, 0, none⟩)) (Lib.byteCells (l ++ s.data.toList)) w' := by rw [Lib.byteCells_append]; exact h1
  exact ⟨rfl, Or.inr h4, h2, h3⟩
theorem bstrF (B b : Nat) (l : List UInt8) (w : World) (h : BuF B b l w) (hB : B ≤ w.heap.size) :
    Calls Tryz.prog 34 #[.pointer (some ⟨b, 0, none⟩)] w fun e w' => e = .returned (.string ⟨l.toArray⟩) ∧ Below B w w' := by
  refine (Tryz.Builder_String_any_k B b l w h hB).mono ?_
  rintro e w' ⟨rfl, _, h2, _⟩
  exact ⟨rfl, h2⟩
def uRow : Obj := .cells #[.string ⟨#[100]⟩, .string ⟨#[104]⟩, .string ⟨#[109]⟩, .string ⟨#[115]⟩, .string ⟨#[109, 115]⟩] 9 (0, 0)
theorem uRow_cell {w : World} {k : Nat} (h : w.heap[k]? = some uRow) (j : Nat) (hj : j < 5) : w.cell? ⟨k, j, none⟩ = some (.string ⟨(unitsL.getD j ([], 0)).1.toArray⟩) := by
  match j, hj with
  | 0, _ => simp [World.cell?, h, uRow, unitsL]
  | 1, _ => simp [World.cell?, h, uRow, unitsL]
  | 2, _ => simp [World.cell?, h, uRow, unitsL]
  | 3, _ => simp [World.cell?, h, uRow, unitsL]
  | 4, _ => simp [World.cell?, h, uRow, unitsL]
theorem uRow_kept {w w1 : World} {k b : Nat} (h : w.heap[k]? = some uRow) (hk : Lib.OthersKept 5 (some b) w w1) (hb : k ≠ b) : w1.heap[k]? = some uRow := hk k _ h (by simpa using hb) (by intro c fz; simp [uRow])
theorem unit_len (u : ByteArray) (L : Int) (w : World) (h : lexer_length.f u = some L) : Calls Tryz.prog 31 #[.string u] w fun e w' => e = .returned (.int .i64 L) ∧ Drawn0 w w' := lexer_length.calls u L w h
theorem unit_at (j : Nat) (h : j < 5) : lexer_length.f ⟨(unitsL.getD j ([], 0)).1.toArray⟩ = some (unitsL.getD j ([], 0)).2 ∧ 1 ≤ (unitsL.getD j ([], 0)).2 ∧ (unitsL.getD j ([], 0)).2 ≤ 86400000 ∧ (unitsL.getD j ([], 0)).1.length ≤ 2 := by
  match j, h with
  | 0, _ => exact ⟨by decide +kernel, by decide, by decide, by decide⟩
  | 1, _ => exact ⟨by decide +kernel, by decide, by decide, by decide⟩
  | 2, _ => exact ⟨by decide +kernel, by decide, by decide, by decide⟩
  | 3, _ => exact ⟨by decide +kernel, by decide, by decide, by decide⟩
  | 4, _ => exact ⟨by decide +kernel, by decide, by decide, by decide⟩
theorem durN_bound (ms : Int) (h0 : 0 ≤ ms) (h1 : ms ≤ 1099511627776) (j : Nat) (hj : j ≤ 5) : 0 ≤ (durN ms j).2 ∧ (durN ms j).2 ≤ 1099511627776 ∧ (durN ms j).1.length ≤ 23 * j := by
  induction j with
  | zero => exact ⟨h0, h1, by simp [durN]⟩
  | succ j ih =>
    obtain ⟨i0, i1, i2⟩ := ih (by omega)
    obtain ⟨_, u1, u2, u3⟩ := unit_at j (by omega)
    rw [durN_succ ms j (by omega)]
    unfold durStep
    split
    · refine ⟨Int.emod_nonneg _ (by omega), ?_, ?_⟩
      · have := Int.emod_lt_of_pos (durN ms j).2 (show 0 < (unitsL.getD j ([], 0)).2 by omega)
        simp only
        omega
      · have hq0 : 0 ≤ (durN ms j).2 / (unitsL.getD j ([], 0)).2 := Int.ediv_nonneg i0 (by omega)
        have hq1 : (durN ms j).2 / (unitsL.getD j ([], 0)).2 ≤ 1099511627776 := by
          refine Int.le_trans (Int.ediv_le_self _ i0) i1
        have := itoa_len _ hq0 hq1
        simp only [List.length_append]
        omega
    · exact ⟨i0, i1, by omega⟩
set_option maxHeartbeats 1000000 in
set_option maxRecDepth 100000 in
theorem lexer_Duration.calls (a0 : Int) (r1 : ByteArray) (r2 : Int) (w : World) (hT : Tabs w) (h : lexer_Duration.f a0 = some (r1, r2)) :
    Calls Tryz.prog 10 #[.int .i64 a0] w fun e w' => e = .returned (.tuple #[.string r1, .int .i64 r2]) ∧ Below w.heap.size w w' := by
  unfold lexer_Duration.f at h
  by_cases hn : a0 < 0
  · rw [if_pos (.inl hn)] at h
    have h1 := Option.some.inj h
    simp only [Prod.mk.injEq] at h1
    obtain ⟨rfl, rfl⟩ := h1
    have hd : decide (a0 < 0) = true := by simpa using hn
    clear h
    go_enter Tryz.func10, Tryz.ntmps10
    go_wp2
    go_ret2
    exact ⟨rfl, by repeat (first | exact Below.refl _ _ | apply below_drew1 | apply pw_below_drewN)⟩
  have hd : decide (a0 < 0) = false := by simpa using hn
  by_cases hg : 1099511627776 < a0
  · rw [if_pos (.inr hg)] at h
    have h1 := Option.some.inj h
    simp only [Prod.mk.injEq] at h1
    obtain ⟨rfl, rfl⟩ := h1
    clear h
    go_enter Tryz.func10, Tryz.ntmps10
    go_wp2
    go_ret2
    exact ⟨rfl, by repeat (first | exact Below.refl _ _ | apply below_drew1 | apply pw_below_drewN)⟩
  have hd2 : decide (1099511627776 < a0) = false := by simpa using hg
  rw [if_neg (by omega)] at h
  by_cases hz : a0 = 0
  · rw [if_pos hz] at h
    subst hz
    have h1 := Option.some.inj h
    simp only [Prod.mk.injEq] at h1
    obtain ⟨rfl, rfl⟩ := h1
    clear h hd hd2 hn hg
    go_enter Tryz.func10, Tryz.ntmps10
    go_wp2
    go_ret2
    exact ⟨rfl, by repeat (first | exact Below.refl _ _ | apply below_drew1 | apply pw_below_drewN)⟩
  rw [if_neg hz] at h
  have h1 := Option.some.inj h
  simp only [Prod.mk.injEq] at h1
  obtain ⟨rfl, rfl⟩ := h1
  clear h
  have h0 : (a0 == 0) = false := beq_eq_false_iff_ne.2 hz
  have hlo : 0 ≤ a0 := by omega
  have hhi : a0 ≤ 1099511627776 := by omega
  clear hn hg hz
  have HT := Aside0.mk hT
  have hfr := Lib.fresh_isBuilder 54 5 w
  have hb0 := (Below.refl w.heap.size w).alloc (Nat.le_refl _) (.cells #[.pointer none, .slice none 0 0] 54)
  have HFi := Tryz.strings_Fields_laid ⟨#[100, 32, 104, 32, 109, 32, 115, 32, 109, 115]⟩ (w.alloc (.cells #[.pointer none, .slice none 0 0] 54)) (by decide) (fun j b hb => of_decide_eq_true (List.all_eq_true.1 (show List.all [100, 32, 104, 32, 109, 32, 115, 32, 109, 115] (fun b : UInt8 => decide (b.toNat < 128)) = true by decide) b (List.mem_of_getElem? hb))) (hT.below hb0).1
  rw [show (⟨#[100, 32, 104, 32, 109, 32, 115, 32, 109, 115]⟩ : ByteArray).data.toList = [100, 32, 104, 32, 109, 32, 115, 32, 109, 115] from rfl, fields_units] at HFi
  clear hT
  have HF0 := Aside0.mk (show BuF w.heap.size w.heap.size [] ((w.alloc (.cells #[.pointer none, .slice none 0 0] 54)).alloc uRow) from (Lib.IsBuilderF.of hfr).alloc uRow)
  have HB0 := Aside0.mk (hb0.alloc (by simp) uRow)
  have HU0 := Aside0.mk (show ((w.alloc (.cells #[.pointer none, .slice none 0 0] 54)).alloc uRow).heap[w.heap.size + 1]? = some uRow from by
    have h_ := heap_alloc_new (w.alloc (.cells #[.pointer none, .slice none 0 0] 54)) uRow
    rw [World.size_alloc] at h_
    exact h_)
  clear hfr hb0
  go_enter Tryz.func10, Tryz.ntmps10
  go_wp2_with fail
  refine HFi.mono ?_
  rintro e w1 ⟨rfl, hw1⟩
  have hw2 : w1 = (w.alloc (.cells #[.pointer none, .slice none 0 0] 54)).alloc uRow := hw1
  rw [← hw2] at HF0 HB0 HU0
  clear HFi hw1 hw2
  go_wp2
  go_loopw [0, 18] (fun m i wr => ∃ j : Nat, j ≤ 5 ∧ i = .int .i64 j ∧ m = .int .i64 (durN a0 j).2 ∧ Aside0 (BuF w.heap.size w.heap.size (durN a0 j).1 wr) ∧ Aside0 (Below w.heap.size w wr) ∧ Aside0 (wr.heap[w.heap.size + 1]? = some uRow)) (fun _ i _ => 5 - (intOf i).toNat)
  case atStart => exact ⟨0, by omega, rfl, rfl, HF0, HB0, HU0⟩
  case round =>
    clear HF0 HB0 HU0
    obtain ⟨j, hj, rfl, rfl, HF, HB, HU⟩ := hrel
    have hsz := HB.out.size
    have hbd := durN_bound a0 hlo hhi j hj
    by_cases hlt : j < 5
    · obtain ⟨hL, hL1, hL2, hL3⟩ := unit_at j hlt
      have hcell := uRow_cell HU.out j hlt
      have HS := Aside0.mk (durN_succ a0 j hlt)
      generalize hu : (⟨(unitsL.getD j ([], 0)).1.toArray⟩ : ByteArray) = u at hL hcell
      generalize hv : (unitsL.getD j ([], 0)).2 = L at hL hL1 hL2
      generalize hm : (durN a0 j).2 = m at hbd
      have HSt : Aside0 (durStep (durN a0 j) (unitsL.getD j ([], 0)) = if 0 < m / L then ((durN a0 j).1 ++ Lib.itoa (m / L) ++ u.data.toList, m % L) else durN a0 j) := ⟨by unfold durStep; rw [hm, hv, ← hu]⟩
      have HM := Aside0.mk hm
      have husz : u.size ≤ 2 := by rw [← hu]; exact hL3
      clear hu hv hm hL3
      obtain ⟨hb1, hb2, hb3⟩ := hbd
      have HLen := fun W => unit_len u L W hL
      have HLen' := Aside0.mk HLen
      clear hL HLen
      by_cases hq : 0 < m / L
      · have HI := Aside0.mk (fun W hT => strconv_Itoa.calls (m / L) ⟨(Lib.itoa (m / L)).toArray⟩ W hT (by unfold strconv_Itoa.f; rw [if_pos ⟨by omega, Int.le_trans (Int.ediv_le_self _ hb1) (by omega)⟩]))
        have hil := itoa_len (m / L) (by omega) (Int.le_trans (Int.ediv_le_self _ hb1) hb2)
        have HQ : Aside0 (durN a0 (j + 1) = ((durN a0 j).1 ++ Lib.itoa (m / L) ++ u.data.toList, m % L)) := ⟨by rw [HS.out, HSt.out, if_pos hq]⟩
        go_wp2_with (first | (go_at_call 31; (with_reducible refine (HLen'.out _).mono ?_); rintro e w2 ⟨rfl, ⟨nd, rfl⟩⟩))
        refine (HI.out _ (HT.out.below (pw_below_drewN HB.out _))).mono ?_
        rintro e w2 ⟨rfl, hB2⟩
        have HB2 := Aside0.mk ((pw_below_drewN HB.out nd).trans (hB2.mono (show w.heap.size ≤ (wr.drewN nd).heap.size from (pw_below_drewN HB.out nd).size)))
        have HF2 := Aside0.mk (buf_below (buf_below HF.out (pw_below_drewN (Below.refl _ _) nd)) hB2)
        have HU2 : Aside0 (w2.heap[w.heap.size + 1]? = some uRow) := ⟨(hB2.block _ (Array.getElem?_eq_some_iff.1 HU.out).1).trans HU.out⟩
        have hsz2 := HB2.out.size
        clear hB2 hcell
        go_wp2_with fail
        refine (wstrF w.heap.size w.heap.size _ ⟨(Lib.itoa (m / L)).toArray⟩ _ HF2.out (by show _ + (Lib.itoa (m / L)).length ≤ _; omega) HB2.out.size).mono ?_
        rintro e w3 ⟨rfl, hF3, hB3, hK3⟩
        have HF3 := Aside0.mk hF3
        have HB3 := Aside0.mk (HB2.out.trans hB3)
        have HU3 := Aside0.mk (uRow_kept HU2.out hK3 (by omega))
        have hsz3 := HB3.out.size
        clear hF3 hB3 hK3
        go_wp2_with fail
        refine (wstrF w.heap.size w.heap.size _ u _ HF3.out (by rw [List.length_append]; show _ + (Lib.itoa (m / L)).length + _ ≤ _; omega) HB3.out.size).mono ?_
        rintro e w4 ⟨rfl, hF4, hB4, hK4⟩
        have HF4 := Aside0.mk hF4
        have HB4 := Aside0.mk (HB3.out.trans hB4)
        have HU4 := Aside0.mk (uRow_kept HU3.out hK4 (by omega))
        have hsz4 := HB4.out.size
        clear hF4 hB4 hK4
        go_wp2_with (first | (go_at_call 31; (with_reducible refine (HLen'.out _).mono ?_); rintro e w2 ⟨rfl, ⟨nd2, rfl⟩⟩))
        go_roundw
        case rel => exact ⟨j + 1, by omega, by go_num, by rw [HQ.out], ⟨by rw [HQ.out]; exact buf_below HF4.out (pw_below_drewN (Below.refl _ _) _)⟩, ⟨pw_below_drewN HB4.out _⟩, HU4⟩
        case measure => simp [intOf]; omega
      · have HQ : Aside0 (durN a0 (j + 1) = durN a0 j) := ⟨by rw [HS.out, HSt.out, if_neg hq]⟩
        go_wp2_with (first | (go_at_call 31; (with_reducible refine (HLen'.out _).mono ?_); rintro e w2 ⟨rfl, ⟨nd, rfl⟩⟩))
        go_roundw
        case rel => exact ⟨j + 1, by omega, by go_num, by rw [HQ.out, HM.out], ⟨by rw [HQ.out]; exact buf_below HF.out (pw_below_drewN (Below.refl _ _) _)⟩, ⟨pw_below_drewN HB.out _⟩, HU⟩
        case measure => simp [intOf]; omega
    · obtain rfl : j = 5 := by omega
      have HR := fun W (h : BuF w.heap.size w.heap.size (durN a0 5).1 W) hb => bstrF w.heap.size w.heap.size (durN a0 5).1 W h hb
      go_wp2_with (first | (go_at_call 34; (refine (HR _ HF.out HB.out.size).mono ?_); rintro e w3 ⟨rfl, hB3⟩; have HB3 := Aside0.mk (HB.out.trans hB3); clear hB3))
      go_ret2
      exact ⟨rfl, HB3.out⟩
end Go.Proofs.YteokilkcchdeiaaGreatDoor.X
end
section
namespace Go.Proofs.YteokilkcchdeiaaGreatDoor.X
open Go.RowKit Go.Proofs.YteokilkcchdeiaaGreatDoor Go.Proofs.YteokilkcchdeiaaGreatDoorW.PrintWords Go.Proofs.YteokilkcchdeiaaGreatDoorW.PrintLast Go.Proofs.YteokilkcchdeiaaGreatDoorW.PrintMore Go.Proofs.YteokilkcchdeiaaGreatDoor.Q
set_option linter.unusedVariables false
def textGo : List UInt8 → Int → List UInt8 → List UInt8 × Int × Int
  | [], i, _ => ([], i, 3)
  | [c], i, acc => if c = 34 then (acc, i + 1, 0) else if c = 10 then ([], i, 3) else if c = 92 then ([], i + 1, 3) else ([], i + 1, 3)
  | c :: d :: l, i, acc => if c = 34 then (acc, i + 1, 0) else if c = 10 then ([], i, 3)
      else if c = 92 then (if d = 110 then textGo l (i + 2) (acc ++ [10]) else if d = 92 ∨ d = 34 then textGo l (i + 2) (acc ++ [d]) else ([], i + 1, 3))
      else textGo (d :: l) (i + 1) (acc ++ [c])
theorem textGo_quote (l : List UInt8) (i : Int) (acc : List UInt8) : textGo (34 :: l) i acc = (acc, i + 1, 0) := by
  cases l <;> simp [textGo]
theorem textGo_line (l : List UInt8) (i : Int) (acc : List UInt8) : textGo (10 :: l) i acc = ([], i, 3) := by
  cases l <;> simp [textGo]
theorem textGo_other (c : UInt8) (l : List UInt8) (i : Int) (acc : List UInt8) (h1 : c ≠ 34) (h2 : c ≠ 10) (h3 : c ≠ 92) : textGo (c :: l) i acc = textGo l (i + 1) (acc ++ [c]) := by
  cases l <;> simp [textGo, h1, h2, h3]
theorem textGo_n (l : List UInt8) (i : Int) (acc : List UInt8) : textGo (92 :: 110 :: l) i acc = textGo l (i + 2) (acc ++ [10]) := by simp [textGo]
theorem textGo_esc (d : UInt8) (l : List UInt8) (i : Int) (acc : List UInt8) (h : d = 92 ∨ d = 34) : textGo (92 :: d :: l) i acc = textGo l (i + 2) (acc ++ [d]) := by
  rcases h with rfl | rfl <;> simp [textGo]
theorem textGo_bad (d : UInt8) (l : List UInt8) (i : Int) (acc : List UInt8) (h1 : d ≠ 110) (h2 : d ≠ 92) (h3 : d ≠ 34) : textGo (92 :: d :: l) i acc = ([], i + 1, 3) := by simp [textGo, h1, h2, h3]
theorem textGo_bad_end (i : Int) (acc : List UInt8) : textGo [92] i acc = ([], i + 1, 3) := by simp [textGo]
def textR (p : List UInt8 × Int × Int) : Int × ByteArray × Int × Int × Int × Int × Int := if p.2.2 = 0 then (4, ⟨p.1.toArray⟩, 0, 0, 0, p.2.1, 0) else (0, ⟨#[]⟩, 0, 0, 0, p.2.1, p.2.2)
theorem textR_bad (i : Int) : textR ([], i, 3) = (0, ⟨#[]⟩, 0, 0, 0, i, 3) := rfl
theorem textR_ok (l : List UInt8) (i : Int) : textR (l, i, 0) = (4, ⟨l.toArray⟩, 0, 0, 0, i, 0) := rfl
def lexer_text.f (s : ByteArray) : Option (Int × ByteArray × Int × Int × Int × Int × Int) :=
  if s.size ≤ 60000000000000 then some (if s.data.toList.headD 0 = 34 then textR (textGo (s.data.toList.drop 1) 1 []) else (0, ⟨#[]⟩, 0, 0, 0, 0, 0)) else none
theorem drop_cons (s : ByteArray) (k : Nat) (h : k < s.size) : s.data.toList.drop k = s[k] :: s.data.toList.drop (k + 1) := by
  rw [List.drop_eq_getElem_cons (by rw [tl_size]; exact h)]; rfl
theorem drop_end (s : ByteArray) (k : Nat) (h : s.size ≤ k) : s.data.toList.drop k = [] := List.drop_eq_nil_of_le (by rw [tl_size]; exact h)
theorem box_put5 {w : World} {g : Nat} {t : TypeId} {a b c d e : Value} (h : w.heap[g]? = some (.cells #[a, b, c, d, e] t (0, 0))) (a' b' c' d' e' : Value) :
    (((((w.setCell ⟨g, 0, none⟩ a').setCell ⟨g, 1, none⟩ b').setCell ⟨g, 2, none⟩ c').setCell ⟨g, 3, none⟩ d').setCell ⟨g, 4, none⟩ e').heap[g]? = some (.cells #[a', b', c', d', e'] t (0, 0)) :=
  blk_put (blk_put (blk_put (blk_put (blk_put h 0 a' rfl) 1 b' rfl) 2 c' rfl) 3 d' rfl) 4 e' rfl
theorem box_cells5 {w : World} {g : Nat} {t : TypeId} {a b c d e : Value} (h : w.heap[g]? = some (.cells #[a, b, c, d, e] t (0, 0))) :
    (w.cell? ⟨g, 0, none⟩ = some a ∧ w.cell? ⟨g, 1, none⟩ = some b ∧ w.cell? ⟨g, 2, none⟩ = some c ∧ w.cell? ⟨g, 3, none⟩ = some d ∧ w.cell? ⟨g, 4, none⟩ = some e) ∧
    (w.frozen? ⟨g, 0, none⟩ = false ∧ w.frozen? ⟨g, 1, none⟩ = false ∧ w.frozen? ⟨g, 2, none⟩ = false ∧ w.frozen? ⟨g, 3, none⟩ = false ∧ w.frozen? ⟨g, 4, none⟩ = false) := by
  refine ⟨⟨(blk_cell h 0).trans rfl, (blk_cell h 1).trans rfl, (blk_cell h 2).trans rfl, (blk_cell h 3).trans rfl, (blk_cell h 4).trans rfl⟩, ?_⟩
  exact ⟨blk_frozen h 0, blk_frozen h 1, blk_frozen h 2, blk_frozen h 3, blk_frozen h 4⟩
theorem bu_fresh {B g : Nat} {w : World} (h : w.heap[g]? = some (.cells #[.pointer none, .slice none 0 0] 54 (0, 0))) (hB : B ≤ g) : Bu B g [] w :=
  Or.inl ⟨hB, .slice none 0 0, h, World.ownsRow_nil _ _ _ _, by simp [Value.ownBlock]⟩
theorem byte_eq {c d : UInt8} (h : c = d) : ((c.toNat : Int) == (d.toNat : Int)) = true := by rw [h]; exact beq_self_eq_true _
theorem byte_ne {c d : UInt8} (h : ¬ c = d) : ((c.toNat : Int) == (d.toNat : Int)) = false := beq_eq_false_iff_ne.2 (fun e => h (UInt8.toNat_inj.1 (by omega)))
theorem head_at (s : ByteArray) (h : 0 < s.size) : s.data.toList.headD 0 = s[0] := by
  have h2 := drop_cons s 0 h
  rw [List.drop_zero] at h2
  rw [h2]; rfl
abbrev zTok : Obj := .cells #[.int .i64 0, .string ⟨#[]⟩, .int .i64 0, .int .i64 0, .int .i64 0] 29 (0, 0)
theorem below_put5 {B : Nat} {w0 w : World} (h : Below B w0 w) {g : Nat} (hg : B ≤ g) (a' b' c' d' e' : Value) :
    Below B w0 (((((w.setCell ⟨g, 0, none⟩ a').setCell ⟨g, 1, none⟩ b').setCell ⟨g, 2, none⟩ c').setCell ⟨g, 3, none⟩ d').setCell ⟨g, 4, none⟩ e') :=
  ((((h.setCell hg _).setCell hg _).setCell hg _).setCell hg _).setCell hg _
set_option maxHeartbeats 4000000 in
set_option maxRecDepth 100000 in
theorem lexer_text.calls (a0 : ByteArray) (r1 : Int) (r2 : ByteArray) (r3 r4 r5 r6 r7 : Int) (w : World) (h : lexer_text.f a0 = some (r1, r2, r3, r4, r5, r6, r7)) :
    Calls Tryz.prog 71 #[.string a0] w fun e w' => e = .returned (.tuple #[.agg #[.int .i64 r1, .string r2, .int .i64 r3, .int .i64 r4, .int .i64 r5], .int .i64 r6, .int .i64 r7]) ∧ Below w.heap.size w w' := by
  have hu := Tryz.underlying29
  unfold lexer_text.f at h
  split at h
  · rename_i hs
    have h := Option.some.inj h
    by_cases he : a0.size = 0
    · -- nothing
      have hl : a0.data.toList = [] := List.eq_nil_of_length_eq_zero (by rw [tl_size]; exact he)
      rw [if_neg (by rw [hl]; decide)] at h
      simp only [Prod.mk.injEq] at h
      obtain ⟨rfl, rfl, rfl, rfl, rfl, rfl, rfl⟩ := h
      have hb : a0.toList = [] := by rw [Lib.toList_data]; exact hl
      have hb2 : (!a0.toList.isEmpty) = false := by rw [hb]; rfl
      clear hl he
      go_enter Tryz.func71, Tryz.ntmps71
      go_wp2_with (first | ((with_reducible refine gate_dst (N := 2) rfl ?_); refine box_event ?hg (N := 2) ?hd (cs := #[.int .i64 0, .string (⟨#[]⟩ : ByteArray), .int .i64 0, .int .i64 0, .int .i64 0]) (t := 29) ?hr ?_; (case hd => rfl); (case hg => rfl); (case hr => first | (go_simp; done) | (go_simp; rfl)); intro g1 hg1 w3 hbox hb; have HX := Aside0.mk hbox; have HB := Aside0.mk hb; have HG := Aside0.mk hg1; have hsz := blk_lt hbox; obtain ⟨⟨z0, z1, z2, z3, z4⟩, y0, y1, y2, y3, y4⟩ := box_cells5 hbox; clear hbox hb hg1))
      refine bodyPost_ret (results_ctt rfl _ _ g1 29 #[.int .i64 0, .string ⟨#[]⟩, .int .i64 0, .int .i64 0, .int .i64 0] (0, 0) _ rfl (box_put5 HX.out _ _ _ _ _) Tryz.underlying29 rfl (by kernel_rfl)) rfl ?_
      exact ⟨rfl, below_put5 HB.out (by have h_ := HG.out; omega) _ _ _ _ _⟩
    have hb : a0.toList.isEmpty = false := by
      rw [Lib.toList_data]
      cases hq : a0.data.toList with
      | nil => exact absurd (by rw [← tl_size, hq]; rfl) he
      | cons c l => rfl
    have hb3 : ¬ a0.toList = [] := fun e => by rw [e] at hb; cases hb
    cases hq : a0.data.toList.headD 0 == 34
    · -- it begins otherwise
      have hq2 : ¬ a0.data.toList.headD 0 = 34 := by simpa using hq
      rw [if_neg hq2] at h
      simp only [Prod.mk.injEq] at h
      obtain ⟨rfl, rfl, rfl, rfl, rfl, rfl, rfl⟩ := h
      have hpos : 0 < a0.size := by omega
      have hb0 : ((a0[0].toNat : Int) == 34) = false := byte_ne (fun e => hq2 ((head_at a0 hpos).trans e))
      have hb1 : ((a0[0].toNat : Int) != 34) = true := by rw [bne, hb0]; rfl
      clear hq hq2 he
      go_enter Tryz.func71, Tryz.ntmps71
      go_wp2_with (first | ((with_reducible refine gate_dst (N := 2) rfl ?_); refine box_event ?hg (N := 2) ?hd (cs := #[.int .i64 0, .string (⟨#[]⟩ : ByteArray), .int .i64 0, .int .i64 0, .int .i64 0]) (t := 29) ?hr ?_; (case hd => rfl); (case hg => rfl); (case hr => first | (go_simp; done) | (go_simp; rfl)); intro g1 hg1 w3 hbox hb; have HX := Aside0.mk hbox; have HB := Aside0.mk hb; have HG := Aside0.mk hg1; have hsz := blk_lt hbox; obtain ⟨⟨z0, z1, z2, z3, z4⟩, y0, y1, y2, y3, y4⟩ := box_cells5 hbox; clear hbox hb hg1))
      refine bodyPost_ret (results_ctt rfl _ _ g1 29 #[.int .i64 0, .string ⟨#[]⟩, .int .i64 0, .int .i64 0, .int .i64 0] (0, 0) _ rfl (box_put5 HX.out _ _ _ _ _) Tryz.underlying29 rfl (by kernel_rfl)) rfl ?_
      exact ⟨rfl, below_put5 HB.out (by have h_ := HG.out; omega) _ _ _ _ _⟩
    have hq2 : a0.data.toList.headD 0 = 34 := by simpa using hq
    rw [if_pos hq2] at h
    have hpos : 0 < a0.size := by omega
    have hb0 : ((a0[0].toNat : Int) == 34) = true := byte_eq ((head_at a0 hpos).symm.trans hq2)
    have hb1 : ((a0[0].toNat : Int) != 34) = false := by rw [bne, hb0]; rfl
    have H := Aside0.mk h
    clear h hq hq2 he
    go_enter Tryz.func71, Tryz.ntmps71
    go_wp2_with (first | ((with_reducible refine gate_dst (N := 2) rfl ?_); refine box_event ?hg (N := 2) ?hd (cs := #[.int .i64 0, .string (⟨#[]⟩ : ByteArray), .int .i64 0, .int .i64 0, .int .i64 0]) (t := 29) ?hr ?_; (case hd => rfl); (case hg => rfl); (case hr => first | (go_simp; done) | (go_simp; rfl)); intro g1 hg1 w3 hbox hb; have HX := Aside0.mk hbox; have HB := Aside0.mk hb; have HG := Aside0.mk hg1; have hsz := blk_lt hbox; clear hbox hb hg1) | ((with_reducible refine gate_dst (N := 5) rfl ?_); refine box_event ?hg (N := 5) ?hd (cs := #[.pointer none, .slice none 0 0]) (t := 54) ?hr ?_; (case hd => rfl); (case hg => rfl); (case hr => first | (go_simp; done) | (go_simp; rfl)); intro g2 hg2 w5 hbox hb; have HF0 := Aside0.mk (bu_fresh (B := g1 + 1) hbox (by omega)); have HX0 := Aside0.mk (blk_below HX.out hb); have HB0 := Aside0.mk (below_step HB.out hb); have hsz0 := hb.size; clear hbox hb hg2 HX HB))
    clear hb0 hb1 hb hb3
    go_loopw [6] (fun i wr => ∃ (k : Nat) (acc : List UInt8), 1 ≤ k ∧ k ≤ a0.size ∧ acc.length ≤ k ∧ i = .int .i64 k ∧ Aside0 (textR (textGo (a0.data.toList.drop k) k acc) = (r1, r2, r3, r4, r5, r6, r7)) ∧ Aside0 (Bu (g1 + 1) g2 acc wr) ∧ Aside0 (Below w.heap.size w wr) ∧ Aside0 (wr.heap[g1]? = some zTok) ∧ g1 + 1 ≤ wr.heap.size) (fun i _ => a0.size - (intOf i).toNat)
    case atStart => exact ⟨1, [], by omega, by omega, by simp, rfl, H, HF0, HB0, HX0, by omega⟩
    case round =>
      clear HF0 HB0 HX0 H hsz0
      clear hsz
      obtain ⟨k, acc, hk1, hk, hacc, rfl, H, HF, HB, HX, hsz⟩ := hrel
      by_cases hlt : k < a0.size
      · have HD := Aside0.mk (drop_cons a0 k hlt)
        by_cases h34 : a0[k] = 34
        · -- the end
          have b34 : ((a0[k].toNat : Int) == 34) = true := byte_eq h34
          have h := H.out
          rw [HD.out, h34, textGo_quote, textR_ok] at h
          simp only [Prod.mk.injEq] at h
          obtain ⟨rfl, rfl, rfl, rfl, rfl, rfl, rfl⟩ := h
          clear H h34
          have HR := fun W (h : Bu (g1 + 1) g2 acc W) hb => bstr (g1 + 1) g2 acc W h hb
          go_wp2_with fail
          refine (HR _ HF.out hsz).mono ?_
          rintro e w4 ⟨rfl, hB⟩
          have HX4 := Aside0.mk ((hB.block g1 (by omega)).trans HX.out)
          have HB4 := Aside0.mk (HB.out.trans (hB.mono (by rw [HG.out]; omega)))
          clear hB HR
          obtain ⟨⟨z0, z1, z2, z3, z4⟩, y0, y1, y2, y3, y4⟩ := box_cells5 HX4.out
          go_wp2
          refine bodyPost_ret (results_ctt rfl _ _ g1 29 #[.int .i64 4, .string ⟨acc.toArray⟩, .int .i64 0, .int .i64 0, .int .i64 0] (0, 0) _ rfl (box_put5 HX4.out _ _ _ _ _) Tryz.underlying29 rfl (by kernel_rfl)) rfl ?_
          exact ⟨rfl, below_put5 HB4.out (by have h_ := HG.out; omega) _ _ _ _ _⟩
        have b34 : ((a0[k].toNat : Int) == 34) = false := byte_ne h34
        by_cases h10 : a0[k] = 10
        · have b10 : ((a0[k].toNat : Int) == 10) = true := byte_eq h10
          have h := H.out
          rw [HD.out, h10, textGo_line, textR_bad] at h
          simp only [Prod.mk.injEq] at h
          obtain ⟨rfl, rfl, rfl, rfl, rfl, rfl, rfl⟩ := h
          clear H h34 h10
          obtain ⟨⟨z0, z1, z2, z3, z4⟩, y0, y1, y2, y3, y4⟩ := box_cells5 HX.out
          go_wp2
          refine bodyPost_ret (results_ctt rfl _ _ g1 29 #[.int .i64 0, .string ⟨#[]⟩, .int .i64 0, .int .i64 0, .int .i64 0] (0, 0) _ rfl (box_put5 HX.out _ _ _ _ _) Tryz.underlying29 rfl (by kernel_rfl)) rfl ?_
          exact ⟨rfl, below_put5 HB.out (by have h_ := HG.out; omega) _ _ _ _ _⟩
        have b10 : ((a0[k].toNat : Int) == 10) = false := byte_ne h10
        by_cases h92 : a0[k] = 92
        · have b92 : ((a0[k].toNat : Int) == 92) = true := byte_eq h92
          by_cases hl2 : k + 1 < a0.size
          · have HD2 := Aside0.mk (drop_cons a0 (k + 1) hl2)
            have gl2 : decide ((k : Int) + 1 < (a0.size : Int)) = true := decide_eq_true (by omega)
            by_cases h110 : a0[k + 1] = 110
            · have c110 : ((a0[k + 1].toNat : Int) == 110) = true := byte_eq h110
              have H2 : Aside0 (textR (textGo (a0.data.toList.drop (k + 2)) ((k + 2 : Nat) : Int) (acc ++ [10])) = (r1, r2, r3, r4, r5, r6, r7)) := ⟨by rw [← H.out, HD.out, h92, HD2.out, h110, textGo_n]; rfl⟩
              clear h34 h10 h92 h110
              go_wp2_with fail
              refine (wbyte (g1 + 1) g2 acc (10) _ rfl _ HF.out (by omega) hsz).mono ?_
              rintro e w2 ⟨rfl, hF, hB⟩
              have HF2 := Aside0.mk hF
              have HX2 := Aside0.mk ((hB.block g1 (by omega)).trans HX.out)
              have HB2 := Aside0.mk (HB.out.trans (hB.mono (by rw [HG.out]; omega)))
              have hsz2 : g1 + 1 ≤ w2.heap.size := Nat.le_trans hsz hB.size
              clear hF hB
              go_wp2
              go_roundw
              case rel => exact ⟨k + 2, _, by omega, by omega, by rw [List.length_append]; simp; omega, by go_num, H2, HF2, HB2, HX2, hsz2⟩
              case measure => simp [intOf]; omega
            have c110 : ((a0[k + 1].toNat : Int) == 110) = false := byte_ne h110
            by_cases hesc : a0[k + 1] = 92 ∨ a0[k + 1] = 34
            · have H2 : Aside0 (textR (textGo (a0.data.toList.drop (k + 2)) ((k + 2 : Nat) : Int) (acc ++ [a0[k + 1]])) = (r1, r2, r3, r4, r5, r6, r7)) := ⟨by rw [← H.out, HD.out, h92, HD2.out, textGo_esc _ _ _ _ hesc]; rfl⟩
              clear h34 h10 h92 h110
              by_cases e92 : a0[k + 1] = 92
              · have c92 : ((a0[k + 1].toNat : Int) == 92) = true := byte_eq e92
                have HE := Aside0.mk e92
                clear e92 hesc
                go_wp2_with fail
                refine (wbyte (g1 + 1) g2 acc (a0[k + 1]) _ rfl _ HF.out (by omega) hsz).mono ?_
                rintro e w2 ⟨rfl, hF, hB⟩
                have HF2 := Aside0.mk hF
                have HX2 := Aside0.mk ((hB.block g1 (by omega)).trans HX.out)
                have HB2 := Aside0.mk (HB.out.trans (hB.mono (by rw [HG.out]; omega)))
                have hsz2 : g1 + 1 ≤ w2.heap.size := Nat.le_trans hsz hB.size
                clear hF hB
                go_wp2
                go_roundw
                case rel => exact ⟨k + 2, _, by omega, by omega, by rw [List.length_append]; simp; omega, by go_num, H2, HF2, HB2, HX2, hsz2⟩
                case measure => simp [intOf]; omega
              · have c92 : ((a0[k + 1].toNat : Int) == 92) = false := byte_ne e92
                have c34 : ((a0[k + 1].toNat : Int) == 34) = true := byte_eq (hesc.resolve_left e92)
                clear e92 hesc
                go_wp2_with fail
                refine (wbyte (g1 + 1) g2 acc (a0[k + 1]) _ rfl _ HF.out (by omega) hsz).mono ?_
                rintro e w2 ⟨rfl, hF, hB⟩
                have HF2 := Aside0.mk hF
                have HX2 := Aside0.mk ((hB.block g1 (by omega)).trans HX.out)
                have HB2 := Aside0.mk (HB.out.trans (hB.mono (by rw [HG.out]; omega)))
                have hsz2 : g1 + 1 ≤ w2.heap.size := Nat.le_trans hsz hB.size
                clear hF hB
                go_wp2
                go_roundw
                case rel => exact ⟨k + 2, _, by omega, by omega, by rw [List.length_append]; simp; omega, by go_num, H2, HF2, HB2, HX2, hsz2⟩
                case measure => simp [intOf]; omega
            · have c92 : ((a0[k + 1].toNat : Int) == 92) = false := byte_ne (fun e => hesc (.inl e))
              have c34 : ((a0[k + 1].toNat : Int) == 34) = false := byte_ne (fun e => hesc (.inr e))
              have h := H.out
              rw [HD.out, h92, HD2.out, textGo_bad _ _ _ _ h110 (fun e => hesc (.inl e)) (fun e => hesc (.inr e)), textR_bad] at h
              simp only [Prod.mk.injEq] at h
              obtain ⟨rfl, rfl, rfl, rfl, rfl, rfl, rfl⟩ := h
              clear H h34 h10 h92 h110 hesc
              obtain ⟨⟨z0, z1, z2, z3, z4⟩, y0, y1, y2, y3, y4⟩ := box_cells5 HX.out
              go_wp2
              refine bodyPost_ret (results_ctt rfl _ _ g1 29 #[.int .i64 0, .string ⟨#[]⟩, .int .i64 0, .int .i64 0, .int .i64 0] (0, 0) _ rfl (box_put5 HX.out _ _ _ _ _) Tryz.underlying29 rfl (by kernel_rfl)) rfl ?_
              exact ⟨rfl, below_put5 HB.out (by have h_ := HG.out; omega) _ _ _ _ _⟩
          · have HD2 := Aside0.mk (drop_end a0 (k + 1) (by omega))
            have gl2 : decide ((k : Int) + 1 < (a0.size : Int)) = false := decide_eq_false (by omega)
            have h := H.out
            rw [HD.out, h92, HD2.out, textGo_bad_end, textR_bad] at h
            simp only [Prod.mk.injEq] at h
            obtain ⟨rfl, rfl, rfl, rfl, rfl, rfl, rfl⟩ := h
            clear H h34 h10 h92
            obtain ⟨⟨z0, z1, z2, z3, z4⟩, y0, y1, y2, y3, y4⟩ := box_cells5 HX.out
            go_wp2
            refine bodyPost_ret (results_ctt rfl _ _ g1 29 #[.int .i64 0, .string ⟨#[]⟩, .int .i64 0, .int .i64 0, .int .i64 0] (0, 0) _ rfl (box_put5 HX.out _ _ _ _ _) Tryz.underlying29 rfl (by kernel_rfl)) rfl ?_
            exact ⟨rfl, below_put5 HB.out (by have h_ := HG.out; omega) _ _ _ _ _⟩
        have b92 : ((a0[k].toNat : Int) == 92) = false := byte_ne h92
        have H2 : Aside0 (textR (textGo (a0.data.toList.drop (k + 1)) ((k + 1 : Nat) : Int) (acc ++ [a0[k]])) = (r1, r2, r3, r4, r5, r6, r7)) := ⟨by rw [← H.out, HD.out, textGo_other _ _ _ _ h34 h10 h92]; rfl⟩
        clear h34 h10 h92
        go_wp2_with fail
        refine (wbyte (g1 + 1) g2 acc (a0[k]) _ rfl _ HF.out (by omega) hsz).mono ?_
        rintro e w2 ⟨rfl, hF, hB⟩
        have HF2 := Aside0.mk hF
        have HX2 := Aside0.mk ((hB.block g1 (by omega)).trans HX.out)
        have HB2 := Aside0.mk (HB.out.trans (hB.mono (by rw [HG.out]; omega)))
        have hsz2 : g1 + 1 ≤ w2.heap.size := Nat.le_trans hsz hB.size
        clear hF hB
        go_wp2
        go_roundw
        case rel => exact ⟨k + 1, _, by omega, by omega, by rw [List.length_append]; simp; omega, by go_num, H2, HF2, HB2, HX2, hsz2⟩
        case measure => simp [intOf]; omega
      · obtain rfl : k = a0.size := by omega
        have h := H.out
        rw [drop_end a0 a0.size (Nat.le_refl _)] at h
        simp only [textGo, textR_bad, Prod.mk.injEq] at h
        obtain ⟨rfl, rfl, rfl, rfl, rfl, rfl, rfl⟩ := h
        clear H
        obtain ⟨⟨z0, z1, z2, z3, z4⟩, y0, y1, y2, y3, y4⟩ := box_cells5 HX.out
        go_wp2
        refine bodyPost_ret (results_ctt rfl _ _ g1 29 #[.int .i64 0, .string ⟨#[]⟩, .int .i64 0, .int .i64 0, .int .i64 0] (0, 0) _ rfl (box_put5 HX.out _ _ _ _ _) Tryz.underlying29 rfl (by kernel_rfl)) rfl ?_
        exact ⟨rfl, below_put5 HB.out (by have h_ := HG.out; omega) _ _ _ _ _⟩
  · cases h
end Go.Proofs.YteokilkcchdeiaaGreatDoor.X
end
section
namespace Go.Proofs.YteokilkcchdeiaaGreatDoor.X
open Go.RowKit Go.Proofs.YteokilkcchdeiaaGreatDoor Go.Proofs.YteokilkcchdeiaaGreatDoorW.PrintWords Go.Proofs.YteokilkcchdeiaaGreatDoorW.PrintLast Go.Proofs.YteokilkcchdeiaaGreatDoorW.PrintMore Go.Proofs.YteokilkcchdeiaaGreatDoor.Q
set_option linter.unusedVariables false
structure Rd where
  kind : Int
  text : ByteArray
  num : Int
  den : Int
  at_ : Int
  size : Int
  err : Int
def Rd.val (r : Rd) : Value := .tuple #[.agg #[.int .i64 r.kind, .string r.text, .int .i64 r.num, .int .i64 r.den, .int .i64 r.at_], .int .i64 r.size, .int .i64 r.err]
def zRd (n e : Int) : Rd := ⟨0, ⟨#[]⟩, 0, 0, 0, n, e⟩
def pick (r : Rd) : Rd := if r.err = 0 then r else zRd r.size r.err
def firstOf (r0 r1 r2 r3 r4 : Rd) : Rd := if 0 < r0.size then pick r0 else if 0 < r1.size then pick r1 else if 0 < r2.size then pick r2 else if 0 < r3.size then pick r3 else if 0 < r4.size then pick r4 else zRd 0 3
abbrev readersRow : Obj := .cells #[.func (.func 68) #[] #[], .func (.func 69) #[] #[], .func (.func 70) #[] #[], .func (.func 71) #[] #[], .func (.func 72) #[] #[]] 129 (0, 0)
theorem row_cell {w : World} {rb : Nat} (h : w.heap[rb]? = some readersRow) : w.cell? ⟨rb, 0, none⟩ = some (.func (.func 68) #[] #[]) ∧ w.cell? ⟨rb, 1, none⟩ = some (.func (.func 69) #[] #[]) ∧ w.cell? ⟨rb, 2, none⟩ = some (.func (.func 70) #[] #[]) ∧ w.cell? ⟨rb, 3, none⟩ = some (.func (.func 71) #[] #[]) ∧ w.cell? ⟨rb, 4, none⟩ = some (.func (.func 72) #[] #[]) := by
  refine ⟨(blk_cell h 0).trans rfl, (blk_cell h 1).trans rfl, (blk_cell h 2).trans rfl, (blk_cell h 3).trans rfl, (blk_cell h 4).trans rfl⟩
def RdAt (f : Nat) (s : ByteArray) (r : Rd) : Prop := ∀ W, Tabs W → Calls Tryz.prog f #[.string s] W fun e w' => e = .returned (.tuple #[.agg #[.int .i64 r.kind, .string r.text, .int .i64 r.num, .int .i64 r.den, .int .i64 r.at_], .int .i64 r.size, .int .i64 r.err]) ∧ Below W.heap.size W w'
set_option maxHeartbeats 4000000 in
set_option maxRecDepth 100000 in
theorem first_any (rb : Nat) (s : ByteArray) (r0 r1 r2 r3 r4 : Rd) (H0 : RdAt 68 s r0) (H1 : RdAt 69 s r1) (H2 : RdAt 70 s r2) (H3 : RdAt 71 s r3) (H4 : RdAt 72 s r4) (w : World) (hT : Tabs w) (hrow : w.heap[rb]? = some readersRow) :
    Calls Tryz.prog 74 #[.slice (some ⟨rb, 0, none⟩) 5 5, .string s] w fun e w' => e = .returned (Rd.val (firstOf r0 r1 r2 r3 r4)) ∧ Below w.heap.size w w' := by
  have hu := Tryz.underlying29
  have HT := Aside0.mk hT
  clear hT
  have hrb : rb < w.heap.size := blk_lt hrow
  have HROW := Aside0.mk hrow
  clear hrow
  obtain ⟨rr, hrr⟩ : ∃ r, r = firstOf r0 r1 r2 r3 r4 := ⟨_, rfl⟩
  rw [← hrr]
  have HR := Aside0.mk hrr
  clear hrr
  go_enter Tryz.func74, Tryz.ntmps74
  go_wp2_with (first | ((with_reducible refine gate_dst (N := 4) rfl ?_); refine box_event ?hg (N := 4) ?hd (cs := #[.int .i64 0, .string (⟨#[]⟩ : ByteArray), .int .i64 0, .int .i64 0, .int .i64 0]) (t := 29) ?hr ?_; (case hd => rfl); (case hg => rfl); (case hr => first | (go_simp; done) | (go_simp; rfl)); intro g1 hg1 w3 hbox hb; have HX := Aside0.mk hbox; have HB := Aside0.mk hb; have HG := Aside0.mk hg1; clear hbox hb hg1))
  go_loopw [14] (fun i wr => ∃ j : Nat, j ≤ 5 ∧ i = .int .i64 j ∧ Aside0 (rr = (match j with | 0 => firstOf r0 r1 r2 r3 r4 | 1 => (if 0 < r1.size then pick r1 else if 0 < r2.size then pick r2 else if 0 < r3.size then pick r3 else if 0 < r4.size then pick r4 else zRd 0 3) | 2 => (if 0 < r2.size then pick r2 else if 0 < r3.size then pick r3 else if 0 < r4.size then pick r4 else zRd 0 3) | 3 => (if 0 < r3.size then pick r3 else if 0 < r4.size then pick r4 else zRd 0 3) | 4 => (if 0 < r4.size then pick r4 else zRd 0 3) | _ => zRd 0 3)) ∧ Aside0 (Below w.heap.size w wr) ∧ Aside0 (wr.heap[g1]? = some zTok)) (fun i _ => 5 - (intOf i).toNat)
  case atStart => exact ⟨0, by omega, rfl, HR, HB, HX⟩
  case round =>
    clear HR HB HX
    obtain ⟨j, hj, rfl, HR, HB, HX⟩ := hrel
    have HROWr := Aside0.mk ((HB.out.block rb hrb).trans HROW.out)
    obtain ⟨k0, k1, k2, k3, k4⟩ := row_cell HROWr.out
    have HTr := Aside0.mk (HT.out.below HB.out)
    match j, hj with
    | 0, _ =>
      clear k1 k2 k3 k4
      by_cases hs : 0 < r0.size
      · by_cases he : r0.err = 0
        · have b1 : (r0.err != 0) = false := by simpa using he
          have b2 : decide (0 < r0.size) = true := decide_eq_true hs
          have HE := Aside0.mk (show rr = r0 from by rw [HR.out]; simp only [firstOf]; rw [if_pos hs, pick, if_pos he])
          have HZ := Aside0.mk he
          clear hs he HR
          go_wp2_with fail
          refine (H0 _ HTr.out).mono ?_
          rintro e w4 ⟨rfl, hB⟩
          have HX4 := Aside0.mk (blk_below HX.out hB)
          have HB4 := Aside0.mk (below_step HB.out hB)
          have hsz : g1 < w4.heap.size := blk_lt HX4.out
          clear hB
          obtain ⟨⟨z0, z1, z2, z3, z4⟩, y0, y1, y2, y3, y4⟩ := box_cells5 HX4.out
          go_wp2
          rw [HE.out]
          refine bodyPost_ret (results_ctt rfl _ _ g1 29 #[.int .i64 r0.kind, .string r0.text, .int .i64 r0.num, .int .i64 r0.den, .int .i64 r0.at_] (0, 0) _ rfl (blk_alloc (box_put5 HX4.out _ _ _ _ _) _) Tryz.underlying29 rfl (by kernel_rfl)) rfl ?_
          exact ⟨by rw [Rd.val, HZ.out]; rfl, below_alloc (below_put5 HB4.out (by have h_ := HG.out; omega) _ _ _ _ _) _⟩
        · have b1 : (r0.err != 0) = true := by simpa using he
          have b2 : decide (0 < r0.size) = true := decide_eq_true hs
          have HE := Aside0.mk (show rr = zRd r0.size r0.err from by rw [HR.out]; simp only [firstOf]; rw [if_pos hs, pick, if_neg he])
          clear hs he HR
          go_wp2_with fail
          refine (H0 _ HTr.out).mono ?_
          rintro e w4 ⟨rfl, hB⟩
          have HX4 := Aside0.mk (blk_below HX.out hB)
          have HB4 := Aside0.mk (below_step HB.out hB)
          have hsz : g1 < w4.heap.size := blk_lt HX4.out
          clear hB
          obtain ⟨⟨z0, z1, z2, z3, z4⟩, y0, y1, y2, y3, y4⟩ := box_cells5 HX4.out
          go_wp2
          rw [HE.out]
          refine bodyPost_ret (results_ctt rfl _ _ g1 29 #[.int .i64 0, .string ⟨#[]⟩, .int .i64 0, .int .i64 0, .int .i64 0] (0, 0) _ rfl (blk_alloc (box_put5 HX4.out _ _ _ _ _) _) Tryz.underlying29 rfl (by kernel_rfl)) rfl ?_
          exact ⟨rfl, below_alloc (below_put5 HB4.out (by have h_ := HG.out; omega) _ _ _ _ _) _⟩
      · have b2 : decide (0 < r0.size) = false := decide_eq_false hs
        have HE : Aside0 (rr = (if 0 < r1.size then pick r1 else if 0 < r2.size then pick r2 else if 0 < r3.size then pick r3 else if 0 < r4.size then pick r4 else zRd 0 3)) := ⟨by rw [HR.out]; simp only [firstOf]; rw [if_neg hs]⟩
        clear hs HR
        go_wp2_with fail
        refine (H0 _ HTr.out).mono ?_
        rintro e w4 ⟨rfl, hB⟩
        have HX4 := Aside0.mk (blk_below HX.out hB)
        have HB4 := Aside0.mk (below_step HB.out hB)
        have hsz : g1 < w4.heap.size := blk_lt HX4.out
        clear hB
        obtain ⟨⟨z0, z1, z2, z3, z4⟩, y0, y1, y2, y3, y4⟩ := box_cells5 HX4.out
        go_wp2
        go_roundw
        case rel => exact ⟨1, by omega, by go_num, HE, ⟨below_alloc HB4.out _⟩, ⟨blk_alloc HX4.out _⟩⟩
        case measure => simp [intOf]
    | 1, _ =>
      clear k0 k2 k3 k4
      by_cases hs : 0 < r1.size
      · by_cases he : r1.err = 0
        · have b1 : (r1.err != 0) = false := by simpa using he
          have b2 : decide (0 < r1.size) = true := decide_eq_true hs
          have HE := Aside0.mk (show rr = r1 from by rw [HR.out]; simp only [firstOf]; rw [if_pos hs, pick, if_pos he])
          have HZ := Aside0.mk he
          clear hs he HR
          go_wp2_with fail
          refine (H1 _ HTr.out).mono ?_
          rintro e w4 ⟨rfl, hB⟩
          have HX4 := Aside0.mk (blk_below HX.out hB)
          have HB4 := Aside0.mk (below_step HB.out hB)
          have hsz : g1 < w4.heap.size := blk_lt HX4.out
          clear hB
          obtain ⟨⟨z0, z1, z2, z3, z4⟩, y0, y1, y2, y3, y4⟩ := box_cells5 HX4.out
          go_wp2
          rw [HE.out]
          refine bodyPost_ret (results_ctt rfl _ _ g1 29 #[.int .i64 r1.kind, .string r1.text, .int .i64 r1.num, .int .i64 r1.den, .int .i64 r1.at_] (0, 0) _ rfl (blk_alloc (box_put5 HX4.out _ _ _ _ _) _) Tryz.underlying29 rfl (by kernel_rfl)) rfl ?_
          exact ⟨by rw [Rd.val, HZ.out]; rfl, below_alloc (below_put5 HB4.out (by have h_ := HG.out; omega) _ _ _ _ _) _⟩
        · have b1 : (r1.err != 0) = true := by simpa using he
          have b2 : decide (0 < r1.size) = true := decide_eq_true hs
          have HE := Aside0.mk (show rr = zRd r1.size r1.err from by rw [HR.out]; simp only [firstOf]; rw [if_pos hs, pick, if_neg he])
          clear hs he HR
          go_wp2_with fail
          refine (H1 _ HTr.out).mono ?_
          rintro e w4 ⟨rfl, hB⟩
          have HX4 := Aside0.mk (blk_below HX.out hB)
          have HB4 := Aside0.mk (below_step HB.out hB)
          have hsz : g1 < w4.heap.size := blk_lt HX4.out
          clear hB
          obtain ⟨⟨z0, z1, z2, z3, z4⟩, y0, y1, y2, y3, y4⟩ := box_cells5 HX4.out
          go_wp2
          rw [HE.out]
          refine bodyPost_ret (results_ctt rfl _ _ g1 29 #[.int .i64 0, .string ⟨#[]⟩, .int .i64 0, .int .i64 0, .int .i64 0] (0, 0) _ rfl (blk_alloc (box_put5 HX4.out _ _ _ _ _) _) Tryz.underlying29 rfl (by kernel_rfl)) rfl ?_
          exact ⟨rfl, below_alloc (below_put5 HB4.out (by have h_ := HG.out; omega) _ _ _ _ _) _⟩
      · have b2 : decide (0 < r1.size) = false := decide_eq_false hs
        have HE : Aside0 (rr = (if 0 < r2.size then pick r2 else if 0 < r3.size then pick r3 else if 0 < r4.size then pick r4 else zRd 0 3)) := ⟨by rw [HR.out]; simp only [firstOf]; rw [if_neg hs]⟩
        clear hs HR
        go_wp2_with fail
        refine (H1 _ HTr.out).mono ?_
        rintro e w4 ⟨rfl, hB⟩
        have HX4 := Aside0.mk (blk_below HX.out hB)
        have HB4 := Aside0.mk (below_step HB.out hB)
        have hsz : g1 < w4.heap.size := blk_lt HX4.out
        clear hB
        obtain ⟨⟨z0, z1, z2, z3, z4⟩, y0, y1, y2, y3, y4⟩ := box_cells5 HX4.out
        go_wp2
        go_roundw
        case rel => exact ⟨2, by omega, by go_num, HE, ⟨below_alloc HB4.out _⟩, ⟨blk_alloc HX4.out _⟩⟩
        case measure => simp [intOf]
    | 2, _ =>
      clear k0 k1 k3 k4
      by_cases hs : 0 < r2.size
      · by_cases he : r2.err = 0
        · have b1 : (r2.err != 0) = false := by simpa using he
          have b2 : decide (0 < r2.size) = true := decide_eq_true hs
          have HE := Aside0.mk (show rr = r2 from by rw [HR.out]; simp only [firstOf]; rw [if_pos hs, pick, if_pos he])
          have HZ := Aside0.mk he
          clear hs he HR
          go_wp2_with fail
          refine (H2 _ HTr.out).mono ?_
          rintro e w4 ⟨rfl, hB⟩
          have HX4 := Aside0.mk (blk_below HX.out hB)
          have HB4 := Aside0.mk (below_step HB.out hB)
          have hsz : g1 < w4.heap.size := blk_lt HX4.out
          clear hB
          obtain ⟨⟨z0, z1, z2, z3, z4⟩, y0, y1, y2, y3, y4⟩ := box_cells5 HX4.out
          go_wp2
          rw [HE.out]
          refine bodyPost_ret (results_ctt rfl _ _ g1 29 #[.int .i64 r2.kind, .string r2.text, .int .i64 r2.num, .int .i64 r2.den, .int .i64 r2.at_] (0, 0) _ rfl (blk_alloc (box_put5 HX4.out _ _ _ _ _) _) Tryz.underlying29 rfl (by kernel_rfl)) rfl ?_
          exact ⟨by rw [Rd.val, HZ.out]; rfl, below_alloc (below_put5 HB4.out (by have h_ := HG.out; omega) _ _ _ _ _) _⟩
        · have b1 : (r2.err != 0) = true := by simpa using he
          have b2 : decide (0 < r2.size) = true := decide_eq_true hs
          have HE := Aside0.mk (show rr = zRd r2.size r2.err from by rw [HR.out]; simp only [firstOf]; rw [if_pos hs, pick, if_neg he])
          clear hs he HR
          go_wp2_with fail
          refine (H2 _ HTr.out).mono ?_
          rintro e w4 ⟨rfl, hB⟩
          have HX4 := Aside0.mk (blk_below HX.out hB)
          have HB4 := Aside0.mk (below_step HB.out hB)
          have hsz : g1 < w4.heap.size := blk_lt HX4.out
          clear hB
          obtain ⟨⟨z0, z1, z2, z3, z4⟩, y0, y1, y2, y3, y4⟩ := box_cells5 HX4.out
          go_wp2
          rw [HE.out]
          refine bodyPost_ret (results_ctt rfl _ _ g1 29 #[.int .i64 0, .string ⟨#[]⟩, .int .i64 0, .int .i64 0, .int .i64 0] (0, 0) _ rfl (blk_alloc (box_put5 HX4.out _ _ _ _ _) _) Tryz.underlying29 rfl (by kernel_rfl)) rfl ?_
          exact ⟨rfl, below_alloc (below_put5 HB4.out (by have h_ := HG.out; omega) _ _ _ _ _) _⟩
      · have b2 : decide (0 < r2.size) = false := decide_eq_false hs
        have HE : Aside0 (rr = (if 0 < r3.size then pick r3 else if 0 < r4.size then pick r4 else zRd 0 3)) := ⟨by rw [HR.out]; simp only [firstOf]; rw [if_neg hs]⟩
        clear hs HR
        go_wp2_with fail
        refine (H2 _ HTr.out).mono ?_
        rintro e w4 ⟨rfl, hB⟩
        have HX4 := Aside0.mk (blk_below HX.out hB)
        have HB4 := Aside0.mk (below_step HB.out hB)
        have hsz : g1 < w4.heap.size := blk_lt HX4.out
        clear hB
        obtain ⟨⟨z0, z1, z2, z3, z4⟩, y0, y1, y2, y3, y4⟩ := box_cells5 HX4.out
        go_wp2
        go_roundw
        case rel => exact ⟨3, by omega, by go_num, HE, ⟨below_alloc HB4.out _⟩, ⟨blk_alloc HX4.out _⟩⟩
        case measure => simp [intOf]
    | 3, _ =>
      clear k0 k1 k2 k4
      by_cases hs : 0 < r3.size
      · by_cases he : r3.err = 0
        · have b1 : (r3.err != 0) = false := by simpa using he
          have b2 : decide (0 < r3.size) = true := decide_eq_true hs
          have HE := Aside0.mk (show rr = r3 from by rw [HR.out]; simp only [firstOf]; rw [if_pos hs, pick, if_pos he])
          have HZ := Aside0.mk he
          clear hs he HR
          go_wp2_with fail
          refine (H3 _ HTr.out).mono ?_
          rintro e w4 ⟨rfl, hB⟩
          have HX4 := Aside0.mk (blk_below HX.out hB)
          have HB4 := Aside0.mk (below_step HB.out hB)
          have hsz : g1 < w4.heap.size := blk_lt HX4.out
          clear hB
          obtain ⟨⟨z0, z1, z2, z3, z4⟩, y0, y1, y2, y3, y4⟩ := box_cells5 HX4.out
          go_wp2
          rw [HE.out]
          refine bodyPost_ret (results_ctt rfl _ _ g1 29 #[.int .i64 r3.kind, .string r3.text, .int .i64 r3.num, .int .i64 r3.den, .int .i64 r3.at_] (0, 0) _ rfl (blk_alloc (box_put5 HX4.out _ _ _ _ _) _) Tryz.underlying29 rfl (by kernel_rfl)) rfl ?_
          exact ⟨by rw [Rd.val, HZ.out]; rfl, below_alloc (below_put5 HB4.out (by have h_ := HG.out; omega) _ _ _ _ _) _⟩
        · have b1 : (r3.err != 0) = true := by simpa using he
          have b2 : decide (0 < r3.size) = true := decide_eq_true hs
          have HE := Aside0.mk (show rr = zRd r3.size r3.err from by rw [HR.out]; simp only [firstOf]; rw [if_pos hs, pick, if_neg he])
          clear hs he HR
          go_wp2_with fail
          refine (H3 _ HTr.out).mono ?_
          rintro e w4 ⟨rfl, hB⟩
          have HX4 := Aside0.mk (blk_below HX.out hB)
          have HB4 := Aside0.mk (below_step HB.out hB)
          have hsz : g1 < w4.heap.size := blk_lt HX4.out
          clear hB
          obtain ⟨⟨z0, z1, z2, z3, z4⟩, y0, y1, y2, y3, y4⟩ := box_cells5 HX4.out
          go_wp2
          rw [HE.out]
          refine bodyPost_ret (results_ctt rfl _ _ g1 29 #[.int .i64 0, .string ⟨#[]⟩, .int .i64 0, .int .i64 0, .int .i64 0] (0, 0) _ rfl (blk_alloc (box_put5 HX4.out _ _ _ _ _) _) Tryz.underlying29 rfl (by kernel_rfl)) rfl ?_
          exact ⟨rfl, below_alloc (below_put5 HB4.out (by have h_ := HG.out; omega) _ _ _ _ _) _⟩
      · have b2 : decide (0 < r3.size) = false := decide_eq_false hs
        have HE : Aside0 (rr = (if 0 < r4.size then pick r4 else zRd 0 3)) := ⟨by rw [HR.out]; simp only [firstOf]; rw [if_neg hs]⟩
        clear hs HR
        go_wp2_with fail
        refine (H3 _ HTr.out).mono ?_
        rintro e w4 ⟨rfl, hB⟩
        have HX4 := Aside0.mk (blk_below HX.out hB)
        have HB4 := Aside0.mk (below_step HB.out hB)
        have hsz : g1 < w4.heap.size := blk_lt HX4.out
        clear hB
        obtain ⟨⟨z0, z1, z2, z3, z4⟩, y0, y1, y2, y3, y4⟩ := box_cells5 HX4.out
        go_wp2
        go_roundw
        case rel => exact ⟨4, by omega, by go_num, HE, ⟨below_alloc HB4.out _⟩, ⟨blk_alloc HX4.out _⟩⟩
        case measure => simp [intOf]
    | 4, _ =>
      clear k0 k1 k2 k3
      by_cases hs : 0 < r4.size
      · by_cases he : r4.err = 0
        · have b1 : (r4.err != 0) = false := by simpa using he
          have b2 : decide (0 < r4.size) = true := decide_eq_true hs
          have HE := Aside0.mk (show rr = r4 from by rw [HR.out]; simp only [firstOf]; rw [if_pos hs, pick, if_pos he])
          have HZ := Aside0.mk he
          clear hs he HR
          go_wp2_with fail
          refine (H4 _ HTr.out).mono ?_
          rintro e w4 ⟨rfl, hB⟩
          have HX4 := Aside0.mk (blk_below HX.out hB)
          have HB4 := Aside0.mk (below_step HB.out hB)
          have hsz : g1 < w4.heap.size := blk_lt HX4.out
          clear hB
          obtain ⟨⟨z0, z1, z2, z3, z4⟩, y0, y1, y2, y3, y4⟩ := box_cells5 HX4.out
          go_wp2
          rw [HE.out]
          refine bodyPost_ret (results_ctt rfl _ _ g1 29 #[.int .i64 r4.kind, .string r4.text, .int .i64 r4.num, .int .i64 r4.den, .int .i64 r4.at_] (0, 0) _ rfl (blk_alloc (box_put5 HX4.out _ _ _ _ _) _) Tryz.underlying29 rfl (by kernel_rfl)) rfl ?_
          exact ⟨by rw [Rd.val, HZ.out]; rfl, below_alloc (below_put5 HB4.out (by have h_ := HG.out; omega) _ _ _ _ _) _⟩
        · have b1 : (r4.err != 0) = true := by simpa using he
          have b2 : decide (0 < r4.size) = true := decide_eq_true hs
          have HE := Aside0.mk (show rr = zRd r4.size r4.err from by rw [HR.out]; simp only [firstOf]; rw [if_pos hs, pick, if_neg he])
          clear hs he HR
          go_wp2_with fail
          refine (H4 _ HTr.out).mono ?_
          rintro e w4 ⟨rfl, hB⟩
          have HX4 := Aside0.mk (blk_below HX.out hB)
          have HB4 := Aside0.mk (below_step HB.out hB)
          have hsz : g1 < w4.heap.size := blk_lt HX4.out
          clear hB
          obtain ⟨⟨z0, z1, z2, z3, z4⟩, y0, y1, y2, y3, y4⟩ := box_cells5 HX4.out
          go_wp2
          rw [HE.out]
          refine bodyPost_ret (results_ctt rfl _ _ g1 29 #[.int .i64 0, .string ⟨#[]⟩, .int .i64 0, .int .i64 0, .int .i64 0] (0, 0) _ rfl (blk_alloc (box_put5 HX4.out _ _ _ _ _) _) Tryz.underlying29 rfl (by kernel_rfl)) rfl ?_
          exact ⟨rfl, below_alloc (below_put5 HB4.out (by have h_ := HG.out; omega) _ _ _ _ _) _⟩
      · have b2 : decide (0 < r4.size) = false := decide_eq_false hs
        have HE : Aside0 (rr = (zRd 0 3)) := ⟨by rw [HR.out]; simp only [firstOf]; rw [if_neg hs]⟩
        clear hs HR
        go_wp2_with fail
        refine (H4 _ HTr.out).mono ?_
        rintro e w4 ⟨rfl, hB⟩
        have HX4 := Aside0.mk (blk_below HX.out hB)
        have HB4 := Aside0.mk (below_step HB.out hB)
        have hsz : g1 < w4.heap.size := blk_lt HX4.out
        clear hB
        obtain ⟨⟨z0, z1, z2, z3, z4⟩, y0, y1, y2, y3, y4⟩ := box_cells5 HX4.out
        go_wp2
        go_roundw
        case rel => exact ⟨5, by omega, by go_num, HE, ⟨below_alloc HB4.out _⟩, ⟨blk_alloc HX4.out _⟩⟩
        case measure => simp [intOf]
    | 5, _ =>
      have HE := Aside0.mk (show rr = zRd 0 3 from HR.out)
      obtain ⟨⟨z0, z1, z2, z3, z4⟩, y0, y1, y2, y3, y4⟩ := box_cells5 HX.out
      clear HR k0 k1 k2 k3 k4
      go_wp2
      rw [HE.out]
      refine bodyPost_ret (results_ctt rfl _ _ g1 29 #[.int .i64 0, .string ⟨#[]⟩, .int .i64 0, .int .i64 0, .int .i64 0] (0, 0) _ rfl (box_put5 HX.out _ _ _ _ _) Tryz.underlying29 rfl (by kernel_rfl)) rfl ?_
      exact ⟨rfl, below_put5 HB.out (by have h_ := HG.out; omega) _ _ _ _ _⟩
    | j + 6, h => omega
end Go.Proofs.YteokilkcchdeiaaGreatDoor.X
end
section
namespace Go.Proofs.YteokilkcchdeiaaGreatDoor.X
open Go.RowKit Go.Shelf Go.Proofs.YteokilkcchdeiaaGreatDoor Go.Proofs.YteokilkcchdeiaaGreatDoorW.PrintWords Go.Proofs.YteokilkcchdeiaaGreatDoorW.PrintLast Go.Proofs.YteokilkcchdeiaaGreatDoorW.PrintMore Go.Proofs.YteokilkcchdeiaaGreatDoor.Q
set_option linter.unusedVariables false
attribute [local go_sem] Oper.semAt_some
structure Lex where
  F : List UInt8 → Rd
  B : List UInt8 → Nat
  hB : ∀ l, B l ≤ l.length
  hF : ∀ l, l ≠ [] → l.length ≤ 4000 → (F l).err = 0 → 0 < (F l).size ∧ (F l).size ≤ l.length
  reads : ∀ s : ByteArray, s.size ≤ 4000 → 0 < s.size → ∃ r0 r1 r2 r3 r4, RdAt 68 s r0 ∧ RdAt 69 s r1 ∧ RdAt 70 s r2 ∧ RdAt 71 s r3 ∧ RdAt 72 s r4 ∧ firstOf r0 r1 r2 r3 r4 = F s.data.toList
  blanks : ∀ (s : ByteArray) (i : Nat), s.size ≤ 4000 → i ≤ s.size → ∀ w, Calls Tryz.prog 73 #[.string s, .int .i64 i] w fun e w' => e = .returned (.int .i64 ((i + B (s.data.toList.drop i) : Nat) : Int)) ∧ Drawn0 w w'
def seqT (X : Lex) : Nat → List UInt8 → Nat → List Rd
  | 0, _, _ => []
  | k + 1, l, i => if l = [] then [] else
      let r := X.F l
      let n := r.size.toNat + X.B (l.drop r.size.toNat)
      { r with at_ := i } :: (if r.err = 0 then seqT X k (l.drop n) (i + n) else [])
def encT (r : Rd) : Array Value := #[.agg #[.int .i64 r.kind, .string r.text, .int .i64 r.num, .int .i64 r.den, .int .i64 r.at_], .int .i64 r.err]
theorem seqT_len (X : Lex) : ∀ k l i, (seqT X k l i).length ≤ k
  | 0, _, _ => by simp [seqT]
  | k + 1, l, i => by
    unfold seqT
    split
    · simp
    · simp only [List.length_cons]
      split
      · have := seqT_len X k (l.drop ((X.F l).size.toNat + X.B (l.drop (X.F l).size.toNat))) (i + ((X.F l).size.toNat + X.B (l.drop (X.F l).size.toNat))); omega
      · simp
theorem seqT_nil (X : Lex) (k i : Nat) : seqT X k [] i = [] := by cases k <;> simp [seqT]
theorem seqT_bad (X : Lex) (k : Nat) (l : List UInt8) (i : Nat) (r : Rd) (hr : X.F l = r) (h : l ≠ []) (he : ¬ r.err = 0) : seqT X (k + 1) l i = [{ r with at_ := i }] := by
  subst hr; unfold seqT; rw [if_neg h]; simp only [if_neg he]
theorem seqT_ok (X : Lex) (k : Nat) (l : List UInt8) (i : Nat) (r : Rd) (hr : X.F l = r) (h : l ≠ []) (he : r.err = 0) : seqT X (k + 1) l i = { r with at_ := i } :: seqT X k (l.drop (r.size.toNat + X.B (l.drop r.size.toNat))) (i + (r.size.toNat + X.B (l.drop r.size.toNat))) := by
  subst hr
  conv => lhs; unfold seqT
  rw [if_neg h]; simp only [if_pos he]
def Kt (n0 : Nat) (W W' : World) : Prop := Below n0 W W' ∧ ∀ (k : Nat) (c : Array Value) (t : TypeId), t ≠ 38 → t ≠ 29 → W.heap[k]? = some (.cells c t (0, 0)) → W'.heap[k]? = some (.cells c t (0, 0))
theorem Kt.trans {n0 : Nat} {A B C : World} (h : Kt n0 A B) (k : Kt n0 B C) : Kt n0 A C := ⟨h.1.trans k.1, fun j c t h1 h2 hj => k.2 j c t h1 h2 (h.2 j c t h1 h2 hj)⟩
theorem Kt.keep {n0 : Nat} {A B : World} (h : Kt n0 A B) {k : Nat} {c : Array Value} {t : TypeId} (hk : A.heap[k]? = some (.cells c t (0, 0))) (h1 : t ≠ 38) (h2 : t ≠ 29) : B.heap[k]? = some (.cells c t (0, 0)) := h.2 k c t h1 h2 hk
theorem grown_of_below {W W' : World} (h : Below W.heap.size W W') : W.grownBy W' none := ⟨h.os, h.tape, h.output, h.size, fun k hk _ => h.block k hk⟩
set_option maxHeartbeats 2000000 in
set_option maxRecDepth 100000 in
theorem scan1_in (X : Lex) (n : Nat) (hn : 1 ≤ n) (l sb : Nat) (s : ByteArray) (hs : s.size ≤ 4000) (w0 w1 : World) (J Jx : List Rd → World → Prop)
    (hJ : AbidesFrom w1.heap.size J) (hJx : AbidesFrom w1.heap.size Jx)
    (hY : ∀ pre x W1, J pre W1 → pre.length < 4001 → YieldAt Fence.wide (n - 1) Tryz.prog l (encT x) W1 fun e W' =>
      (e = .returned (.bool true) ∧ J (pre ++ [x]) W' ∧ Kt w0.heap.size W1 W') ∨ (e = .returned (.bool false) ∧ Jx (pre ++ [x]) W'))
    (hT : Tabs w0) (hB : Below w0.heap.size w0 w1) (hsb : w1.heap[sb]? = some (.cells #[.string s] 9 (0, 0))) (h0 : J [] w1) (xs : List Rd)
    (hxs : xs = seqT X 4001 (s.data.toList.drop (X.B s.data.toList)) (X.B s.data.toList)) :
    CallsIn Fence.wide n Tryz.prog 67 #[.func (.yield l) #[] #[], .pointer (some ⟨sb, 0, none⟩)] w1 fun e W' => (∃ v, e = .returned v) ∧
      ((∃ ys, ys = xs ∧ J ys W') ∨ (∃ pre, pre <+: xs ∧ Jx pre W')) := by
  have hu := Tryz.underlying29
  have HT := Aside0.mk hT
  have HB := Aside0.mk hB
  have HSB := Aside0.mk hsb
  have hsbl : sb < w1.heap.size := blk_lt hsb
  have hsc : w1.cell? ⟨sb, 0, none⟩ = some (.string s) := (blk_cell hsb 0).trans rfl
  have HX := Aside0.mk hxs
  have HY := Aside0.mk hY
  have HJ := Aside0.mk hJ
  have HJx := Aside0.mk hJx
  have H0 := Aside0.mk h0
  clear hT hB hsb hxs hY hJ hJx h0
  refine callsIn_of_wp Tryz.func67 rfl trivial ?_ rfl
  simp only [Tryz.ntmps67, List.size_toArray, List.length_cons, List.length_nil, Nat.reduceAdd, Nat.reduceSub, Array.replicate_succ, Array.replicate_zero, List.push_toArray, List.append_toArray, List.nil_append, List.cons_append]
  have HB0 := fun W => X.blanks s 0 hs (Nat.zero_le _) W
  rw [List.drop_zero] at HB0
  simp only [Nat.zero_add, Int.ofNat_zero] at HB0
  have hB0 : ∀ W, Calls Tryz.prog 73 #[.string s, .int .i64 0] W fun e w' => e = .returned (.int .i64 ((X.B s.data.toList : Nat) : Int)) ∧ Drawn0 W w' := HB0
  clear HB0
  have hrow : (w1.alloc readersRow).cell? ⟨sb, 0, none⟩ = some (.string s) := ((below_alloc (Below.refl _ w1) readersRow).cell (p := ⟨sb, 0, none⟩) hsbl).trans hsc
  gi_wp2_with (first | (refine ⟨trivial, ?_⟩; gi_at_call 73; refine (callsIn_wide.2 (hB0 _)).mono ?_; rintro e w2 ⟨rfl, ⟨nd, rfl⟩⟩))
  clear hrow hB0 hsc
  have hlen0 : X.B s.data.toList ≤ s.size := by have := X.hB s.data.toList; rw [tl_size] at this; exact this
  have hbel0 : Below w1.heap.size w1 ((w1.alloc readersRow).drewN nd) := pw_below_drewN (below_alloc (Below.refl _ w1) readersRow) nd
  have HJ0 := Aside0.mk (HJ.out _ _ _ none H0.out (grown_of_below hbel0) (fun r e => by cases e))
  have HBE0 := Aside0.mk (below_step HB.out hbel0)
  have HS0 := Aside0.mk (blk_below HSB.out hbel0)
  have HR0 : Aside0 (((w1.alloc readersRow).drewN nd).heap[w1.heap.size]? = some readersRow) := ⟨blk_drewN (blk_new w1 readersRow) nd⟩
  have hw1 : w1.heap.size ≤ ((w1.alloc readersRow).drewN nd).heap.size := hbel0.size
  clear hbel0 H0
  gi_loopw [4] (fun p wr => ∃ (i k : Nat) (pre : List Rd), p = .int .i64 i ∧ i ≤ s.size ∧ pre.length + k ≤ 4001 ∧ s.size < i + k ∧ Aside0 (pre ++ seqT X k (s.data.toList.drop i) i = xs) ∧ Aside0 (J pre wr) ∧ Aside0 (Below w0.heap.size w0 wr) ∧ Aside0 (wr.heap[sb]? = some (.cells #[.string s] 9 (0, 0))) ∧ Aside0 (wr.heap[w1.heap.size]? = some readersRow) ∧ w1.heap.size ≤ wr.heap.size) (fun p _ => s.size - (intOf p).toNat)
  case atStart => exact ⟨X.B s.data.toList, 4001, [], rfl, hlen0, by simp, by omega, ⟨HX.out.symm⟩, HJ0, HBE0, HS0, HR0, hw1⟩
  case round =>
    clear HJ0 HBE0 HS0 HR0 hw1 HX
    obtain ⟨i, k, pre, rfl, hi, hk1, hk2, HX, HJr, HBr, HSr, HRr, hwr⟩ := hrel
    have hsc : wr.cell? ⟨sb, 0, none⟩ = some (.string s) := (blk_cell HSr.out 0).trans rfl
    by_cases hlt : i < s.size
    · obtain ⟨k, rfl⟩ : ∃ m, k = m + 1 := ⟨k - 1, by omega⟩
      have hne : s.data.toList.drop i ≠ [] := by rw [drop_cons s i hlt]; simp
      have hll : (s.data.toList.drop i).length ≤ 4000 := by rw [List.length_drop, tl_size]; omega
      have hx := HX.out
      have HF := Aside0.mk (X.hF _ hne hll)
      obtain ⟨r0, r1, r2, r3, r4, g0, g1, g2, g3, g4, hfirst⟩ := X.reads (s.extract i s.size) (by rw [ByteArray.size_extract]; omega) (by rw [ByteArray.size_extract]; omega)
      rw [show (s.extract i s.size).data.toList = s.data.toList.drop i from by rw [Lib.extract_data, List.take_of_length_le (by rw [List.length_drop, tl_size]; omega)]] at hfirst
      have HFi := fun W hT hrow => hfirst ▸ first_any w1.heap.size (s.extract i s.size) r0 r1 r2 r3 r4 g0 g1 g2 g3 g4 W hT hrow
      have HFI := Aside0.mk HFi
      clear HFi hfirst g0 g1 g2 g3 g4 r0 r1 r2 r3 r4
      clear HX
      generalize hr : X.F (s.data.toList.drop i) = r at *
      have HR := Aside0.mk hr
      clear hr
      have HFv : ∀ W, Tabs W → W.heap[w1.heap.size]? = some readersRow → Calls Tryz.prog 74 #[.slice (some ⟨w1.heap.size, 0, none⟩) 5 5, .string (s.extract i s.size)] W fun e w' => e = .returned (.tuple #[.agg #[.int .i64 r.kind, .string r.text, .int .i64 r.num, .int .i64 r.den, .int .i64 r.at_], .int .i64 r.size, .int .i64 r.err]) ∧ Below W.heap.size W w' := fun W hT hrow => HFI.out W hT hrow
      have HFV := Aside0.mk HFv
      clear HFv HFI
      by_cases he : r.err = 0
      · have hb : (r.err != 0) = false := by simpa using he
        rw [seqT_ok X k _ i r HR.out hne he] at hx
        have HX := Aside0.mk hx
        obtain ⟨hsz1, hsz2⟩ := HF.out he
        have hdr : (s.data.toList.drop i).length = s.size - i := by rw [List.length_drop, tl_size]
        have hbb := X.hB ((s.data.toList.drop i).drop r.size.toNat)
        rw [List.length_drop, hdr] at hbb
        rw [hdr] at hsz2
        obtain ⟨m, hm⟩ : ∃ m : Nat, r.size = m := ⟨r.size.toNat, by omega⟩
        have HM := Aside0.mk hm
        have hmt : r.size.toNat = m := by omega
        rw [hmt] at hbb hx
        have HX := Aside0.mk hx
        have HBL := fun W => X.blanks s (i + m) hs (by omega) W
        rw [← List.drop_drop] at HBL
        generalize hq : X.B ((s.data.toList.drop i).drop m) = q at *
        have HBLa := Aside0.mk HBL
        have hmb : 1 ≤ m ∧ i + m ≤ s.size ∧ i + m + q ≤ s.size := by omega
        obtain ⟨hm1, hm2, hm3⟩ := hmb
        have E1 : Aside0 (wrap64 ((i : Int) + r.size) = ((i + m : Nat) : Int)) := ⟨by rw [hm]; unfold wrap64; omega⟩
        clear hx HBL hsz1 hsz2 hdr hbb hq hmt he HF hm
        gi_wp2_with (first | (refine ⟨trivial, ?_⟩; gi_at_call 74; refine (callsIn_wide.2 (HFV.out _ (HT.out.below HBr.out) HRr.out)).mono ?_; rintro e w2 ⟨rfl, hB2⟩; have hbel : Below wr.heap.size wr (w2.alloc (.cells #[.int .i64 r.kind, .string r.text, .int .i64 r.num, .int .i64 r.den, .int .i64 i] 29)) := below_alloc hB2 _; have hJ1 := HJ.out _ _ _ none HJr.out (grown_of_below hbel) (fun r e => by cases e); obtain ⟨fn, tmps, assign, body, hy, hRnd⟩ := HY.out pre { r with at_ := i } _ hJ1 (by omega); have HBel := Aside0.mk hbel; have HRnd := Aside0.mk hRnd; clear hbel hJ1 hRnd hB2; dsimp only [encT] at hy))
        refine HRnd.out.mono ?_
        rintro e W' (⟨rfl, hJ', hk⟩ | ⟨rfl, hJx'⟩)
        · have HJ' := Aside0.mk hJ'
          have HK' := Aside0.mk hk
          have hw3 : w1.heap.size ≤ W'.heap.size := Nat.le_trans hwr (Nat.le_trans HBel.out.size hk.1.size)
          have HS' := Aside0.mk (hk.keep (blk_below HSr.out HBel.out) (by decide) (by decide))
          have HR' := Aside0.mk (hk.keep (blk_below HRr.out HBel.out) (by decide) (by decide))
          have HB' := Aside0.mk ((below_step HBr.out HBel.out).trans hk.1)
          have hsc' : W'.cell? ⟨sb, 0, none⟩ = some (.string s) := (blk_cell HS'.out 0).trans rfl
          clear hJ' hk hy
          gi_wp2_with (first | (refine ⟨trivial, ?_⟩; gi_at_call 73; rw [E1.out]; refine (callsIn_wide.2 (HBLa.out _)).mono ?_; rintro e w5 ⟨rfl, ⟨nd5, rfl⟩⟩))
          have hbel5 : Below W'.heap.size W' (W'.drewN nd5) := pw_below_drewN (Below.refl _ _) nd5
          exact ⟨⟨i + m + q, k, pre ++ [{ r with at_ := i }], by simp, hm3, by simp; omega, by omega, ⟨by rw [← HX.out]; simp [List.drop_drop, Nat.add_assoc]⟩, ⟨HJ.out _ _ _ none HJ'.out (grown_of_below hbel5) (fun r e => by cases e)⟩, ⟨below_step HB'.out hbel5⟩, ⟨blk_below HS'.out hbel5⟩, ⟨blk_below HR'.out hbel5⟩, by have := hbel5.size; omega⟩, by simp [intOf]; omega⟩
        · have HJx' := Aside0.mk hJx'
          clear hJx'
          gi_wp2
          refine bodyPost_ret (results_none rfl _ _ _) rfl ?_
          exact ⟨⟨_, rfl⟩, .inr ⟨_, ⟨_, by rw [List.append_assoc]; exact HX.out⟩, HJx'.out⟩⟩
      · have hb : (r.err != 0) = true := by simpa using he
        rw [seqT_bad X k _ i r HR.out hne he] at hx
        have HX := Aside0.mk hx
        clear hx
        gi_wp2_with (first | (refine ⟨trivial, ?_⟩; gi_at_call 74; refine (callsIn_wide.2 (HFV.out _ (HT.out.below HBr.out) HRr.out)).mono ?_; rintro e w2 ⟨rfl, hB2⟩; have hbel : Below wr.heap.size wr (w2.alloc (.cells #[.int .i64 r.kind, .string r.text, .int .i64 r.num, .int .i64 r.den, .int .i64 i] 29)) := below_alloc hB2 _; have hJ1 := HJ.out _ _ _ none HJr.out (grown_of_below hbel) (fun r e => by cases e); obtain ⟨fn, tmps, assign, body, hy, hRnd⟩ := HY.out pre { r with at_ := i } _ hJ1 (by omega); have HBel := Aside0.mk hbel; have HRnd := Aside0.mk hRnd; clear hbel hJ1 hRnd hB2; dsimp only [encT] at hy))
        refine HRnd.out.mono ?_
        rintro e W' (⟨rfl, hJ', hk⟩ | ⟨rfl, hJx'⟩)
        · have HJ' := Aside0.mk hJ'
          clear hJ' hk
          gi_wp2
          refine bodyPost_ret (results_none rfl _ _ _) rfl ?_
          exact ⟨⟨_, rfl⟩, .inl ⟨_, HX.out, HJ'.out⟩⟩
        · have HJx' := Aside0.mk hJx'
          clear hJx'
          gi_wp2
          refine bodyPost_ret (results_none rfl _ _ _) rfl ?_
          exact ⟨⟨_, rfl⟩, .inr ⟨_, ⟨[], by rw [List.append_nil]; exact HX.out⟩, HJx'.out⟩⟩
    · obtain rfl : i = s.size := by omega
      have hx := HX.out
      rw [drop_end s s.size (Nat.le_refl _), seqT_nil, List.append_nil] at hx
      have HX' := Aside0.mk hx
      clear hx HX
      gi_wp2
      go_end0
      exact ⟨⟨_, rfl⟩, .inl ⟨_, HX'.out, HJr.out⟩⟩
end Go.Proofs.YteokilkcchdeiaaGreatDoor.X
end
