/- What the proofs of the lexer's laws share, part 2 of 7. -/
import Derived.Test.YteokilkcchdeiaaGreatDoorU1
set_option linter.unusedVariables false
set_option linter.unusedSimpArgs false
section
namespace Go.Proofs.YteokilkcchdeiaaGreatDoor.Q
open Go.RowKit Go.Proofs.YteokilkcchdeiaaGreatDoorW.PrintWords Go.Proofs.YteokilkcchdeiaaGreatDoorW.PrintLast Go.Proofs.YteokilkcchdeiaaGreatDoorW.PrintMore
attribute [local go_sem] max2_int min2_int max_two min_two max_three min_three max_four min_four   -- for this text's walks alone
mutual
def ratio_Check.j0 : Nat → Bool → Int → Int → Option (Int)
 | 0, _, _, _ => none
 | k + 1, x3, x102000, x102001 => if x3 = true then (some 1) else (if x102000 < (-1152921504606846976) then (ratio_Check.j1 k true x102000 x102001) else (ratio_Check.j1 k (decide (x102000 > 1152921504606846976)) x102000 x102001))
def ratio_Check.j1 : Nat → Bool → Int → Int → Option (Int)
 | 0, _, _, _ => none
 | k + 1, x12, x102000, x102001 => if x12 = true then (some 1) else ((ratio_magnitude.f x102000).bind fun t102 => ((ratio_divisor.f k t102 (IntKind.u64.wrap (x102001))).bind fun t103 => (if t103 = 1 then (some 0) else (some 1))))
end
def ratio_Check.f (k : Nat) (a0_0 : Int) (a0_1 : Int) : Option (Int) := if a0_1 < 1 then (ratio_Check.j0 k true a0_0 a0_1) else (ratio_Check.j0 k (decide (a0_1 > 1152921504606846976)) a0_0 a0_1)
theorem ratio_Check.mono_l : ∀ k, (∀ y0 y1 y2, LeO (ratio_Check.j0 k y0 y1 y2) (ratio_Check.j0 (k + 1) y0 y1 y2)) ∧ (∀ y0 y1 y2, LeO (ratio_Check.j1 k y0 y1 y2) (ratio_Check.j1 (k + 1) y0 y1 y2))
 | 0 => ⟨fun _ _ _ r h => by simp [ratio_Check.j0] at h, fun _ _ _ r h => by simp [ratio_Check.j1] at h⟩
 | k + 1 => by
  obtain ⟨ih0, ih1⟩ := ratio_Check.mono_l k
  refine ⟨?_, ?_⟩
  ·
   intro y0 y1 y2
   unfold ratio_Check.j0
   repeat' first
   | (with_reducible exact ih0 _ _ _)
   | (with_reducible exact ih1 _ _ _)
   | (with_reducible exact ratio_divisor.mono _ _ _)
   | (with_reducible exact LeO.refl _)
   | (with_reducible exact LeO.none _)
   | (with_reducible refine LeO.ite ?_ ?_)
   | (with_reducible refine LeO.bind ?_ (fun _ => ?_))
   | exact ih0 _ _ _
   | exact ih1 _ _ _
   | exact ratio_divisor.mono _ _ _
   | exact LeO.none _
   | refine LeO.ite ?_ ?_
   | refine LeO.bind ?_ (fun _ => ?_)
  ·
   intro y0 y1 y2
   unfold ratio_Check.j1
   repeat' first
   | (with_reducible exact ih0 _ _ _)
   | (with_reducible exact ih1 _ _ _)
   | (with_reducible exact ratio_divisor.mono _ _ _)
   | (with_reducible exact LeO.refl _)
   | (with_reducible exact LeO.none _)
   | (with_reducible refine LeO.ite ?_ ?_)
   | (with_reducible refine LeO.bind ?_ (fun _ => ?_))
   | exact ih0 _ _ _
   | exact ih1 _ _ _
   | exact ratio_divisor.mono _ _ _
   | exact LeO.none _
   | refine LeO.ite ?_ ?_
   | refine LeO.bind ?_ (fun _ => ?_)
theorem ratio_Check.mono : ∀ a0 a1 k, LeO (ratio_Check.f k a0 a1) (ratio_Check.f (k + 1) a0 a1) := by
 intro a0 a1 k
 obtain ⟨ih0, ih1⟩ := ratio_Check.mono_l k
 unfold ratio_Check.f
 repeat' first
   | (with_reducible exact ih0 _ _ _)
   | (with_reducible exact ih1 _ _ _)
   | (with_reducible exact ratio_divisor.mono _ _ _)
   | (with_reducible exact LeO.refl _)
   | (with_reducible exact LeO.none _)
   | (with_reducible refine LeO.ite ?_ ?_)
   | (with_reducible refine LeO.bind ?_ (fun _ => ?_))
   | exact ih0 _ _ _
   | exact ih1 _ _ _
   | exact ratio_divisor.mono _ _ _
   | exact LeO.none _
   | refine LeO.ite ?_ ?_
   | refine LeO.bind ?_ (fun _ => ?_)
set_option maxHeartbeats 8000000 in
set_option maxRecDepth 100000 in
theorem ratio_Check.calls (k : Nat) (a0_0 : Int) (a0_1 : Int) (r : Int) (w : World) (h : ratio_Check.f k a0_0 a0_1 = some r) :
  Calls Tryz.prog 14 #[.agg #[.int .i64 a0_0, .int .i64 a0_1]] w fun e w' => e = .returned (.int .i64 r) ∧ Below w.heap.size w w' := by
 have hu27 := Tryz.underlying27
 have HB := Aside0.mk (Below.refl w.heap.size w)
 have H : (if a0_1 < 1 then (ratio_Check.j0 k true a0_0 a0_1) else (ratio_Check.j0 k (decide (a0_1 > 1152921504606846976)) a0_0 a0_1)) = some r := h
 clear h
 have HC2 := Aside0.mk H
 clear H
 go_enter Tryz.func14, Tryz.ntmps14
 go_upto_region 1 with (first | ((with_reducible refine gate_dst (N := 1) rfl ?_); refine box_event ?hg (N := 1) ?hd (cs := #[.int .i64 a0_0, .int .i64 a0_1]) (t := 27) ?hr ?_; (case hd => rfl); (case hg => rfl); (case hr => first | (go_simp; done) | (go_simp; rfl)); intro gb101 hg w3 hbox hb; have n0_ := Aside0.mk (below_step (by repeat (first | (with_reducible first | exact HB.out | apply below_alloc | apply pw_below_drewN | apply below_drew1) | exact HB.out)) hb); have n1_ := Aside0.mk (hbox); have n2_ := Aside0.mk ((by rw [hg]; exact (below_size (by repeat (first | (with_reducible first | exact HB.out | apply below_alloc | apply pw_below_drewN | apply below_drew1) | exact HB.out))) : w.heap.size ≤ gb101)); have n3_ := Aside0.mk ((by rw [hg]; exact (below_size (by repeat (first | (with_reducible first | exact HB.out | apply below_alloc | apply pw_below_drewN | apply below_drew1) | exact HB.out))) : w.heap.size ≤ gb101)); clear HB; have HB := n0_; have BK101 := n1_; have GW101 := n2_; have GE101 := n3_; clear n0_ n1_ n2_ n3_; clear hb hbox hg))
 repeat (go_quiet (first | ((with_reducible refine gate_dst (N := 1) rfl ?_); refine box_event ?hg (N := 1) ?hd (cs := #[.int .i64 a0_0, .int .i64 a0_1]) (t := 27) ?hr ?_; (case hd => rfl); (case hg => rfl); (case hr => first | (go_simp; done) | (go_simp; rfl)); intro gb101 hg w3 hbox hb; have n0_ := Aside0.mk (below_step (by repeat (first | (with_reducible first | exact HB.out | apply below_alloc | apply pw_below_drewN | apply below_drew1) | exact HB.out)) hb); have n1_ := Aside0.mk (hbox); have n2_ := Aside0.mk ((by rw [hg]; exact (below_size (by repeat (first | (with_reducible first | exact HB.out | apply below_alloc | apply pw_below_drewN | apply below_drew1) | exact HB.out))) : w.heap.size ≤ gb101)); have n3_ := Aside0.mk ((by rw [hg]; exact (below_size (by repeat (first | (with_reducible first | exact HB.out | apply below_alloc | apply pw_below_drewN | apply below_drew1) | exact HB.out))) : w.heap.size ≤ gb101)); clear HB; have HB := n0_; have BK101 := n1_; have GW101 := n2_; have GE101 := n3_; clear n0_ n1_ n2_ n3_; clear hb hbox hg)); go_upto_region 1 with (first | ((with_reducible refine gate_dst (N := 1) rfl ?_); refine box_event ?hg (N := 1) ?hd (cs := #[.int .i64 a0_0, .int .i64 a0_1]) (t := 27) ?hr ?_; (case hd => rfl); (case hg => rfl); (case hr => first | (go_simp; done) | (go_simp; rfl)); intro gb101 hg w3 hbox hb; have n0_ := Aside0.mk (below_step (by repeat (first | (with_reducible first | exact HB.out | apply below_alloc | apply pw_below_drewN | apply below_drew1) | exact HB.out)) hb); have n1_ := Aside0.mk (hbox); have n2_ := Aside0.mk ((by rw [hg]; exact (below_size (by repeat (first | (with_reducible first | exact HB.out | apply below_alloc | apply pw_below_drewN | apply below_drew1) | exact HB.out))) : w.heap.size ≤ gb101)); have n3_ := Aside0.mk ((by rw [hg]; exact (below_size (by repeat (first | (with_reducible first | exact HB.out | apply below_alloc | apply pw_below_drewN | apply below_drew1) | exact HB.out))) : w.heap.size ≤ gb101)); clear HB; have HB := n0_; have BK101 := n1_; have GW101 := n2_; have GE101 := n3_; clear n0_ n1_ n2_ n3_; clear hb hbox hg)))
 (try simp only [Act.put, List.setIfInBounds_toArray, List.set_cons_zero, List.set_cons_succ])
 go_cut [3] (fun v3 wc => ∃ (kq : Nat) (x3_1 : Bool), v3 = .bool x3_1 ∧ Aside0 (ratio_Check.j0 kq x3_1 a0_0 a0_1 = some r) ∧ Aside0 (kq ≤ k) ∧ Aside0 (wc.heap[gb101]? = some (.cells #[.int .i64 a0_0, .int .i64 a0_1] 27 (0, 0))) ∧ Aside0 (Below w.heap.size w wc))
 case first =>
  have H := HC2.out
  clear HC2
  by_cases c4 : a0_1 < 1
  ·
   rw [if_pos c4] at H
   have c4b0 : decide (a0_1 < 1) = true := decide_eq_true c4
   clear c4
   (first | rw [c4b0] | (simp only [i64_w, i32_w]; rw [c4b0]) | skip)
   have H' := Aside0.mk H
   clear H
   have hcz5_0 : w3.cell? ⟨gb101, 0, none⟩ = some (.int .i64 a0_0) := (blk_cell BK101.out 0).trans rfl
   have hcz5_1 : w3.cell? ⟨gb101, 1, none⟩ = some (.int .i64 a0_1) := (blk_cell BK101.out 1).trans rfl
   have hfz5_0 := blk_frozen BK101.out 0
   have hfz5_1 := blk_frozen BK101.out 1
   go_wp2
   repeat (go_quiet (fail); try go_wp2)
   go_meet
   case rel => exact ⟨_, (true), (by first | rfl | (simp; done) | (simp [*]; done)), H', ⟨by first | omega | exact Nat.le_refl _⟩, ⟨by (with_reducible repeat (first | refine blk_drewN ?_ _ | refine blk_drew ?_ | refine blk_alloc ?_ _)); exact BK101.out⟩, ⟨by repeat (first | (with_reducible first | exact HB.out | apply below_alloc | apply pw_below_drewN | apply below_drew1 | refine below_set ?_ GE101.out) | exact HB.out)⟩⟩
  ·
   rw [if_neg c4] at H
   have c4b0 : decide (a0_1 < 1) = false := decide_eq_false c4
   clear c4
   (first | rw [c4b0] | (simp only [i64_w, i32_w]; rw [c4b0]) | skip)
   have H' := Aside0.mk H
   clear H
   have hcz6_0 : w3.cell? ⟨gb101, 0, none⟩ = some (.int .i64 a0_0) := (blk_cell BK101.out 0).trans rfl
   have hcz6_1 : w3.cell? ⟨gb101, 1, none⟩ = some (.int .i64 a0_1) := (blk_cell BK101.out 1).trans rfl
   have hfz6_0 := blk_frozen BK101.out 0
   have hfz6_1 := blk_frozen BK101.out 1
   go_wp2
   repeat (go_quiet (fail); try go_wp2)
   go_meet
   case rel => exact ⟨_, (decide (a0_1 > 1152921504606846976)), (by first | rfl | (simp; done) | (simp [*]; done)), H', ⟨by first | omega | exact Nat.le_refl _⟩, ⟨by (with_reducible repeat (first | refine blk_drewN ?_ _ | refine blk_drew ?_ | refine blk_alloc ?_ _)); exact BK101.out⟩, ⟨by repeat (first | (with_reducible first | exact HB.out | apply below_alloc | apply pw_below_drewN | apply below_drew1 | refine below_set ?_ GE101.out) | exact HB.out)⟩⟩
 case rest =>
  clear HC2; (try clear c1); (try clear p2); (try clear c4); (try clear c4b0); (try clear hcz5_0); (try clear hcz5_1); (try clear hcz6_0); (try clear hcz6_1); (try clear hfz5_0); (try clear hfz5_1); (try clear hfz6_0); (try clear hfz6_1)
  obtain ⟨kq, x3_1, rfl, HA, HJ1, BK101, HB⟩ := hcut
  cases kq with
  | zero => exact absurd HA.out (by simp [ratio_Check.j0])
  | succ kj1 =>
   have H := HA.out
   clear HA
   simp only [ratio_Check.j0] at H
   by_cases c7 : x3_1 = true
   ·
    subst c7
    have H1 : (some 1) = some r := by rw [if_pos rfl] at H; exact H
    clear H
    have H := H1
    clear H1
    obtain rfl := Option.some.inj H
    go_wp2
    repeat (go_quiet (fail); try go_wp2)
    go_ret
    exact ⟨by first | rfl | (simp [errW_none, errW_some] <;> rfl) | (simp [*, errW_none, errW_some] <;> rfl), by repeat (first | (with_reducible first | exact HB.out | apply below_alloc | apply pw_below_drewN | apply below_drew1 | refine below_set ?_ GE101.out) | exact HB.out)⟩
   ·
    replace c7 := Bool.eq_false_iff.mpr c7
    subst c7
    have H1 : (if a0_0 < (-1152921504606846976) then (ratio_Check.j1 kj1 true a0_0 a0_1) else (ratio_Check.j1 kj1 (decide (a0_0 > 1152921504606846976)) a0_0 a0_1)) = some r := by rw [if_neg (show ¬ (false = true) by decide)] at H; exact H
    clear H
    have H := H1
    clear H1
    have HC8 := Aside0.mk H
    clear H
    go_upto_region 3 with (fail)
    repeat (go_quiet (fail); go_upto_region 3 with (fail))
    go_cut [12] (fun v12 wc => ∃ (kq : Nat) (x12_7 : Bool), v12 = .bool x12_7 ∧ Aside0 (ratio_Check.j1 kq x12_7 a0_0 a0_1 = some r) ∧ Aside0 (kq ≤ kj1) ∧ Aside0 (wc.heap[gb101]? = some (.cells #[.int .i64 a0_0, .int .i64 a0_1] 27 (0, 0))) ∧ Aside0 (Below w.heap.size w wc))
    case first =>
     have H := HC8.out
     clear HC8
     by_cases c9 : a0_0 < (-1152921504606846976)
     ·
      rw [if_pos c9] at H
      have c9b0 : decide (a0_0 < (-1152921504606846976)) = true := decide_eq_true c9
      clear c9
      (first | rw [c9b0] | (simp only [i64_w, i32_w]; rw [c9b0]) | skip)
      have H' := Aside0.mk H
      clear H
      have hcz10_0 : wc.cell? ⟨gb101, 0, none⟩ = some (.int .i64 a0_0) := (blk_cell BK101.out 0).trans rfl
      have hcz10_1 : wc.cell? ⟨gb101, 1, none⟩ = some (.int .i64 a0_1) := (blk_cell BK101.out 1).trans rfl
      have hfz10_0 := blk_frozen BK101.out 0
      have hfz10_1 := blk_frozen BK101.out 1
      go_wp2
      repeat (go_quiet (fail); try go_wp2)
      go_meet
      case rel => exact ⟨_, (true), (by first | rfl | (simp; done) | (simp [*]; done)), H', ⟨by have := HJ1.out; first | omega | exact Nat.le_refl _⟩, ⟨by (with_reducible repeat (first | refine blk_drewN ?_ _ | refine blk_drew ?_ | refine blk_alloc ?_ _)); exact BK101.out⟩, ⟨by repeat (first | (with_reducible first | exact HB.out | apply below_alloc | apply pw_below_drewN | apply below_drew1 | refine below_set ?_ GE101.out) | exact HB.out)⟩⟩
     ·
      rw [if_neg c9] at H
      have c9b0 : decide (a0_0 < (-1152921504606846976)) = false := decide_eq_false c9
      clear c9
      (first | rw [c9b0] | (simp only [i64_w, i32_w]; rw [c9b0]) | skip)
      have H' := Aside0.mk H
      clear H
      have hcz11_0 : wc.cell? ⟨gb101, 0, none⟩ = some (.int .i64 a0_0) := (blk_cell BK101.out 0).trans rfl
      have hcz11_1 : wc.cell? ⟨gb101, 1, none⟩ = some (.int .i64 a0_1) := (blk_cell BK101.out 1).trans rfl
      have hfz11_0 := blk_frozen BK101.out 0
      have hfz11_1 := blk_frozen BK101.out 1
      go_wp2
      repeat (go_quiet (fail); try go_wp2)
      go_meet
      case rel => exact ⟨_, (decide (a0_0 > 1152921504606846976)), (by first | rfl | (simp; done) | (simp [*]; done)), H', ⟨by have := HJ1.out; first | omega | exact Nat.le_refl _⟩, ⟨by (with_reducible repeat (first | refine blk_drewN ?_ _ | refine blk_drew ?_ | refine blk_alloc ?_ _)); exact BK101.out⟩, ⟨by repeat (first | (with_reducible first | exact HB.out | apply below_alloc | apply pw_below_drewN | apply below_drew1 | refine below_set ?_ GE101.out) | exact HB.out)⟩⟩
    case rest =>
     clear HC8; (try clear c1); (try clear p2); (try clear c4); (try clear c4b0); (try clear c7); (try clear c9); (try clear c9b0); (try clear hcz10_0); (try clear hcz10_1); (try clear hcz11_0); (try clear hcz11_1); (try clear hcz5_0); (try clear hcz5_1); (try clear hcz6_0); (try clear hcz6_1); (try clear hfz10_0); (try clear hfz10_1); (try clear hfz11_0); (try clear hfz11_1); (try clear hfz5_0); (try clear hfz5_1); (try clear hfz6_0); (try clear hfz6_1); (try clear p2)
     obtain ⟨kq, x12_7, rfl, HA, HJ7, BK101, HB⟩ := hcut
     cases kq with
     | zero => exact absurd HA.out (by simp [ratio_Check.j1])
     | succ kj7 =>
      have H := HA.out
      clear HA
      simp only [ratio_Check.j1] at H
      by_cases c12 : x12_7 = true
      ·
       subst c12
       have H1 : (some 1) = some r := by rw [if_pos rfl] at H; exact H
       clear H
       have H := H1
       clear H1
       obtain rfl := Option.some.inj H
       go_wp2
       repeat (go_quiet (fail); try go_wp2)
       go_ret
       exact ⟨by first | rfl | (simp [errW_none, errW_some] <;> rfl) | (simp [*, errW_none, errW_some] <;> rfl), by repeat (first | (with_reducible first | exact HB.out | apply below_alloc | apply pw_below_drewN | apply below_drew1 | refine below_set ?_ GE101.out) | exact HB.out)⟩
      ·
       replace c12 := Bool.eq_false_iff.mpr c12
       subst c12
       have H1 : ((ratio_magnitude.f a0_0).bind fun t102 => ((ratio_divisor.f kj7 t102 (IntKind.u64.wrap (a0_1))).bind fun t103 => (if t103 = 1 then (some 0) else (some 1)))) = some r := by rw [if_neg (show ¬ (false = true) by decide)] at H; exact H
       clear H
       have H := H1
       clear H1
       replace H := Option.bind_eq_some_iff.mp H
       obtain ⟨t102, A130, H⟩ := H
       replace H : ((ratio_divisor.f kj7 t102 (IntKind.u64.wrap (a0_1))).bind fun t103 => (if t103 = 1 then (some 0) else (some 1))) = some r := H
       have A13 := Aside0.mk A130
       clear A130
       replace H := Option.bind_eq_some_iff.mp H
       obtain ⟨t103, A140, H⟩ := H
       replace H : (if t103 = 1 then (some 0) else (some 1)) = some r := H
       have A14 := Aside0.mk A140
       clear A140
       by_cases c15 : t103 = 1
       ·
        rw [if_pos c15] at H
        have c15b0 : (t103 == 1) = true := beq_iff_eq.mpr c15
        have c15b1 : (t103 != 1) = false := bne_eq_false_iff_eq.mpr c15
        clear c15
        obtain rfl := Option.some.inj H
        have hcz16_0 : wc.cell? ⟨gb101, 0, none⟩ = some (.int .i64 a0_0) := (blk_cell BK101.out 0).trans rfl
        have hcz16_1 : wc.cell? ⟨gb101, 1, none⟩ = some (.int .i64 a0_1) := (blk_cell BK101.out 1).trans rfl
        have hfz16_0 := blk_frozen BK101.out 0
        have hfz16_1 := blk_frozen BK101.out 1
        go_wp2_with (first | (go_at_call 38; (with_reducible refine (ratio_magnitude.calls a0_0 t102 _ A13.out).mono ?_); rintro e w' ⟨rfl, ⟨nd, rfl⟩⟩; (try first | exact ⟨rfl, _, World.drewN_drewN _ _ _⟩ | exact ⟨rfl, _, Eq.trans (World.drewN_drewN _ _ _) (congrArg (World.drewN _) (Nat.add_assoc _ _ _))⟩)) | (go_at_call 37; (with_reducible refine (ratio_divisor.calls kj7 t102 (IntKind.u64.wrap (a0_1)) t103 _ A14.out).mono ?_); rintro e w' ⟨rfl, ⟨nd, rfl⟩⟩; (try first | exact ⟨rfl, _, World.drewN_drewN _ _ _⟩ | exact ⟨rfl, _, Eq.trans (World.drewN_drewN _ _ _) (congrArg (World.drewN _) (Nat.add_assoc _ _ _))⟩)))
        repeat (go_quiet (first | (go_at_call 38; (with_reducible refine (ratio_magnitude.calls a0_0 t102 _ A13.out).mono ?_); rintro e w' ⟨rfl, ⟨nd, rfl⟩⟩; (try first | exact ⟨rfl, _, World.drewN_drewN _ _ _⟩ | exact ⟨rfl, _, Eq.trans (World.drewN_drewN _ _ _) (congrArg (World.drewN _) (Nat.add_assoc _ _ _))⟩)) | (go_at_call 37; (with_reducible refine (ratio_divisor.calls kj7 t102 (IntKind.u64.wrap (a0_1)) t103 _ A14.out).mono ?_); rintro e w' ⟨rfl, ⟨nd, rfl⟩⟩; (try first | exact ⟨rfl, _, World.drewN_drewN _ _ _⟩ | exact ⟨rfl, _, Eq.trans (World.drewN_drewN _ _ _) (congrArg (World.drewN _) (Nat.add_assoc _ _ _))⟩))); try go_wp2_with (first | (go_at_call 38; (with_reducible refine (ratio_magnitude.calls a0_0 t102 _ A13.out).mono ?_); rintro e w' ⟨rfl, ⟨nd, rfl⟩⟩; (try first | exact ⟨rfl, _, World.drewN_drewN _ _ _⟩ | exact ⟨rfl, _, Eq.trans (World.drewN_drewN _ _ _) (congrArg (World.drewN _) (Nat.add_assoc _ _ _))⟩)) | (go_at_call 37; (with_reducible refine (ratio_divisor.calls kj7 t102 (IntKind.u64.wrap (a0_1)) t103 _ A14.out).mono ?_); rintro e w' ⟨rfl, ⟨nd, rfl⟩⟩; (try first | exact ⟨rfl, _, World.drewN_drewN _ _ _⟩ | exact ⟨rfl, _, Eq.trans (World.drewN_drewN _ _ _) (congrArg (World.drewN _) (Nat.add_assoc _ _ _))⟩))))
        go_ret
        exact ⟨by first | rfl | (simp [errW_none, errW_some] <;> rfl) | (simp [*, errW_none, errW_some] <;> rfl), by repeat (first | (with_reducible first | exact HB.out | apply below_alloc | apply pw_below_drewN | apply below_drew1 | refine below_set ?_ GE101.out) | exact HB.out)⟩
       ·
        rw [if_neg c15] at H
        have c15b0 : (t103 == 1) = false := beq_eq_false_iff_ne.mpr c15
        have c15b1 : (t103 != 1) = true := bne_iff_ne.mpr c15
        obtain rfl := Option.some.inj H
        have hcz17_0 : wc.cell? ⟨gb101, 0, none⟩ = some (.int .i64 a0_0) := (blk_cell BK101.out 0).trans rfl
        have hcz17_1 : wc.cell? ⟨gb101, 1, none⟩ = some (.int .i64 a0_1) := (blk_cell BK101.out 1).trans rfl
        have hfz17_0 := blk_frozen BK101.out 0
        have hfz17_1 := blk_frozen BK101.out 1
        go_wp2_with (first | (go_at_call 38; (with_reducible refine (ratio_magnitude.calls a0_0 t102 _ A13.out).mono ?_); rintro e w' ⟨rfl, ⟨nd, rfl⟩⟩; (try first | exact ⟨rfl, _, World.drewN_drewN _ _ _⟩ | exact ⟨rfl, _, Eq.trans (World.drewN_drewN _ _ _) (congrArg (World.drewN _) (Nat.add_assoc _ _ _))⟩)) | (go_at_call 37; (with_reducible refine (ratio_divisor.calls kj7 t102 (IntKind.u64.wrap (a0_1)) t103 _ A14.out).mono ?_); rintro e w' ⟨rfl, ⟨nd, rfl⟩⟩; (try first | exact ⟨rfl, _, World.drewN_drewN _ _ _⟩ | exact ⟨rfl, _, Eq.trans (World.drewN_drewN _ _ _) (congrArg (World.drewN _) (Nat.add_assoc _ _ _))⟩)))
        repeat (go_quiet (first | (go_at_call 38; (with_reducible refine (ratio_magnitude.calls a0_0 t102 _ A13.out).mono ?_); rintro e w' ⟨rfl, ⟨nd, rfl⟩⟩; (try first | exact ⟨rfl, _, World.drewN_drewN _ _ _⟩ | exact ⟨rfl, _, Eq.trans (World.drewN_drewN _ _ _) (congrArg (World.drewN _) (Nat.add_assoc _ _ _))⟩)) | (go_at_call 37; (with_reducible refine (ratio_divisor.calls kj7 t102 (IntKind.u64.wrap (a0_1)) t103 _ A14.out).mono ?_); rintro e w' ⟨rfl, ⟨nd, rfl⟩⟩; (try first | exact ⟨rfl, _, World.drewN_drewN _ _ _⟩ | exact ⟨rfl, _, Eq.trans (World.drewN_drewN _ _ _) (congrArg (World.drewN _) (Nat.add_assoc _ _ _))⟩))); try go_wp2_with (first | (go_at_call 38; (with_reducible refine (ratio_magnitude.calls a0_0 t102 _ A13.out).mono ?_); rintro e w' ⟨rfl, ⟨nd, rfl⟩⟩; (try first | exact ⟨rfl, _, World.drewN_drewN _ _ _⟩ | exact ⟨rfl, _, Eq.trans (World.drewN_drewN _ _ _) (congrArg (World.drewN _) (Nat.add_assoc _ _ _))⟩)) | (go_at_call 37; (with_reducible refine (ratio_divisor.calls kj7 t102 (IntKind.u64.wrap (a0_1)) t103 _ A14.out).mono ?_); rintro e w' ⟨rfl, ⟨nd, rfl⟩⟩; (try first | exact ⟨rfl, _, World.drewN_drewN _ _ _⟩ | exact ⟨rfl, _, Eq.trans (World.drewN_drewN _ _ _) (congrArg (World.drewN _) (Nat.add_assoc _ _ _))⟩))))
        go_ret
        exact ⟨by first | rfl | (simp [errW_none, errW_some] <;> rfl) | (simp [*, errW_none, errW_some] <;> rfl), by repeat (first | (with_reducible first | exact HB.out | apply below_alloc | apply pw_below_drewN | apply below_drew1 | refine below_set ?_ GE101.out) | exact HB.out)⟩
end Go.Proofs.YteokilkcchdeiaaGreatDoor.Q
end
section
namespace Go.Proofs.YteokilkcchdeiaaGreatDoor.Q
open Go.Proofs.YteokilkcchdeiaaGreatDoor
open Go.Proofs.YteokilkcchdeiaaGreatDoor.X
open Go.RowKit Go.Proofs.YteokilkcchdeiaaGreatDoorW.PrintWords Go.Proofs.YteokilkcchdeiaaGreatDoorW.PrintLast Go.Proofs.YteokilkcchdeiaaGreatDoorW.PrintMore
attribute [local go_sem] max2_int min2_int max_two min_two max_three min_three max_four min_four   -- for this text's walks alone
def ratio_Format.f (k : Nat) (a0_0 : Int) (a0_1 : Int) : Option (ByteArray) := (ratio_Check.f k a0_0 a0_1).bind fun t105 => (if t105 = 0 then ((strconv_Itoa.f a0_0).bind fun t106 => (if a0_1 = 1 then (some t106) else ((strconv_Itoa.f a0_1).bind fun t107 => (if 1 + t107.size ≤ 9223372036854775807 then (if t106.size + ((⟨#[47]⟩ : ByteArray) ++ t107).size ≤ 9223372036854775807 then (some (t106 ++ ((⟨#[47]⟩ : ByteArray) ++ t107))) else (none)) else (none))))) else (some (⟨#[]⟩ : ByteArray)))
theorem ratio_Format.mono : ∀ a0 a1 k, LeO (ratio_Format.f k a0 a1) (ratio_Format.f (k + 1) a0 a1) := by
 intro a0 a1 k
 unfold ratio_Format.f
 repeat' first
   | (with_reducible exact ratio_Check.mono _ _ _)
   | (with_reducible exact LeO.refl _)
   | (with_reducible exact LeO.none _)
   | (with_reducible refine LeO.ite ?_ ?_)
   | (with_reducible refine LeO.bind ?_ (fun _ => ?_))
   | exact ratio_Check.mono _ _ _
   | exact LeO.none _
   | refine LeO.ite ?_ ?_
   | refine LeO.bind ?_ (fun _ => ?_)
set_option maxHeartbeats 8000000 in
set_option maxRecDepth 100000 in
theorem ratio_Format.calls (k : Nat) (a0_0 : Int) (a0_1 : Int) (r : ByteArray) (w : World) (hT : Tabs w) (h : ratio_Format.f k a0_0 a0_1 = some r) :
  Calls Tryz.prog 35 #[.agg #[.int .i64 a0_0, .int .i64 a0_1]] w fun e w' => e = .returned (.string r) ∧ Below w.heap.size w w' := by
 have hu27 := Tryz.underlying27
 have HT := Aside0.mk hT
 clear hT
 have HB := Aside0.mk (Below.refl w.heap.size w)
 have H : ((ratio_Check.f k a0_0 a0_1).bind fun t105 => (if t105 = 0 then ((strconv_Itoa.f a0_0).bind fun t106 => (if a0_1 = 1 then (some t106) else ((strconv_Itoa.f a0_1).bind fun t107 => (if 1 + t107.size ≤ 9223372036854775807 then (if t106.size + ((⟨#[47]⟩ : ByteArray) ++ t107).size ≤ 9223372036854775807 then (some (t106 ++ ((⟨#[47]⟩ : ByteArray) ++ t107))) else (none)) else (none))))) else (some (⟨#[]⟩ : ByteArray)))) = some r := h
 clear h
 replace H := Option.bind_eq_some_iff.mp H
 obtain ⟨t105, A20, H⟩ := H
 replace H : (if t105 = 0 then ((strconv_Itoa.f a0_0).bind fun t106 => (if a0_1 = 1 then (some t106) else ((strconv_Itoa.f a0_1).bind fun t107 => (if 1 + t107.size ≤ 9223372036854775807 then (if t106.size + ((⟨#[47]⟩ : ByteArray) ++ t107).size ≤ 9223372036854775807 then (some (t106 ++ ((⟨#[47]⟩ : ByteArray) ++ t107))) else (none)) else (none))))) else (some (⟨#[]⟩ : ByteArray))) = some r := H
 have A2 := Aside0.mk A20
 clear A20
 by_cases c3 : t105 = 0
 ·
  rw [if_pos c3] at H
  have c3b0 : (t105 == 0) = true := beq_iff_eq.mpr c3
  have c3b1 : (t105 != 0) = false := bne_eq_false_iff_eq.mpr c3
  clear c3
  replace H := Option.bind_eq_some_iff.mp H
  obtain ⟨t106, A40, H⟩ := H
  replace H : (if a0_1 = 1 then (some t106) else ((strconv_Itoa.f a0_1).bind fun t107 => (if 1 + t107.size ≤ 9223372036854775807 then (if t106.size + ((⟨#[47]⟩ : ByteArray) ++ t107).size ≤ 9223372036854775807 then (some (t106 ++ ((⟨#[47]⟩ : ByteArray) ++ t107))) else (none)) else (none)))) = some r := H
  have A4 := Aside0.mk A40
  clear A40
  by_cases c5 : a0_1 = 1
  ·
   rw [if_pos c5] at H
   have c5b0 : (a0_1 == 1) = true := beq_iff_eq.mpr c5
   have c5b1 : (a0_1 != 1) = false := bne_eq_false_iff_eq.mpr c5
   clear c5
   obtain rfl := Option.some.inj H
   go_enter Tryz.func35, Tryz.ntmps35
   go_wp2_with (first | ((with_reducible refine gate_dst (N := 1) rfl ?_); refine box_event ?hg (N := 1) ?hd (cs := #[.int .i64 a0_0, .int .i64 a0_1]) (t := 27) ?hr ?_; (case hd => rfl); (case hg => rfl); (case hr => first | (go_simp; done) | (go_simp; rfl)); intro gb104 hg w6 hbox hb; have n0_ := Aside0.mk (below_step (by repeat (first | (with_reducible first | exact HB.out | apply below_alloc | apply pw_below_drewN | apply below_drew1) | exact HB.out)) hb); have n1_ := Aside0.mk (hbox); have n2_ := Aside0.mk ((by rw [hg]; exact (below_size (by repeat (first | (with_reducible first | exact HB.out | apply below_alloc | apply pw_below_drewN | apply below_drew1) | exact HB.out))) : w.heap.size ≤ gb104)); have n3_ := Aside0.mk ((by rw [hg]; exact (below_size (by repeat (first | (with_reducible first | exact HB.out | apply below_alloc | apply pw_below_drewN | apply below_drew1) | exact HB.out))) : w.heap.size ≤ gb104)); clear HB; have HB := n0_; have BK104 := n1_; have GW104 := n2_; have GE104 := n3_; clear n0_ n1_ n2_ n3_; clear hb hbox hg; have hcz7_0 : w6.cell? ⟨gb104, 0, none⟩ = some (.int .i64 a0_0) := (blk_cell BK104.out 0).trans rfl; have hcz7_1 : w6.cell? ⟨gb104, 1, none⟩ = some (.int .i64 a0_1) := (blk_cell BK104.out 1).trans rfl; have hfz7_0 := blk_frozen BK104.out 0; have hfz7_1 := blk_frozen BK104.out 1) | ((with_reducible refine gate_callee (f := 14) rfl ?_); refine goesL_ (some 5) rfl rfl Tryz.func14 (by kernel_rfl) rfl #[.agg #[.int .i64 a0_0, .int .i64 a0_1]] rfl (by (try simp only [List.map_toArray, List.map_cons, List.map_nil]); first | done | rfl | (simp only [List.length_drop, List.length_take]; rfl)) ?_; (with_reducible refine (ratio_Check.calls k a0_0 a0_1 t105 _ A2.out).mono ?_); rintro e w8 ⟨rfl, hb⟩; refine ⟨_, rfl, ?_⟩; have n0_ := Aside0.mk (blk_below (g := gb104) (o := .cells #[.int .i64 a0_0, .int .i64 a0_1] 27 (0, 0)) (by (with_reducible repeat (first | refine blk_drewN ?_ _ | refine blk_drew ?_ | refine blk_alloc ?_ _)); exact BK104.out) hb); have n1_ := Aside0.mk (below_step (by repeat (first | (with_reducible first | exact HB.out | apply below_alloc | apply pw_below_drewN | apply below_drew1 | refine below_set ?_ GE104.out) | exact HB.out)) hb); clear BK104; clear HB; have BK104 := n0_; have HB := n1_; clear n0_ n1_; (try clear hb); (try clear hb2); (try clear hk); (try clear hi); have hcz9_0 : w8.cell? ⟨gb104, 0, none⟩ = some (.int .i64 a0_0) := (blk_cell BK104.out 0).trans rfl; have hcz9_1 : w8.cell? ⟨gb104, 1, none⟩ = some (.int .i64 a0_1) := (blk_cell BK104.out 1).trans rfl; have hfz9_0 := blk_frozen BK104.out 0; have hfz9_1 := blk_frozen BK104.out 1) | ((with_reducible refine gate_callee (f := 33) rfl ?_); refine goesL_ (some 9) rfl rfl Tryz.func33 (by kernel_rfl) rfl #[.int .i64 a0_0] rfl (by (try simp only [List.map_toArray, List.map_cons, List.map_nil]); first | done | rfl | (simp only [List.length_drop, List.length_take]; rfl)) ?_; (with_reducible refine (strconv_Itoa.calls a0_0 t106 _ ?side1 A4.out).mono ?_); (case side1 => exact Tabs.below HT.out (by repeat (first | (with_reducible first | exact HB.out | apply below_alloc | apply pw_below_drewN | apply below_drew1 | refine below_set ?_ GE104.out) | exact HB.out))); rintro e w10 ⟨rfl, hb⟩; refine ⟨_, rfl, ?_⟩; have n0_ := Aside0.mk (blk_below (g := gb104) (o := .cells #[.int .i64 a0_0, .int .i64 a0_1] 27 (0, 0)) (by (with_reducible repeat (first | refine blk_drewN ?_ _ | refine blk_drew ?_ | refine blk_alloc ?_ _)); exact BK104.out) hb); have n1_ := Aside0.mk (below_step (by repeat (first | (with_reducible first | exact HB.out | apply below_alloc | apply pw_below_drewN | apply below_drew1 | refine below_set ?_ GE104.out) | exact HB.out)) hb); clear BK104; clear HB; have BK104 := n0_; have HB := n1_; clear n0_ n1_; (try clear hb); (try clear hb2); (try clear hk); (try clear hi); have hcz11_0 : w10.cell? ⟨gb104, 0, none⟩ = some (.int .i64 a0_0) := (blk_cell BK104.out 0).trans rfl; have hcz11_1 : w10.cell? ⟨gb104, 1, none⟩ = some (.int .i64 a0_1) := (blk_cell BK104.out 1).trans rfl; have hfz11_0 := blk_frozen BK104.out 0; have hfz11_1 := blk_frozen BK104.out 1))
   go_ret
   exact ⟨by first | rfl | (simp [errW_none, errW_some] <;> rfl) | (simp [*, errW_none, errW_some] <;> rfl), by repeat (first | (with_reducible first | exact HB.out | apply below_alloc | apply pw_below_drewN | apply below_drew1 | refine below_set ?_ GE104.out) | exact HB.out)⟩
  ·
   rw [if_neg c5] at H
   have c5b0 : (a0_1 == 1) = false := beq_eq_false_iff_ne.mpr c5
   have c5b1 : (a0_1 != 1) = true := bne_iff_ne.mpr c5
   replace H := Option.bind_eq_some_iff.mp H
   obtain ⟨t107, A120, H⟩ := H
   replace H : (if 1 + t107.size ≤ 9223372036854775807 then (if t106.size + ((⟨#[47]⟩ : ByteArray) ++ t107).size ≤ 9223372036854775807 then (some (t106 ++ ((⟨#[47]⟩ : ByteArray) ++ t107))) else (none)) else (none)) = some r := H
   have A12 := Aside0.mk A120
   clear A120
   by_cases c13 : 1 + t107.size ≤ 9223372036854775807
   ·
    rw [if_pos c13] at H
    have c13b0 := eq_true c13
    have c13b1 : decide (1 + t107.size ≤ 9223372036854775807) = true := decide_eq_true c13
    try have c13b2 : (9223372036854775807 < 1 + t107.size) = False := eq_false (Nat.not_lt.2 c13)
    by_cases c14 : t106.size + ((⟨#[47]⟩ : ByteArray) ++ t107).size ≤ 9223372036854775807
    ·
     rw [if_pos c14] at H
     have c14b0 := eq_true c14
     have c14b1 : decide (t106.size + ((⟨#[47]⟩ : ByteArray) ++ t107).size ≤ 9223372036854775807) = true := decide_eq_true c14
     try have c14b3 : (9223372036854775807 < t106.size + (1 + t107.size)) = False := eq_false (Nat.not_lt.2 (by have z_ := c14; simp only [ByteArray.size_append'] at z_; exact z_))
     try have c14b2 : (9223372036854775807 < t106.size + ((⟨#[47]⟩ : ByteArray) ++ t107).size) = False := eq_false (Nat.not_lt.2 c14)
     obtain rfl := Option.some.inj H
     go_enter Tryz.func35, Tryz.ntmps35
     go_wp2_with (first | ((with_reducible refine gate_dst (N := 1) rfl ?_); refine box_event ?hg (N := 1) ?hd (cs := #[.int .i64 a0_0, .int .i64 a0_1]) (t := 27) ?hr ?_; (case hd => rfl); (case hg => rfl); (case hr => first | (go_simp; done) | (go_simp; rfl)); intro gb104 hg w15 hbox hb; have n0_ := Aside0.mk (below_step (by repeat (first | (with_reducible first | exact HB.out | apply below_alloc | apply pw_below_drewN | apply below_drew1) | exact HB.out)) hb); have n1_ := Aside0.mk (hbox); have n2_ := Aside0.mk ((by rw [hg]; exact (below_size (by repeat (first | (with_reducible first | exact HB.out | apply below_alloc | apply pw_below_drewN | apply below_drew1) | exact HB.out))) : w.heap.size ≤ gb104)); have n3_ := Aside0.mk ((by rw [hg]; exact (below_size (by repeat (first | (with_reducible first | exact HB.out | apply below_alloc | apply pw_below_drewN | apply below_drew1) | exact HB.out))) : w.heap.size ≤ gb104)); clear HB; have HB := n0_; have BK104 := n1_; have GW104 := n2_; have GE104 := n3_; clear n0_ n1_ n2_ n3_; clear hb hbox hg; have hcz16_0 : w15.cell? ⟨gb104, 0, none⟩ = some (.int .i64 a0_0) := (blk_cell BK104.out 0).trans rfl; have hcz16_1 : w15.cell? ⟨gb104, 1, none⟩ = some (.int .i64 a0_1) := (blk_cell BK104.out 1).trans rfl; have hfz16_0 := blk_frozen BK104.out 0; have hfz16_1 := blk_frozen BK104.out 1) | ((with_reducible refine gate_callee (f := 14) rfl ?_); refine goesL_ (some 5) rfl rfl Tryz.func14 (by kernel_rfl) rfl #[.agg #[.int .i64 a0_0, .int .i64 a0_1]] rfl (by (try simp only [List.map_toArray, List.map_cons, List.map_nil]); first | done | rfl | (simp only [List.length_drop, List.length_take]; rfl)) ?_; (with_reducible refine (ratio_Check.calls k a0_0 a0_1 t105 _ A2.out).mono ?_); rintro e w17 ⟨rfl, hb⟩; refine ⟨_, rfl, ?_⟩; have n0_ := Aside0.mk (blk_below (g := gb104) (o := .cells #[.int .i64 a0_0, .int .i64 a0_1] 27 (0, 0)) (by (with_reducible repeat (first | refine blk_drewN ?_ _ | refine blk_drew ?_ | refine blk_alloc ?_ _)); exact BK104.out) hb); have n1_ := Aside0.mk (below_step (by repeat (first | (with_reducible first | exact HB.out | apply below_alloc | apply pw_below_drewN | apply below_drew1 | refine below_set ?_ GE104.out) | exact HB.out)) hb); clear BK104; clear HB; have BK104 := n0_; have HB := n1_; clear n0_ n1_; (try clear hb); (try clear hb2); (try clear hk); (try clear hi); have hcz18_0 : w17.cell? ⟨gb104, 0, none⟩ = some (.int .i64 a0_0) := (blk_cell BK104.out 0).trans rfl; have hcz18_1 : w17.cell? ⟨gb104, 1, none⟩ = some (.int .i64 a0_1) := (blk_cell BK104.out 1).trans rfl; have hfz18_0 := blk_frozen BK104.out 0; have hfz18_1 := blk_frozen BK104.out 1) | ((with_reducible refine gate_callee (f := 33) rfl ?_); refine goesL_ (some 9) rfl rfl Tryz.func33 (by kernel_rfl) rfl #[.int .i64 a0_0] rfl (by (try simp only [List.map_toArray, List.map_cons, List.map_nil]); first | done | rfl | (simp only [List.length_drop, List.length_take]; rfl)) ?_; (with_reducible refine (strconv_Itoa.calls a0_0 t106 _ ?side1 A4.out).mono ?_); (case side1 => exact Tabs.below HT.out (by repeat (first | (with_reducible first | exact HB.out | apply below_alloc | apply pw_below_drewN | apply below_drew1 | refine below_set ?_ GE104.out) | exact HB.out))); rintro e w19 ⟨rfl, hb⟩; refine ⟨_, rfl, ?_⟩; have n0_ := Aside0.mk (blk_below (g := gb104) (o := .cells #[.int .i64 a0_0, .int .i64 a0_1] 27 (0, 0)) (by (with_reducible repeat (first | refine blk_drewN ?_ _ | refine blk_drew ?_ | refine blk_alloc ?_ _)); exact BK104.out) hb); have n1_ := Aside0.mk (below_step (by repeat (first | (with_reducible first | exact HB.out | apply below_alloc | apply pw_below_drewN | apply below_drew1 | refine below_set ?_ GE104.out) | exact HB.out)) hb); clear BK104; clear HB; have BK104 := n0_; have HB := n1_; clear n0_ n1_; (try clear hb); (try clear hb2); (try clear hk); (try clear hi); have hcz20_0 : w19.cell? ⟨gb104, 0, none⟩ = some (.int .i64 a0_0) := (blk_cell BK104.out 0).trans rfl; have hcz20_1 : w19.cell? ⟨gb104, 1, none⟩ = some (.int .i64 a0_1) := (blk_cell BK104.out 1).trans rfl; have hfz20_0 := blk_frozen BK104.out 0; have hfz20_1 := blk_frozen BK104.out 1) | ((with_reducible refine gate_callee (f := 33) rfl ?_); refine goesL_ (some 16) rfl rfl Tryz.func33 (by kernel_rfl) rfl #[.int .i64 a0_1] rfl (by (try simp only [List.map_toArray, List.map_cons, List.map_nil]); first | done | rfl | (simp only [List.length_drop, List.length_take]; rfl)) ?_; (with_reducible refine (strconv_Itoa.calls a0_1 t107 _ ?side1 A12.out).mono ?_); (case side1 => exact Tabs.below HT.out (by repeat (first | (with_reducible first | exact HB.out | apply below_alloc | apply pw_below_drewN | apply below_drew1 | refine below_set ?_ GE104.out) | exact HB.out))); rintro e w21 ⟨rfl, hb⟩; refine ⟨_, rfl, ?_⟩; have n0_ := Aside0.mk (blk_below (g := gb104) (o := .cells #[.int .i64 a0_0, .int .i64 a0_1] 27 (0, 0)) (by (with_reducible repeat (first | refine blk_drewN ?_ _ | refine blk_drew ?_ | refine blk_alloc ?_ _)); exact BK104.out) hb); have n1_ := Aside0.mk (below_step (by repeat (first | (with_reducible first | exact HB.out | apply below_alloc | apply pw_below_drewN | apply below_drew1 | refine below_set ?_ GE104.out) | exact HB.out)) hb); clear BK104; clear HB; have BK104 := n0_; have HB := n1_; clear n0_ n1_; (try clear hb); (try clear hb2); (try clear hk); (try clear hi)))
     go_ret
     exact ⟨by first | rfl | (simp [errW_none, errW_some] <;> rfl) | (simp [*, errW_none, errW_some] <;> rfl), by repeat (first | (with_reducible first | exact HB.out | apply below_alloc | apply pw_below_drewN | apply below_drew1 | refine below_set ?_ GE104.out) | exact HB.out)⟩
    ·
     rw [if_neg c14] at H
     exact absurd H (by simp)
   ·
    rw [if_neg c13] at H
    exact absurd H (by simp)
 ·
  rw [if_neg c3] at H
  have c3b0 : (t105 == 0) = false := beq_eq_false_iff_ne.mpr c3
  have c3b1 : (t105 != 0) = true := bne_iff_ne.mpr c3
  obtain rfl := Option.some.inj H
  go_enter Tryz.func35, Tryz.ntmps35
  go_wp2_with (first | ((with_reducible refine gate_dst (N := 1) rfl ?_); refine box_event ?hg (N := 1) ?hd (cs := #[.int .i64 a0_0, .int .i64 a0_1]) (t := 27) ?hr ?_; (case hd => rfl); (case hg => rfl); (case hr => first | (go_simp; done) | (go_simp; rfl)); intro gb104 hg w22 hbox hb; have n0_ := Aside0.mk (below_step (by repeat (first | (with_reducible first | exact HB.out | apply below_alloc | apply pw_below_drewN | apply below_drew1) | exact HB.out)) hb); have n1_ := Aside0.mk (hbox); have n2_ := Aside0.mk ((by rw [hg]; exact (below_size (by repeat (first | (with_reducible first | exact HB.out | apply below_alloc | apply pw_below_drewN | apply below_drew1) | exact HB.out))) : w.heap.size ≤ gb104)); have n3_ := Aside0.mk ((by rw [hg]; exact (below_size (by repeat (first | (with_reducible first | exact HB.out | apply below_alloc | apply pw_below_drewN | apply below_drew1) | exact HB.out))) : w.heap.size ≤ gb104)); clear HB; have HB := n0_; have BK104 := n1_; have GW104 := n2_; have GE104 := n3_; clear n0_ n1_ n2_ n3_; clear hb hbox hg; have hcz23_0 : w22.cell? ⟨gb104, 0, none⟩ = some (.int .i64 a0_0) := (blk_cell BK104.out 0).trans rfl; have hcz23_1 : w22.cell? ⟨gb104, 1, none⟩ = some (.int .i64 a0_1) := (blk_cell BK104.out 1).trans rfl; have hfz23_0 := blk_frozen BK104.out 0; have hfz23_1 := blk_frozen BK104.out 1) | ((with_reducible refine gate_callee (f := 14) rfl ?_); refine goesL_ (some 5) rfl rfl Tryz.func14 (by kernel_rfl) rfl #[.agg #[.int .i64 a0_0, .int .i64 a0_1]] rfl (by (try simp only [List.map_toArray, List.map_cons, List.map_nil]); first | done | rfl | (simp only [List.length_drop, List.length_take]; rfl)) ?_; (with_reducible refine (ratio_Check.calls k a0_0 a0_1 t105 _ A2.out).mono ?_); rintro e w24 ⟨rfl, hb⟩; refine ⟨_, rfl, ?_⟩; have n0_ := Aside0.mk (blk_below (g := gb104) (o := .cells #[.int .i64 a0_0, .int .i64 a0_1] 27 (0, 0)) (by (with_reducible repeat (first | refine blk_drewN ?_ _ | refine blk_drew ?_ | refine blk_alloc ?_ _)); exact BK104.out) hb); have n1_ := Aside0.mk (below_step (by repeat (first | (with_reducible first | exact HB.out | apply below_alloc | apply pw_below_drewN | apply below_drew1 | refine below_set ?_ GE104.out) | exact HB.out)) hb); clear BK104; clear HB; have BK104 := n0_; have HB := n1_; clear n0_ n1_; (try clear hb); (try clear hb2); (try clear hk); (try clear hi)))
  go_ret
  exact ⟨by first | rfl | (simp [errW_none, errW_some] <;> rfl) | (simp [*, errW_none, errW_some] <;> rfl), by repeat (first | (with_reducible first | exact HB.out | apply below_alloc | apply pw_below_drewN | apply below_drew1 | refine below_set ?_ GE104.out) | exact HB.out)⟩
mutual
def lexer_Number.j0 : Nat → ByteArray → Int → Int → Int → Option (ByteArray)
 | 0, _, _, _, _ => none
 | k + 1, x3, x4, x109000, x109001 => if x109001 = 0 then (none) else ((strconv_Itoa.f (wrap64 (Int.tdiv x4 x109001))).bind fun t110 => (lexer_Number.l0 k x3 x4 t110 0 1 x109000 x109001))
def lexer_Number.j2 : Nat → ByteArray → Int → ByteArray → Int → Int → Int → Int → Option (ByteArray)
 | 0, _, _, _, _, _, _, _ => none
 | k + 1, x3, x4, x5, x6, x7, x109000, x109001 => if x109001 = 0 then (none) else (if (Int.tmod x7 x109001) = 0 then (lexer_Number.j3 k x3 x4 x5 x6 x7 (decide ((wrap64 ((x5.size : Int) + x6)) > 18)) x109000 x109001) else (lexer_Number.j3 k x3 x4 x5 x6 x7 true x109000 x109001))
def lexer_Number.j3 : Nat → ByteArray → Int → ByteArray → Int → Int → Bool → Int → Int → Option (ByteArray)
 | 0, _, _, _, _, _, _, _, _ => none
 | k + 1, x3, x4, x5, x6, x7, x47, x109000, x109001 => if x47 = true then ((ratio_Format.f k x109000 x109001).bind fun t111 => (some t111)) else (if x6 = 0 then (if x3.size + x5.size ≤ 9223372036854775807 then (some (x3 ++ x5)) else (none)) else (if x109001 = 0 then (none) else ((strconv_Itoa.f (wrap64 ((Int.tmod x4 x109001) * (wrap64 (Int.tdiv x7 x109001))))).bind fun t112 => (if x3.size + x5.size ≤ 9223372036854775807 then (if (x3 ++ x5).size + 1 ≤ 9223372036854775807 then ((strings_Repeat.f (⟨#[48]⟩ : ByteArray) (wrap64 (x6 - (t112.size : Int)))).bind fun t113 => (if ((x3 ++ x5) ++ (⟨#[46]⟩ : ByteArray)).size + t113.size ≤ 9223372036854775807 then (if (((x3 ++ x5) ++ (⟨#[46]⟩ : ByteArray)) ++ t113).size + t112.size ≤ 9223372036854775807 then (some ((((x3 ++ x5) ++ (⟨#[46]⟩ : ByteArray)) ++ t113) ++ t112)) else (none)) else (none))) else (none)) else (none)))))
def lexer_Number.l0 : Nat → ByteArray → Int → ByteArray → Int → Int → Int → Int → Option (ByteArray)
 | 0, _, _, _, _, _, _, _ => none
 | k + 1, x3, x4, x5, x6, x7, x109000, x109001 => if x6 < 18 then (if x109001 = 0 then (none) else (if (Int.tmod x7 x109001) = 0 then (lexer_Number.j2 k x3 x4 x5 x6 x7 x109000 x109001) else (lexer_Number.l0 k x3 x4 x5 (wrap64 (x6 + 1)) (wrap64 (x7 * 10)) x109000 x109001))) else (lexer_Number.j2 k x3 x4 x5 x6 x7 x109000 x109001)
end
def lexer_Number.f (k : Nat) (a0_0 : Int) (a0_1 : Int) : Option (ByteArray) := (ratio_Check.f k a0_0 a0_1).bind fun t109 => (if t109 = 0 then (if a0_0 < 0 then (lexer_Number.j0 k (⟨#[45]⟩ : ByteArray) (wrap64 (-a0_0)) a0_0 a0_1) else (lexer_Number.j0 k (⟨#[]⟩ : ByteArray) a0_0 a0_0 a0_1)) else (some (⟨#[]⟩ : ByteArray)))
theorem lexer_Number.mono_l : ∀ k, (∀ y0 y1 y2 y3, LeO (lexer_Number.j0 k y0 y1 y2 y3) (lexer_Number.j0 (k + 1) y0 y1 y2 y3)) ∧ (∀ y0 y1 y2 y3 y4 y5 y6, LeO (lexer_Number.j2 k y0 y1 y2 y3 y4 y5 y6) (lexer_Number.j2 (k + 1) y0 y1 y2 y3 y4 y5 y6)) ∧ (∀ y0 y1 y2 y3 y4 y5 y6 y7, LeO (lexer_Number.j3 k y0 y1 y2 y3 y4 y5 y6 y7) (lexer_Number.j3 (k + 1) y0 y1 y2 y3 y4 y5 y6 y7)) ∧ (∀ y0 y1 y2 y3 y4 y5 y6, LeO (lexer_Number.l0 k y0 y1 y2 y3 y4 y5 y6) (lexer_Number.l0 (k + 1) y0 y1 y2 y3 y4 y5 y6))
 | 0 => ⟨fun _ _ _ _ r h => by simp [lexer_Number.j0] at h, fun _ _ _ _ _ _ _ r h => by simp [lexer_Number.j2] at h, fun _ _ _ _ _ _ _ _ r h => by simp [lexer_Number.j3] at h, fun _ _ _ _ _ _ _ r h => by simp [lexer_Number.l0] at h⟩
 | k + 1 => by
  obtain ⟨ih0, ih1, ih2, ih3⟩ := lexer_Number.mono_l k
  refine ⟨?_, ?_, ?_, ?_⟩
  ·
   intro y0 y1 y2 y3
   unfold lexer_Number.j0
   repeat' first
   | (with_reducible exact ih0 _ _ _ _)
   | (with_reducible exact ih1 _ _ _ _ _ _ _)
   | (with_reducible exact ih2 _ _ _ _ _ _ _ _)
   | (with_reducible exact ih3 _ _ _ _ _ _ _)
   | (with_reducible exact ratio_Check.mono _ _ _)
   | (with_reducible exact ratio_Format.mono _ _ _)
   | (with_reducible exact LeO.refl _)
   | (with_reducible exact LeO.none _)
   | (with_reducible refine LeO.ite ?_ ?_)
   | (with_reducible refine LeO.bind ?_ (fun _ => ?_))
   | exact ih0 _ _ _ _
   | exact ih1 _ _ _ _ _ _ _
   | exact ih2 _ _ _ _ _ _ _ _
   | exact ih3 _ _ _ _ _ _ _
   | exact ratio_Check.mono _ _ _
   | exact ratio_Format.mono _ _ _
   | exact LeO.none _
   | refine LeO.ite ?_ ?_
   | refine LeO.bind ?_ (fun _ => ?_)
  ·
   intro y0 y1 y2 y3 y4 y5 y6
   unfold lexer_Number.j2
   repeat' first
   | (with_reducible exact ih0 _ _ _ _)
   | (with_reducible exact ih1 _ _ _ _ _ _ _)
   | (with_reducible exact ih2 _ _ _ _ _ _ _ _)
   | (with_reducible exact ih3 _ _ _ _ _ _ _)
   | (with_reducible exact ratio_Check.mono _ _ _)
   | (with_reducible exact ratio_Format.mono _ _ _)
   | (with_reducible exact LeO.refl _)
   | (with_reducible exact LeO.none _)
   | (with_reducible refine LeO.ite ?_ ?_)
   | (with_reducible refine LeO.bind ?_ (fun _ => ?_))
   | exact ih0 _ _ _ _
   | exact ih1 _ _ _ _ _ _ _
   | exact ih2 _ _ _ _ _ _ _ _
   | exact ih3 _ _ _ _ _ _ _
   | exact ratio_Check.mono _ _ _
   | exact ratio_Format.mono _ _ _
   | exact LeO.none _
   | refine LeO.ite ?_ ?_
   | refine LeO.bind ?_ (fun _ => ?_)
  ·
   intro y0 y1 y2 y3 y4 y5 y6 y7
   unfold lexer_Number.j3
   repeat' first
   | (with_reducible exact ih0 _ _ _ _)
   | (with_reducible exact ih1 _ _ _ _ _ _ _)
   | (with_reducible exact ih2 _ _ _ _ _ _ _ _)
   | (with_reducible exact ih3 _ _ _ _ _ _ _)
   | (with_reducible exact ratio_Check.mono _ _ _)
   | (with_reducible exact ratio_Format.mono _ _ _)
   | (with_reducible exact LeO.refl _)
   | (with_reducible exact LeO.none _)
   | (with_reducible refine LeO.ite ?_ ?_)
   | (with_reducible refine LeO.bind ?_ (fun _ => ?_))
   | exact ih0 _ _ _ _
   | exact ih1 _ _ _ _ _ _ _
   | exact ih2 _ _ _ _ _ _ _ _
   | exact ih3 _ _ _ _ _ _ _
   | exact ratio_Check.mono _ _ _
   | exact ratio_Format.mono _ _ _
   | exact LeO.none _
   | refine LeO.ite ?_ ?_
   | refine LeO.bind ?_ (fun _ => ?_)
  ·
   intro y0 y1 y2 y3 y4 y5 y6
   unfold lexer_Number.l0
   repeat' first
   | (with_reducible exact ih0 _ _ _ _)
   | (with_reducible exact ih1 _ _ _ _ _ _ _)
   | (with_reducible exact ih2 _ _ _ _ _ _ _ _)
   | (with_reducible exact ih3 _ _ _ _ _ _ _)
   | (with_reducible exact ratio_Check.mono _ _ _)
   | (with_reducible exact ratio_Format.mono _ _ _)
   | (with_reducible exact LeO.refl _)
   | (with_reducible exact LeO.none _)
   | (with_reducible refine LeO.ite ?_ ?_)
   | (with_reducible refine LeO.bind ?_ (fun _ => ?_))
   | exact ih0 _ _ _ _
   | exact ih1 _ _ _ _ _ _ _
   | exact ih2 _ _ _ _ _ _ _ _
   | exact ih3 _ _ _ _ _ _ _
   | exact ratio_Check.mono _ _ _
   | exact ratio_Format.mono _ _ _
   | exact LeO.none _
   | refine LeO.ite ?_ ?_
   | refine LeO.bind ?_ (fun _ => ?_)
theorem lexer_Number.mono : ∀ a0 a1 k, LeO (lexer_Number.f k a0 a1) (lexer_Number.f (k + 1) a0 a1) := by
 intro a0 a1 k
 obtain ⟨ih0, ih1, ih2, ih3⟩ := lexer_Number.mono_l k
 unfold lexer_Number.f
 repeat' first
   | (with_reducible exact ih0 _ _ _ _)
   | (with_reducible exact ih1 _ _ _ _ _ _ _)
   | (with_reducible exact ih2 _ _ _ _ _ _ _ _)
   | (with_reducible exact ih3 _ _ _ _ _ _ _)
   | (with_reducible exact ratio_Check.mono _ _ _)
   | (with_reducible exact ratio_Format.mono _ _ _)
   | (with_reducible exact LeO.refl _)
   | (with_reducible exact LeO.none _)
   | (with_reducible refine LeO.ite ?_ ?_)
   | (with_reducible refine LeO.bind ?_ (fun _ => ?_))
   | exact ih0 _ _ _ _
   | exact ih1 _ _ _ _ _ _ _
   | exact ih2 _ _ _ _ _ _ _ _
   | exact ih3 _ _ _ _ _ _ _
   | exact ratio_Check.mono _ _ _
   | exact ratio_Format.mono _ _ _
   | exact LeO.none _
   | refine LeO.ite ?_ ?_
   | refine LeO.bind ?_ (fun _ => ?_)
def lexer_Number.T15 : Bool × List (List Nat × List Nat) := (true, [([], []), ([], []), ([1], [1]), ([0, 2], [0, 2]), ([], []), ([], []), ([5], [5]), ([4, 6], [4, 6]), ([3, 7], [3, 7]), ([8], [8]), ([9, 9, 0, 1, 2, 3, 4, 5, 6, 7, 8, 9], [9])])
def lexer_Number.B15 : List Nat := [0, 0, 2, 7, 0, 0, 32, 112, 255, 511, 1023]
theorem lexer_Number.tab15 : rtab .any (opsOf Tryz.f13 15) = lexer_Number.T15 := by kernel_rfl
theorem lexer_Number.bits15 : waitsOk lexer_Number.T15.2 lexer_Number.B15 = true := by kernel_rfl
set_option maxHeartbeats 8000000 in
set_option maxRecDepth 100000 in
theorem lexer_Number.calls (k : Nat) (a0_0 : Int) (a0_1 : Int) (r : ByteArray) (w : World) (hT : Tabs w) (h : lexer_Number.f k a0_0 a0_1 = some r) :
  Calls Tryz.prog 13 #[.agg #[.int .i64 a0_0, .int .i64 a0_1]] w fun e w' => e = .returned (.string r) ∧ Below w.heap.size w w' := by
 have hu27 := Tryz.underlying27
 have HT := Aside0.mk hT
 clear hT
 have HB := Aside0.mk (Below.refl w.heap.size w)
 have H : ((ratio_Check.f k a0_0 a0_1).bind fun t109 => (if t109 = 0 then (if a0_0 < 0 then (lexer_Number.j0 k (⟨#[45]⟩ : ByteArray) (wrap64 (-a0_0)) a0_0 a0_1) else (lexer_Number.j0 k (⟨#[]⟩ : ByteArray) a0_0 a0_0 a0_1)) else (some (⟨#[]⟩ : ByteArray)))) = some r := h
 clear h
 replace H := Option.bind_eq_some_iff.mp H
 obtain ⟨t109, A20, H⟩ := H
 replace H : (if t109 = 0 then (if a0_0 < 0 then (lexer_Number.j0 k (⟨#[45]⟩ : ByteArray) (wrap64 (-a0_0)) a0_0 a0_1) else (lexer_Number.j0 k (⟨#[]⟩ : ByteArray) a0_0 a0_0 a0_1)) else (some (⟨#[]⟩ : ByteArray))) = some r := H
 have A2 := Aside0.mk A20
 clear A20
 by_cases c3 : t109 = 0
 ·
  rw [if_pos c3] at H
  have c3b0 : (t109 == 0) = true := beq_iff_eq.mpr c3
  have c3b1 : (t109 != 0) = false := bne_eq_false_iff_eq.mpr c3
  clear c3
  have HC4 := Aside0.mk H
  clear H
  go_enter Tryz.func13, Tryz.ntmps13
  try go_wp2_with (first | ((with_reducible refine gate_dst (N := 1) rfl ?_); (try (refine gate_guard (by rfl) ?_; dsimp only)); refine box_event ?hg (N := 1) ?hd (cs := #[.int .i64 a0_0, .int .i64 a0_1]) (t := 27) ?hr ?_; (case hd => rfl); (case hg => rfl); (case hr => first | (go_simp; done) | (go_simp; rfl)); intro gb108 hg w5 hbox hb; have n0_ := Aside0.mk (below_step (by repeat (first | (with_reducible first | exact HB.out | apply below_alloc | apply pw_below_drewN | apply below_drew1) | exact HB.out)) hb); have n1_ := Aside0.mk (hbox); have n2_ := Aside0.mk ((by rw [hg]; exact (below_size (by repeat (first | (with_reducible first | exact HB.out | apply below_alloc | apply pw_below_drewN | apply below_drew1) | exact HB.out))) : w.heap.size ≤ gb108)); have n3_ := Aside0.mk ((by rw [hg]; exact (below_size (by repeat (first | (with_reducible first | exact HB.out | apply below_alloc | apply pw_below_drewN | apply below_drew1) | exact HB.out))) : w.heap.size ≤ gb108)); clear HB; have HB := n0_; have BK108 := n1_; have GW108 := n2_; have GE108 := n3_; clear n0_ n1_ n2_ n3_; clear hb hbox hg; have hcz6_0 : w5.cell? ⟨gb108, 0, none⟩ = some (.int .i64 a0_0) := (blk_cell BK108.out 0).trans rfl; have hcz6_1 : w5.cell? ⟨gb108, 1, none⟩ = some (.int .i64 a0_1) := (blk_cell BK108.out 1).trans rfl; have hfz6_0 := blk_frozen BK108.out 0; have hfz6_1 := blk_frozen BK108.out 1) | ((with_reducible refine gate_callee (f := 14) rfl ?_); refine goesL_ (some 10) rfl rfl Tryz.func14 (by kernel_rfl) rfl #[.agg #[.int .i64 a0_0, .int .i64 a0_1]] rfl (by (try simp only [List.map_toArray, List.map_cons, List.map_nil]); first | done | rfl | (simp only [List.length_drop, List.length_take]; rfl)) ?_; (with_reducible refine (ratio_Check.calls k a0_0 a0_1 t109 _ A2.out).mono ?_); rintro e w7 ⟨rfl, hb⟩; refine ⟨_, rfl, ?_⟩; have n0_ := Aside0.mk (blk_below (g := gb108) (o := .cells #[.int .i64 a0_0, .int .i64 a0_1] 27 (0, 0)) (by (with_reducible repeat (first | refine blk_drewN ?_ _ | refine blk_drew ?_ | refine blk_alloc ?_ _)); exact BK108.out) hb); have n1_ := Aside0.mk (below_step (by repeat (first | (with_reducible first | exact HB.out | apply below_alloc | apply pw_below_drewN | apply below_drew1 | refine below_set ?_ GE108.out) | exact HB.out)) hb); clear BK108; clear HB; have BK108 := n0_; have HB := n1_; clear n0_ n1_; (try clear hb); (try clear hb2); (try clear hk); (try clear hi)))
  have n0_ := Aside0.mk (blk_drew BK108.out)
  have n1_ := Aside0.mk (below_drew1 HB.out)
  clear BK108; clear HB; have BK108 := n0_; have HB := n1_; clear n0_ n1_
  refine start_ (n := 4) (S := fun w' => w'.cell? ⟨gb108, 0, none⟩ = some (.int .i64 a0_0) ∧ w'.cell? ⟨gb108, 1, none⟩ = some (.int .i64 a0_1)) (ds := []) #[false, false, false, false] (by kernel_rfl) rfl rfl ⟨(blk_cell BK108.out 0).trans rfl, (blk_cell BK108.out 1).trans rfl⟩ (fun hHeld => ?_)
  generalize w7.drew = w8 at BK108 HB hHeld ⊢
  refine pure_ (i := 0) (N := some 12) (v := ?_) (a' := ?_) #[true, false, false, false] rfl rfl (by kernel_rfl) (fun _ _ _ h => h) (Or.inl ⟨by rfl, ?_⟩) ?_ ?_
  rotate_left; (intro w'; go_simp; with_reducible rfl); rotate_left; (simp only [Act.put, List.setIfInBounds_toArray, List.set_cons_zero, List.set_cons_succ, i64_w, i32_w]; rfl)
  refine pure_ (i := 2) (N := some 3) (v := ?_) (a' := ?_) #[true, false, true, false] rfl rfl (by kernel_rfl) (fun _ _ _ h => h) (Or.inl ⟨by rfl, ?_⟩) ?_ ?_
  rotate_left; (intro w'; go_simp; with_reducible rfl); rotate_left; (simp only [Act.put, List.setIfInBounds_toArray, List.set_cons_zero, List.set_cons_succ, i64_w, i32_w]; rfl)
  refine take_ (i := 1) (N := some 13) (v := ?_) (a' := ?_) #[true, true, true, false] rfl rfl (by kernel_rfl) (fun _ _ _ h => h) (Or.inl ⟨by rfl, ?_⟩) hHeld ?_ ?_
  rotate_left; (rintro w' ⟨s0, s1⟩; go_simp; with_reducible rfl); rotate_left; (simp only [Act.put, List.setIfInBounds_toArray, List.set_cons_zero, List.set_cons_succ, i64_w, i32_w]; rfl)
  refine pure_ (i := 3) (N := some 4) (v := ?_) (a' := ?_) #[true, true, true, true] rfl rfl (by kernel_rfl) (fun _ _ _ h => h) (Or.inl ⟨by rfl, ?_⟩) ?_ ?_
  rotate_left; (intro w'; go_simp; with_reducible rfl); rotate_left; (simp only [Act.put, List.setIfInBounds_toArray, List.set_cons_zero, List.set_cons_succ, i64_w, i32_w]; rfl)
  refine done_ (by kernel_rfl) ?_
  go_upto_if 15 with (fail)
  go_cut [3, 4] (fun v3 v4 wc => ∃ (kq : Nat) (x3_3 : ByteArray) (x4_3 : Int), v3 = .string x3_3 ∧ v4 = .int .i64 x4_3 ∧ Aside0 (lexer_Number.j0 kq x3_3 x4_3 a0_0 a0_1 = some r) ∧ Aside0 (kq ≤ k) ∧ Aside0 (wc.heap[gb108]? = some (.cells #[.int .i64 a0_0, .int .i64 a0_1] 27 (0, 0))) ∧ Aside0 (Below w.heap.size w wc))
  case first =>
   have H := HC4.out
   clear HC4
   by_cases c9 : a0_0 < 0
   ·
    rw [if_pos c9] at H
    have c9b0 : decide (a0_0 < 0) = true := decide_eq_true c9
    clear c9
    (first | rw [c9b0] | (simp only [i64_w, i32_w]; rw [c9b0]) | skip)
    have H' := Aside0.mk H
    clear H
    go_wp2
    go_meet
    case rel => exact ⟨_, ((⟨#[45]⟩ : ByteArray)), (wrap64 (-a0_0)), (by first | rfl | (simp; done) | (simp [*]; done)), (by first | rfl | (simp; done) | (simp [*]; done)), H', ⟨by first | omega | exact Nat.le_refl _⟩, ⟨by (with_reducible repeat (first | refine blk_drewN ?_ _ | refine blk_drew ?_ | refine blk_alloc ?_ _)); exact BK108.out⟩, ⟨by repeat (first | (with_reducible first | exact HB.out | apply below_alloc | apply pw_below_drewN | apply below_drew1 | refine below_set ?_ GE108.out) | exact HB.out)⟩⟩
   ·
    rw [if_neg c9] at H
    have c9b0 : decide (a0_0 < 0) = false := decide_eq_false c9
    clear c9
    (first | rw [c9b0] | (simp only [i64_w, i32_w]; rw [c9b0]) | skip)
    have H' := Aside0.mk H
    clear H
    go_wp2
    go_meet
    case rel => exact ⟨_, ((⟨#[]⟩ : ByteArray)), (a0_0), (by first | rfl | (simp; done) | (simp [*]; done)), (by first | rfl | (simp; done) | (simp [*]; done)), H', ⟨by first | omega | exact Nat.le_refl _⟩, ⟨by (with_reducible repeat (first | refine blk_drewN ?_ _ | refine blk_drew ?_ | refine blk_alloc ?_ _)); exact BK108.out⟩, ⟨by repeat (first | (with_reducible first | exact HB.out | apply below_alloc | apply pw_below_drewN | apply below_drew1 | refine below_set ?_ GE108.out) | exact HB.out)⟩⟩
  case rest =>
   clear HC4; (try clear c1); (try clear p2); (try clear c3); (try clear c3b0); (try clear c3b1); (try clear p6); (try clear c9); (try clear c9b0); (try clear hcz6_0); (try clear hcz6_1); (try clear hfz6_0); (try clear hfz6_1)
   obtain ⟨kq, x3_3, x4_3, rfl, rfl, HA, HJ3, BK108, HB⟩ := hcut
   cases kq with
   | zero => exact absurd HA.out (by simp [lexer_Number.j0])
   | succ kj3 =>
    have H := HA.out
    clear HA
    simp only [lexer_Number.j0] at H
    by_cases c10 : a0_1 = 0
    ·
     rw [if_pos c10] at H
     exact absurd H (by simp)
    ·
     rw [if_neg c10] at H
     have c10b0 : (a0_1 == 0) = false := beq_eq_false_iff_ne.mpr c10
     have c10b1 : (a0_1 != 0) = true := bne_iff_ne.mpr c10
     replace H := Option.bind_eq_some_iff.mp H
     obtain ⟨t110, A110, H⟩ := H
     replace H : (lexer_Number.l0 kj3 x3_3 x4_3 t110 0 1 a0_0 a0_1) = some r := H
     have A11 := Aside0.mk A110
     clear A110
     have HC12 := Aside0.mk H
     clear H
     have hcz13_0 : wc.cell? ⟨gb108, 0, none⟩ = some (.int .i64 a0_0) := (blk_cell BK108.out 0).trans rfl
     have hcz13_1 : wc.cell? ⟨gb108, 1, none⟩ = some (.int .i64 a0_1) := (blk_cell BK108.out 1).trans rfl
     have hfz13_0 := blk_frozen BK108.out 0
     have hfz13_1 := blk_frozen BK108.out 1
     go_upto_block 0 with (first | ((with_reducible refine gate_callee (f := 33) rfl ?_); refine goesL_ (some 22) rfl rfl Tryz.func33 (by kernel_rfl) rfl #[.int .i64 (wrap64 (Int.tdiv x4_3 a0_1))] rfl (by (try simp only [List.map_toArray, List.map_cons, List.map_nil]); first | done | rfl | (simp only [List.length_drop, List.length_take]; rfl)) ?_; (with_reducible refine (strconv_Itoa.calls (wrap64 (Int.tdiv x4_3 a0_1)) t110 _ ?side1 A11.out).mono ?_); (case side1 => exact Tabs.below HT.out (by repeat (first | (with_reducible first | exact HB.out | apply below_alloc | apply pw_below_drewN | apply below_drew1 | refine below_set ?_ GE108.out) | exact HB.out))); rintro e w14 ⟨rfl, hb⟩; refine ⟨_, rfl, ?_⟩; have n0_ := Aside0.mk (blk_below (g := gb108) (o := .cells #[.int .i64 a0_0, .int .i64 a0_1] 27 (0, 0)) (by (with_reducible repeat (first | refine blk_drewN ?_ _ | refine blk_drew ?_ | refine blk_alloc ?_ _)); exact BK108.out) hb); have n1_ := Aside0.mk (below_step (by repeat (first | (with_reducible first | exact HB.out | apply below_alloc | apply pw_below_drewN | apply below_drew1 | refine below_set ?_ GE108.out) | exact HB.out)) hb); clear BK108; clear HB; have BK108 := n0_; have HB := n1_; clear n0_ n1_; (try clear hb); (try clear hb2); (try clear hk); (try clear hi)))
     (try simp only [Act.put, List.setIfInBounds_toArray, List.set_cons_zero, List.set_cons_succ])
     go_cut [6, 7] (fun v6 v7 wc => ∃ (kq : Nat) (x6_11 : Int) (x7_11 : Int), v6 = .int .i64 x6_11 ∧ v7 = .int .i64 x7_11 ∧ Aside0 (lexer_Number.j2 kq x3_3 x4_3 t110 x6_11 x7_11 a0_0 a0_1 = some r) ∧ Aside0 (kq ≤ kj3) ∧ Aside0 (wc.heap[gb108]? = some (.cells #[.int .i64 a0_0, .int .i64 a0_1] 27 (0, 0))) ∧ Aside0 (Below w.heap.size w wc))
     case first =>
      have H := HC12.out
      clear HC12
      have H' := Aside0.mk H
      clear H
      go_wp2
      go_loopg [6, 7] kj3 (fun kq v6 v7 w' => ∃ (x6_2 : Int) (x7_2 : Int), v6 = .int .i64 x6_2 ∧ v7 = .int .i64 x7_2 ∧ Aside0 (lexer_Number.l0 kq x3_3 x4_3 t110 x6_2 x7_2 a0_0 a0_1 = some r) ∧ Aside0 (kq ≤ kj3) ∧ Aside0 (w'.heap[gb108]? = some (.cells #[.int .i64 a0_0, .int .i64 a0_1] 27 (0, 0))) ∧ Aside0 (Below w.heap.size w w'))
      case atStart => exact ⟨(0), (1), (by first | rfl | (simp; done) | (simp [*]; done)), (by first | rfl | (simp; done) | (simp [*]; done)), H', ⟨Nat.le_refl _⟩, ⟨by (with_reducible repeat (first | refine blk_drewN ?_ _ | refine blk_drew ?_ | refine blk_alloc ?_ _)); exact BK108.out⟩, ⟨by repeat (first | (with_reducible first | exact HB.out | apply below_alloc | apply pw_below_drewN | apply below_drew1 | refine below_set ?_ GE108.out) | exact HB.out)⟩⟩
      case round =>
       clear H'; (try clear c1); (try clear p2); (try clear c3); (try clear c3b0); (try clear c3b1); (try clear p6); (try clear c9); (try clear c9b0); (try clear c10); (try clear c10b0); (try clear c10b1); (try clear c13); (try clear c14); (try clear hcz13_0); (try clear hcz13_1); (try clear hcz6_0); (try clear hcz6_1); (try clear hfz13_0); (try clear hfz13_1); (try clear hfz6_0); (try clear hfz6_1); (try clear p2); (try clear p6)
       obtain ⟨x6_2, x7_2, rfl, rfl, HA, HK2, BK108, HB⟩ := hrel
       cases gk with
       | zero => exact absurd HA.out (by simp [lexer_Number.l0])
       | succ k2 =>
        have H := HA.out
        clear HA
        simp only [lexer_Number.l0] at H
        by_cases c15 : x6_2 < 18
        ·
         rw [if_pos c15] at H
         have c15b0 : decide (x6_2 < 18) = true := decide_eq_true c15
         clear c15
         (first | rw [c15b0] | (simp only [i64_w, i32_w]; rw [c15b0]) | skip)
         by_cases c16 : a0_1 = 0
         ·
          rw [if_pos c16] at H
          exact absurd H (by simp)
         ·
          rw [if_neg c16] at H
          have c16b0 : (a0_1 == 0) = false := beq_eq_false_iff_ne.mpr c16
          have c16b1 : (a0_1 != 0) = true := bne_iff_ne.mpr c16
          by_cases c17 : (Int.tmod x7_2 a0_1) = 0
          ·
           rw [if_pos c17] at H
           have c17b0 : ((Int.tmod x7_2 a0_1) == 0) = true := beq_iff_eq.mpr c17
           have c17b1 : ((Int.tmod x7_2 a0_1) != 0) = false := bne_eq_false_iff_eq.mpr c17
           clear c17
           have H' := Aside0.mk H
           clear H
           have hcz18_0 : wr.cell? ⟨gb108, 0, none⟩ = some (.int .i64 a0_0) := (blk_cell BK108.out 0).trans rfl
           have hcz18_1 : wr.cell? ⟨gb108, 1, none⟩ = some (.int .i64 a0_1) := (blk_cell BK108.out 1).trans rfl
           have hfz18_0 := blk_frozen BK108.out 0
           have hfz18_1 := blk_frozen BK108.out 1
           go_wp2
           go_meet
           case rel => exact ⟨_, (x6_2), (x7_2), (by first | rfl | (simp; done) | (simp [*]; done)), (by first | rfl | (simp; done) | (simp [*]; done)), H', ⟨by have := HJ3.out; have := HK2.out; first | omega | exact Nat.le_refl _⟩, ⟨by (with_reducible repeat (first | refine blk_drewN ?_ _ | refine blk_drew ?_ | refine blk_alloc ?_ _)); exact BK108.out⟩, ⟨by repeat (first | (with_reducible first | exact HB.out | apply below_alloc | apply pw_below_drewN | apply below_drew1 | refine below_set ?_ GE108.out) | exact HB.out)⟩⟩
          ·
           rw [if_neg c17] at H
           have c17b0 : ((Int.tmod x7_2 a0_1) == 0) = false := beq_eq_false_iff_ne.mpr c17
           have c17b1 : ((Int.tmod x7_2 a0_1) != 0) = true := bne_iff_ne.mpr c17
           have H' := Aside0.mk H
           clear H
           have hcz19_0 : wr.cell? ⟨gb108, 0, none⟩ = some (.int .i64 a0_0) := (blk_cell BK108.out 0).trans rfl
           have hcz19_1 : wr.cell? ⟨gb108, 1, none⟩ = some (.int .i64 a0_1) := (blk_cell BK108.out 1).trans rfl
           have hfz19_0 := blk_frozen BK108.out 0
           have hfz19_1 := blk_frozen BK108.out 1
           go_wp2
           go_roundg k2
           case measure => have := HJ3.out; have := HK2.out; omega
           case rel => exact ⟨(wrap64 (x6_2 + 1)), (wrap64 (x7_2 * 10)), (by first | rfl | (simp; done) | (simp [*]; done)), (by first | rfl | (simp; done) | (simp [*]; done)), H', ⟨by have := HJ3.out; have := HK2.out; omega⟩, ⟨by (with_reducible repeat (first | refine blk_drewN ?_ _ | refine blk_drew ?_ | refine blk_alloc ?_ _)); exact BK108.out⟩, ⟨by repeat (first | (with_reducible first | exact HB.out | apply below_alloc | apply pw_below_drewN | apply below_drew1 | refine below_set ?_ GE108.out) | exact HB.out)⟩⟩
        ·
         rw [if_neg c15] at H
         have c15b0 : decide (x6_2 < 18) = false := decide_eq_false c15
         clear c15
         (first | rw [c15b0] | (simp only [i64_w, i32_w]; rw [c15b0]) | skip)
         have H' := Aside0.mk H
         clear H
         go_wp2
         go_meet
         case rel => exact ⟨_, (x6_2), (x7_2), (by first | rfl | (simp; done) | (simp [*]; done)), (by first | rfl | (simp; done) | (simp [*]; done)), H', ⟨by have := HJ3.out; have := HK2.out; first | omega | exact Nat.le_refl _⟩, ⟨by (with_reducible repeat (first | refine blk_drewN ?_ _ | refine blk_drew ?_ | refine blk_alloc ?_ _)); exact BK108.out⟩, ⟨by repeat (first | (with_reducible first | exact HB.out | apply below_alloc | apply pw_below_drewN | apply below_drew1 | refine below_set ?_ GE108.out) | exact HB.out)⟩⟩
     case rest =>
      clear HC12; (try clear c1); (try clear p2); (try clear c3); (try clear c3b0); (try clear c3b1); (try clear p6); (try clear c9); (try clear c9b0); (try clear c10); (try clear c10b0); (try clear c10b1); (try clear c13); (try clear c14); (try clear c15); (try clear c15b0); (try clear c16); (try clear c16b0); (try clear c16b1); (try clear c17); (try clear c17b0); (try clear c17b1); (try clear hcz13_0); (try clear hcz13_1); (try clear hcz18_0); (try clear hcz18_1); (try clear hcz19_0); (try clear hcz19_1); (try clear hcz6_0); (try clear hcz6_1); (try clear hfz13_0); (try clear hfz13_1); (try clear hfz18_0); (try clear hfz18_1); (try clear hfz19_0); (try clear hfz19_1); (try clear hfz6_0); (try clear hfz6_1); (try clear p2); (try clear p6)
      obtain ⟨kq, x6_11, x7_11, rfl, rfl, HA, HJ11, BK108, HB⟩ := hcut
      cases kq with
      | zero => exact absurd HA.out (by simp [lexer_Number.j2])
      | succ kj11 =>
       have H := HA.out
       clear HA
       simp only [lexer_Number.j2] at H
       have HC20 := Aside0.mk H
       clear H
       go_upto_region 11 with (fail)
       go_cut [47] (fun v47 wc => ∃ (kq : Nat) (x47_19 : Bool), v47 = .bool x47_19 ∧ Aside0 (lexer_Number.j3 kq x3_3 x4_3 t110 x6_11 x7_11 x47_19 a0_0 a0_1 = some r) ∧ Aside0 (kq ≤ kj11) ∧ Aside0 (wc.heap[gb108]? = some (.cells #[.int .i64 a0_0, .int .i64 a0_1] 27 (0, 0))) ∧ Aside0 (Below w.heap.size w wc))
       case first =>
        have H := HC20.out
        clear HC20
        by_cases c21 : a0_1 = 0
        ·
         rw [if_pos c21] at H
         exact absurd H (by simp)
        ·
         rw [if_neg c21] at H
         have c21b0 : (a0_1 == 0) = false := beq_eq_false_iff_ne.mpr c21
         have c21b1 : (a0_1 != 0) = true := bne_iff_ne.mpr c21
         (first | rw [c21b0] | (simp only [i64_w, i32_w]; rw [c21b0]) | skip)
         by_cases c22 : (Int.tmod x7_11 a0_1) = 0
         ·
          rw [if_pos c22] at H
          have c22b0 : ((Int.tmod x7_11 a0_1) == 0) = true := beq_iff_eq.mpr c22
          have c22b1 : ((Int.tmod x7_11 a0_1) != 0) = false := bne_eq_false_iff_eq.mpr c22
          clear c22
          have H' := Aside0.mk H
          clear H
          have hcz23_0 : wc.cell? ⟨gb108, 0, none⟩ = some (.int .i64 a0_0) := (blk_cell BK108.out 0).trans rfl
          have hcz23_1 : wc.cell? ⟨gb108, 1, none⟩ = some (.int .i64 a0_1) := (blk_cell BK108.out 1).trans rfl
          have hfz23_0 := blk_frozen BK108.out 0
          have hfz23_1 := blk_frozen BK108.out 1
          go_wp2
          go_meet
          case rel => exact ⟨_, (decide ((wrap64 ((t110.size : Int) + x6_11)) > 18)), (by first | rfl | (simp; done) | (simp [*]; done)), H', ⟨by have := HJ3.out; have := HJ11.out; first | omega | exact Nat.le_refl _⟩, ⟨by (with_reducible repeat (first | refine blk_drewN ?_ _ | refine blk_drew ?_ | refine blk_alloc ?_ _)); exact BK108.out⟩, ⟨by repeat (first | (with_reducible first | exact HB.out | apply below_alloc | apply pw_below_drewN | apply below_drew1 | refine below_set ?_ GE108.out) | exact HB.out)⟩⟩
         ·
          rw [if_neg c22] at H
          have c22b0 : ((Int.tmod x7_11 a0_1) == 0) = false := beq_eq_false_iff_ne.mpr c22
          have c22b1 : ((Int.tmod x7_11 a0_1) != 0) = true := bne_iff_ne.mpr c22
          have H' := Aside0.mk H
          clear H
          have hcz24_0 : wc.cell? ⟨gb108, 0, none⟩ = some (.int .i64 a0_0) := (blk_cell BK108.out 0).trans rfl
          have hcz24_1 : wc.cell? ⟨gb108, 1, none⟩ = some (.int .i64 a0_1) := (blk_cell BK108.out 1).trans rfl
          have hfz24_0 := blk_frozen BK108.out 0
          have hfz24_1 := blk_frozen BK108.out 1
          go_wp2
          go_meet
          case rel => exact ⟨_, (true), (by first | rfl | (simp; done) | (simp [*]; done)), H', ⟨by have := HJ3.out; have := HJ11.out; first | omega | exact Nat.le_refl _⟩, ⟨by (with_reducible repeat (first | refine blk_drewN ?_ _ | refine blk_drew ?_ | refine blk_alloc ?_ _)); exact BK108.out⟩, ⟨by repeat (first | (with_reducible first | exact HB.out | apply below_alloc | apply pw_below_drewN | apply below_drew1 | refine below_set ?_ GE108.out) | exact HB.out)⟩⟩
       case rest =>
        clear HC20; (try clear c1); (try clear c2); (try clear p2); (try clear c3); (try clear c3b0); (try clear c3b1); (try clear p6); (try clear c9); (try clear c9b0); (try clear c10); (try clear c10b0); (try clear c10b1); (try clear c13); (try clear c14); (try clear c15); (try clear c15b0); (try clear c16); (try clear c16b0); (try clear c16b1); (try clear c17); (try clear c17b0); (try clear c17b1); (try clear c21); (try clear c21b0); (try clear c21b1); (try clear c22); (try clear c22b0); (try clear c22b1); (try clear hcz13_0); (try clear hcz13_1); (try clear hcz18_0); (try clear hcz18_1); (try clear hcz19_0); (try clear hcz19_1); (try clear hcz23_0); (try clear hcz23_1); (try clear hcz24_0); (try clear hcz24_1); (try clear hcz6_0); (try clear hcz6_1); (try clear hfz13_0); (try clear hfz13_1); (try clear hfz18_0); (try clear hfz18_1); (try clear hfz19_0); (try clear hfz19_1); (try clear hfz23_0); (try clear hfz23_1); (try clear hfz24_0); (try clear hfz24_1); (try clear hfz6_0); (try clear hfz6_1); (try clear p2); (try clear p6)
        obtain ⟨kq, x47_19, rfl, HA, HJ19, BK108, HB⟩ := hcut
        cases kq with
        | zero => exact absurd HA.out (by simp [lexer_Number.j3])
        | succ kj19 =>
         have H := HA.out
         clear HA
         simp only [lexer_Number.j3] at H
         by_cases c25 : x47_19 = true
         ·
          subst c25
          have H1 : ((ratio_Format.f kj19 a0_0 a0_1).bind fun t111 => (some t111)) = some r := by rw [if_pos rfl] at H; exact H
          clear H
          have H := H1
          clear H1
          replace H := Option.bind_eq_some_iff.mp H
          obtain ⟨t111, A260, H⟩ := H
          replace H : (some t111) = some r := H
          have A26 := Aside0.mk A260
          clear A260
          obtain rfl := Option.some.inj H
          have hcz27_0 : wc.cell? ⟨gb108, 0, none⟩ = some (.int .i64 a0_0) := (blk_cell BK108.out 0).trans rfl
          have hcz27_1 : wc.cell? ⟨gb108, 1, none⟩ = some (.int .i64 a0_1) := (blk_cell BK108.out 1).trans rfl
          have hfz27_0 := blk_frozen BK108.out 0
          have hfz27_1 := blk_frozen BK108.out 1
          go_wp2_with (first | ((with_reducible refine gate_callee (f := 35) rfl ?_); refine goesL_ (some 49) rfl rfl Tryz.func35 (by kernel_rfl) rfl #[.agg #[.int .i64 a0_0, .int .i64 a0_1]] rfl (by (try simp only [List.map_toArray, List.map_cons, List.map_nil]); first | done | rfl | (simp only [List.length_drop, List.length_take]; rfl)) ?_; (with_reducible refine (ratio_Format.calls kj19 a0_0 a0_1 t111 _ ?side1 A26.out).mono ?_); (case side1 => exact Tabs.below HT.out (by repeat (first | (with_reducible first | exact HB.out | apply below_alloc | apply pw_below_drewN | apply below_drew1 | refine below_set ?_ GE108.out) | exact HB.out))); rintro e w28 ⟨rfl, hb⟩; refine ⟨_, rfl, ?_⟩; have n0_ := Aside0.mk (blk_below (g := gb108) (o := .cells #[.int .i64 a0_0, .int .i64 a0_1] 27 (0, 0)) (by (with_reducible repeat (first | refine blk_drewN ?_ _ | refine blk_drew ?_ | refine blk_alloc ?_ _)); exact BK108.out) hb); have n1_ := Aside0.mk (below_step (by repeat (first | (with_reducible first | exact HB.out | apply below_alloc | apply pw_below_drewN | apply below_drew1 | refine below_set ?_ GE108.out) | exact HB.out)) hb); clear BK108; clear HB; have BK108 := n0_; have HB := n1_; clear n0_ n1_; (try clear hb); (try clear hb2); (try clear hk); (try clear hi)))
          go_ret
          exact ⟨by first | rfl | (simp [errW_none, errW_some] <;> rfl) | (simp [*, errW_none, errW_some] <;> rfl), by repeat (first | (with_reducible first | exact HB.out | apply below_alloc | apply pw_below_drewN | apply below_drew1 | refine below_set ?_ GE108.out) | exact HB.out)⟩
         ·
          replace c25 := Bool.eq_false_iff.mpr c25
          subst c25
          have H1 : (if x6_11 = 0 then (if x3_3.size + t110.size ≤ 9223372036854775807 then (some (x3_3 ++ t110)) else (none)) else (if a0_1 = 0 then (none) else ((strconv_Itoa.f (wrap64 ((Int.tmod x4_3 a0_1) * (wrap64 (Int.tdiv x7_11 a0_1))))).bind fun t112 => (if x3_3.size + t110.size ≤ 9223372036854775807 then (if (x3_3 ++ t110).size + 1 ≤ 9223372036854775807 then ((strings_Repeat.f (⟨#[48]⟩ : ByteArray) (wrap64 (x6_11 - (t112.size : Int)))).bind fun t113 => (if ((x3_3 ++ t110) ++ (⟨#[46]⟩ : ByteArray)).size + t113.size ≤ 9223372036854775807 then (if (((x3_3 ++ t110) ++ (⟨#[46]⟩ : ByteArray)) ++ t113).size + t112.size ≤ 9223372036854775807 then (some ((((x3_3 ++ t110) ++ (⟨#[46]⟩ : ByteArray)) ++ t113) ++ t112)) else (none)) else (none))) else (none)) else (none))))) = some r := by rw [if_neg (show ¬ (false = true) by decide)] at H; exact H
          clear H
          have H := H1
          clear H1
          by_cases c29 : x6_11 = 0
          ·
           rw [if_pos c29] at H
           have c29b0 : (x6_11 == 0) = true := beq_iff_eq.mpr c29
           have c29b1 : (x6_11 != 0) = false := bne_eq_false_iff_eq.mpr c29
           clear c29
           by_cases c30 : x3_3.size + t110.size ≤ 9223372036854775807
           ·
            rw [if_pos c30] at H
            have c30b0 := eq_true c30
            have c30b1 : decide (x3_3.size + t110.size ≤ 9223372036854775807) = true := decide_eq_true c30
            try have c30b2 : (9223372036854775807 < x3_3.size + t110.size) = False := eq_false (Nat.not_lt.2 c30)
            obtain rfl := Option.some.inj H
            go_wp2
            go_ret
            exact ⟨by first | rfl | (simp [errW_none, errW_some] <;> rfl) | (simp [*, errW_none, errW_some] <;> rfl), by repeat (first | (with_reducible first | exact HB.out | apply below_alloc | apply pw_below_drewN | apply below_drew1 | refine below_set ?_ GE108.out) | exact HB.out)⟩
           ·
            rw [if_neg c30] at H
            exact absurd H (by simp)
          ·
           rw [if_neg c29] at H
           have c29b0 : (x6_11 == 0) = false := beq_eq_false_iff_ne.mpr c29
           have c29b1 : (x6_11 != 0) = true := bne_iff_ne.mpr c29
           by_cases c31 : a0_1 = 0
           ·
            rw [if_pos c31] at H
            exact absurd H (by simp)
           ·
            rw [if_neg c31] at H
            have c31b0 : (a0_1 == 0) = false := beq_eq_false_iff_ne.mpr c31
            have c31b1 : (a0_1 != 0) = true := bne_iff_ne.mpr c31
            replace H := Option.bind_eq_some_iff.mp H
            obtain ⟨t112, A320, H⟩ := H
            replace H : (if x3_3.size + t110.size ≤ 9223372036854775807 then (if (x3_3 ++ t110).size + 1 ≤ 9223372036854775807 then ((strings_Repeat.f (⟨#[48]⟩ : ByteArray) (wrap64 (x6_11 - (t112.size : Int)))).bind fun t113 => (if ((x3_3 ++ t110) ++ (⟨#[46]⟩ : ByteArray)).size + t113.size ≤ 9223372036854775807 then (if (((x3_3 ++ t110) ++ (⟨#[46]⟩ : ByteArray)) ++ t113).size + t112.size ≤ 9223372036854775807 then (some ((((x3_3 ++ t110) ++ (⟨#[46]⟩ : ByteArray)) ++ t113) ++ t112)) else (none)) else (none))) else (none)) else (none)) = some r := H
            have A32 := Aside0.mk A320
            clear A320
            by_cases c33 : x3_3.size + t110.size ≤ 9223372036854775807
            ·
             rw [if_pos c33] at H
             have c33b0 := eq_true c33
             have c33b1 : decide (x3_3.size + t110.size ≤ 9223372036854775807) = true := decide_eq_true c33
             try have c33b2 : (9223372036854775807 < x3_3.size + t110.size) = False := eq_false (Nat.not_lt.2 c33)
             by_cases c34 : (x3_3 ++ t110).size + 1 ≤ 9223372036854775807
             ·
              rw [if_pos c34] at H
              have c34b0 := eq_true c34
              have c34b1 : decide ((x3_3 ++ t110).size + 1 ≤ 9223372036854775807) = true := decide_eq_true c34
              try have c34b3 : (9223372036854775807 < x3_3.size + t110.size + 1) = False := eq_false (Nat.not_lt.2 (by have z_ := c34; simp only [ByteArray.size_append'] at z_; exact z_))
              try have c34b2 : (9223372036854775807 < (x3_3 ++ t110).size + 1) = False := eq_false (Nat.not_lt.2 c34)
              replace H := Option.bind_eq_some_iff.mp H
              obtain ⟨t113, A350, H⟩ := H
              replace H : (if ((x3_3 ++ t110) ++ (⟨#[46]⟩ : ByteArray)).size + t113.size ≤ 9223372036854775807 then (if (((x3_3 ++ t110) ++ (⟨#[46]⟩ : ByteArray)) ++ t113).size + t112.size ≤ 9223372036854775807 then (some ((((x3_3 ++ t110) ++ (⟨#[46]⟩ : ByteArray)) ++ t113) ++ t112)) else (none)) else (none)) = some r := H
              have A35 := Aside0.mk A350
              clear A350
              by_cases c36 : ((x3_3 ++ t110) ++ (⟨#[46]⟩ : ByteArray)).size + t113.size ≤ 9223372036854775807
              ·
               rw [if_pos c36] at H
               have c36b0 := eq_true c36
               have c36b1 : decide (((x3_3 ++ t110) ++ (⟨#[46]⟩ : ByteArray)).size + t113.size ≤ 9223372036854775807) = true := decide_eq_true c36
               try have c36b3 : (9223372036854775807 < x3_3.size + t110.size + 1 + t113.size) = False := eq_false (Nat.not_lt.2 (by have z_ := c36; simp only [ByteArray.size_append'] at z_; exact z_))
               try have c36b2 : (9223372036854775807 < ((x3_3 ++ t110) ++ (⟨#[46]⟩ : ByteArray)).size + t113.size) = False := eq_false (Nat.not_lt.2 c36)
               by_cases c37 : (((x3_3 ++ t110) ++ (⟨#[46]⟩ : ByteArray)) ++ t113).size + t112.size ≤ 9223372036854775807
               ·
                rw [if_pos c37] at H
                have c37b0 := eq_true c37
                have c37b1 : decide ((((x3_3 ++ t110) ++ (⟨#[46]⟩ : ByteArray)) ++ t113).size + t112.size ≤ 9223372036854775807) = true := decide_eq_true c37
                try have c37b3 : (9223372036854775807 < x3_3.size + t110.size + 1 + t113.size + t112.size) = False := eq_false (Nat.not_lt.2 (by have z_ := c37; simp only [ByteArray.size_append'] at z_; exact z_))
                try have c37b2 : (9223372036854775807 < (((x3_3 ++ t110) ++ (⟨#[46]⟩ : ByteArray)) ++ t113).size + t112.size) = False := eq_false (Nat.not_lt.2 c37)
                obtain rfl := Option.some.inj H
                try go_wp2
                have n0_ := Aside0.mk (blk_drew BK108.out)
                have n1_ := Aside0.mk (below_drew1 HB.out)
                clear BK108; clear HB; have BK108 := n0_; have HB := n1_; clear n0_ n1_
                refine start_ (n := 11) (S := fun w' => w'.cell? ⟨gb108, 0, none⟩ = some (.int .i64 a0_0) ∧ w'.cell? ⟨gb108, 1, none⟩ = some (.int .i64 a0_1)) (ds := []) #[false, false, false, false, false, false, false, false, false, false, false] (by kernel_rfl) rfl rfl ⟨(blk_cell BK108.out 0).trans rfl, (blk_cell BK108.out 1).trans rfl⟩ (fun hHeld => ?_); refine with_tabW lexer_Number.tab15 lexer_Number.bits15 (fun HT_ HW_ => ?_)
                generalize wc.drew = w38 at BK108 HB hHeld ⊢
                refine pure_ (i := 0) (N := some 55) (v := ?_) (a' := ?_) #[true, false, false, false, false, false, false, false, false, false, false] rfl rfl (any_of HT_.out (by kernel_rfl)) (fun _ _ _ h => h) (Or.inl ⟨by rfl, ?_⟩) ?_ ?_
                rotate_left; (intro w'; go_simp; with_reducible rfl); rotate_left; (simp only [Act.put, List.setIfInBounds_toArray, List.set_cons_zero, List.set_cons_succ, i64_w, i32_w]; rfl)
                refine pure_ (i := 1) (N := some 56) (v := ?_) (a' := ?_) #[true, true, false, false, false, false, false, false, false, false, false] rfl rfl (any_of HT_.out (by kernel_rfl)) (fun _ _ _ h => h) (Or.inl ⟨by rfl, ?_⟩) ?_ ?_
                rotate_left; (intro w'; go_simp; with_reducible rfl); rotate_left; (simp only [Act.put, List.setIfInBounds_toArray, List.set_cons_zero, List.set_cons_succ, i64_w, i32_w]; rfl)
                refine pure_ (i := 4) (N := some 59) (v := ?_) (a' := ?_) #[true, true, false, false, true, false, false, false, false, false, false] rfl rfl (any_of HT_.out (by kernel_rfl)) (fun _ _ _ h => h) (Or.inl ⟨by rfl, ?_⟩) ?_ ?_
                rotate_left; (intro w'; go_simp; with_reducible rfl); rotate_left; (simp only [Act.put, List.setIfInBounds_toArray, List.set_cons_zero, List.set_cons_succ, i64_w, i32_w]; rfl)
                refine pure_ (i := 5) (N := some 60) (v := ?_) (a' := ?_) #[true, true, false, false, true, true, false, false, false, false, false] rfl rfl (any_of HT_.out (by kernel_rfl)) (fun _ _ _ h => h) (Or.inl ⟨by rfl, ?_⟩) ?_ ?_
                rotate_left; (intro w'; go_simp; with_reducible rfl); rotate_left; (simp only [Act.put, List.setIfInBounds_toArray, List.set_cons_zero, List.set_cons_succ, i64_w, i32_w]; rfl)
                refine take_ (i := 2) (N := some 57) (v := ?_) (a' := ?_) #[true, true, true, false, true, true, false, false, false, false, false] rfl rfl (take_ofW HT_.out HW_.out (by kernel_rfl)) (fun _ _ _ h => h) (Or.inl ⟨by rfl, ?_⟩) hHeld ?_ ?_
                rotate_left; (rintro w' ⟨s0, s1⟩; go_simp; with_reducible rfl); rotate_left; (simp only [Act.put, List.setIfInBounds_toArray, List.set_cons_zero, List.set_cons_succ, i64_w, i32_w]; rfl)
                refine pure_ (i := 3) (N := some 58) (v := ?_) (a' := ?_) #[true, true, true, true, true, true, false, false, false, false, false] rfl rfl (any_of HT_.out (by kernel_rfl)) (fun _ _ _ h => h) (Or.inl ⟨by rfl, ?_⟩) ?_ ?_
                rotate_left; (intro w'; go_simp; with_reducible rfl); rotate_left; (simp only [Act.put, List.setIfInBounds_toArray, List.set_cons_zero, List.set_cons_succ, i64_w, i32_w]; rfl)
                refine take_ (i := 6) (N := some 61) (v := ?_) (a' := ?_) #[true, true, true, true, true, true, true, false, false, false, false] rfl rfl (take_ofW HT_.out HW_.out (by kernel_rfl)) (fun _ _ _ h => h) (Or.inl ⟨by rfl, ?_⟩) hHeld ?_ ?_
                rotate_left; (rintro w' ⟨s0, s1⟩; go_simp; with_reducible rfl); rotate_left; (simp only [Act.put, List.setIfInBounds_toArray, List.set_cons_zero, List.set_cons_succ, i64_w, i32_w]; rfl)
                refine pure_ (i := 7) (N := some 62) (v := ?_) (a' := ?_) #[true, true, true, true, true, true, true, true, false, false, false] rfl rfl (any_of HT_.out (by kernel_rfl)) (fun _ _ _ h => h) (Or.inl ⟨by rfl, ?_⟩) ?_ ?_
                rotate_left; (intro w'; go_simp; with_reducible rfl); rotate_left; (simp only [Act.put, List.setIfInBounds_toArray, List.set_cons_zero, List.set_cons_succ, i64_w, i32_w]; rfl)
                refine pure_ (i := 8) (N := some 63) (v := ?_) (a' := ?_) #[true, true, true, true, true, true, true, true, true, false, false] rfl rfl (any_of HT_.out (by kernel_rfl)) (fun _ _ _ h => h) (Or.inl ⟨by rfl, ?_⟩) ?_ ?_
                rotate_left; (intro w'; go_simp; with_reducible rfl); rotate_left; (simp only [Act.put, List.setIfInBounds_toArray, List.set_cons_zero, List.set_cons_succ, i64_w, i32_w]; rfl)
                refine one_ (i := 9) (N := some 64) #[true, true, true, true, true, true, true, true, true, true, false] rfl rfl (one_of HT_.out (by kernel_rfl)) (by decide) (fun K hK => ?_)
                refine goes_ Tryz.func33 (by kernel_rfl) rfl #[.int .i64 (wrap64 ((Int.tmod x4_3 a0_1) * (wrap64 (Int.tdiv x7_11 a0_1))))] (by rfl) rfl rfl (by (try simp only [List.map_toArray, List.map_cons, List.map_nil]); first | done | rfl | (simp only [List.length_drop, List.length_take]; rfl)) ?_
                with_reducible refine (strconv_Itoa.calls (wrap64 ((Int.tmod x4_3 a0_1) * (wrap64 (Int.tdiv x7_11 a0_1)))) t112 _ ?side1 A32.out).mono ?_
                (case side1 => exact Tabs.below HT.out (by repeat (first | (with_reducible first | exact HB.out | apply below_alloc | apply pw_below_drewN | apply below_drew1 | refine below_set ?_ GE108.out) | exact HB.out)))
                rintro e w39 ⟨rfl, hb⟩
                refine ⟨_, rfl, ?_⟩
                have n0_ := Aside0.mk (blk_below (g := gb108) (o := .cells #[.int .i64 a0_0, .int .i64 a0_1] 27 (0, 0)) (by (with_reducible repeat (first | refine blk_drewN ?_ _ | refine blk_drew ?_ | refine blk_alloc ?_ _)); exact BK108.out) hb)
                have n1_ := Aside0.mk (below_step (by repeat (first | (with_reducible first | exact HB.out | apply below_alloc | apply pw_below_drewN | apply below_drew1 | refine below_set ?_ GE108.out) | exact HB.out)) hb)
                clear BK108; clear HB; have BK108 := n0_; have HB := n1_; clear n0_ n1_
                (try clear hb)
                (try clear hb2)
                (try clear hk)
                (try clear hi)
                refine hK.out _ _ ⟨(blk_cell BK108.out 0).trans rfl, (blk_cell BK108.out 1).trans rfl⟩ (fun hHeld => ?_)
                clear hK K
                refine norm_ (a' := ?_) ?_ ?_
                rotate_left
                ·
                 show Act.put _ (some 64) _ = _
                 simp only [Act.put, List.setIfInBounds_toArray, List.set_cons_zero, List.set_cons_succ, i64_w, i32_w]
                 rfl
                refine pure_ (i := 10) (N := some 8) (v := ?_) (a' := ?_) #[true, true, true, true, true, true, true, true, true, true, true] rfl rfl (any_of HT_.out (by kernel_rfl)) (fun _ _ _ h => h) (Or.inl ⟨by rfl, ?_⟩) ?_ ?_
                rotate_left; (intro w'; go_simp; with_reducible rfl); rotate_left; (simp only [Act.put, List.setIfInBounds_toArray, List.set_cons_zero, List.set_cons_succ, i64_w, i32_w]; rfl)
                refine done_ (done_of HT_.out (by kernel_rfl)) ?_
                try go_wp2_with (first | ((with_reducible refine gate_callee (f := 36) rfl ?_); refine goesL_ (some 73) rfl rfl Tryz.func36 (by kernel_rfl) rfl #[.string (⟨#[48]⟩ : ByteArray), .int .i64 (wrap64 (x6_11 - (t112.size : Int)))] rfl (by (try simp only [List.map_toArray, List.map_cons, List.map_nil]); first | done | rfl | (simp only [List.length_drop, List.length_take]; rfl)) ?_; (with_reducible refine (strings_Repeat.calls (⟨#[48]⟩ : ByteArray) (wrap64 (x6_11 - (t112.size : Int))) t113 _ A35.out).mono ?_); rintro e w40 ⟨rfl, hb⟩; refine ⟨_, rfl, ?_⟩; have n0_ := Aside0.mk (blk_below (g := gb108) (o := .cells #[.int .i64 a0_0, .int .i64 a0_1] 27 (0, 0)) (by (with_reducible repeat (first | refine blk_drewN ?_ _ | refine blk_drew ?_ | refine blk_alloc ?_ _)); exact BK108.out) hb); have n1_ := Aside0.mk (below_step (by repeat (first | (with_reducible first | exact HB.out | apply below_alloc | apply pw_below_drewN | apply below_drew1 | refine below_set ?_ GE108.out) | exact HB.out)) hb); clear BK108; clear HB; have BK108 := n0_; have HB := n1_; clear n0_ n1_; (try clear hb); (try clear hb2); (try clear hk); (try clear hi)))
                go_ret
                exact ⟨by first | rfl | (simp [errW_none, errW_some] <;> rfl) | (simp [*, errW_none, errW_some] <;> rfl), by repeat (first | (with_reducible first | exact HB.out | apply below_alloc | apply pw_below_drewN | apply below_drew1 | refine below_set ?_ GE108.out) | exact HB.out)⟩
               ·
                rw [if_neg c37] at H
                exact absurd H (by simp)
              ·
               rw [if_neg c36] at H
               exact absurd H (by simp)
             ·
              rw [if_neg c34] at H
              exact absurd H (by simp)
            ·
             rw [if_neg c33] at H
             exact absurd H (by simp)
 ·
  rw [if_neg c3] at H
  have c3b0 : (t109 == 0) = false := beq_eq_false_iff_ne.mpr c3
  have c3b1 : (t109 != 0) = true := bne_iff_ne.mpr c3
  obtain rfl := Option.some.inj H
  go_enter Tryz.func13, Tryz.ntmps13
  go_wp2_with (first | ((with_reducible refine gate_dst (N := 1) rfl ?_); (try (refine gate_guard (by rfl) ?_; dsimp only)); refine box_event ?hg (N := 1) ?hd (cs := #[.int .i64 a0_0, .int .i64 a0_1]) (t := 27) ?hr ?_; (case hd => rfl); (case hg => rfl); (case hr => first | (go_simp; done) | (go_simp; rfl)); intro gb108 hg w41 hbox hb; have n0_ := Aside0.mk (below_step (by repeat (first | (with_reducible first | exact HB.out | apply below_alloc | apply pw_below_drewN | apply below_drew1) | exact HB.out)) hb); have n1_ := Aside0.mk (hbox); have n2_ := Aside0.mk ((by rw [hg]; exact (below_size (by repeat (first | (with_reducible first | exact HB.out | apply below_alloc | apply pw_below_drewN | apply below_drew1) | exact HB.out))) : w.heap.size ≤ gb108)); have n3_ := Aside0.mk ((by rw [hg]; exact (below_size (by repeat (first | (with_reducible first | exact HB.out | apply below_alloc | apply pw_below_drewN | apply below_drew1) | exact HB.out))) : w.heap.size ≤ gb108)); clear HB; have HB := n0_; have BK108 := n1_; have GW108 := n2_; have GE108 := n3_; clear n0_ n1_ n2_ n3_; clear hb hbox hg; have hcz42_0 : w41.cell? ⟨gb108, 0, none⟩ = some (.int .i64 a0_0) := (blk_cell BK108.out 0).trans rfl; have hcz42_1 : w41.cell? ⟨gb108, 1, none⟩ = some (.int .i64 a0_1) := (blk_cell BK108.out 1).trans rfl; have hfz42_0 := blk_frozen BK108.out 0; have hfz42_1 := blk_frozen BK108.out 1) | ((with_reducible refine gate_callee (f := 14) rfl ?_); refine goesL_ (some 10) rfl rfl Tryz.func14 (by kernel_rfl) rfl #[.agg #[.int .i64 a0_0, .int .i64 a0_1]] rfl (by (try simp only [List.map_toArray, List.map_cons, List.map_nil]); first | done | rfl | (simp only [List.length_drop, List.length_take]; rfl)) ?_; (with_reducible refine (ratio_Check.calls k a0_0 a0_1 t109 _ A2.out).mono ?_); rintro e w43 ⟨rfl, hb⟩; refine ⟨_, rfl, ?_⟩; have n0_ := Aside0.mk (blk_below (g := gb108) (o := .cells #[.int .i64 a0_0, .int .i64 a0_1] 27 (0, 0)) (by (with_reducible repeat (first | refine blk_drewN ?_ _ | refine blk_drew ?_ | refine blk_alloc ?_ _)); exact BK108.out) hb); have n1_ := Aside0.mk (below_step (by repeat (first | (with_reducible first | exact HB.out | apply below_alloc | apply pw_below_drewN | apply below_drew1 | refine below_set ?_ GE108.out) | exact HB.out)) hb); clear BK108; clear HB; have BK108 := n0_; have HB := n1_; clear n0_ n1_; (try clear hb); (try clear hb2); (try clear hk); (try clear hi)))
  go_ret
  exact ⟨by first | rfl | (simp [errW_none, errW_some] <;> rfl) | (simp [*, errW_none, errW_some] <;> rfl), by repeat (first | (with_reducible first | exact HB.out | apply below_alloc | apply pw_below_drewN | apply below_drew1 | refine below_set ?_ GE108.out) | exact HB.out)⟩
end Go.Proofs.YteokilkcchdeiaaGreatDoor.Q
end
section
namespace Go.Proofs.YteokilkcchdeiaaGreatDoor.Q
open Go.RowKit Go.Proofs.YteokilkcchdeiaaGreatDoorW.PrintWords Go.Proofs.YteokilkcchdeiaaGreatDoorW.PrintLast Go.Proofs.YteokilkcchdeiaaGreatDoorW.PrintMore
attribute [local go_sem] max2_int min2_int max_two min_two max_three min_three max_four min_four   -- for this text's walks alone
def lexer_continues.f (a0 : ByteArray) : Option (Bool) := if a0.toList = ([] : List UInt8) then (some false) else (if 0 < (a0.size : Int) then ((lexer_isLetter.f (bt a0 0)).bind fun t351 => (if t351 = true then (some true) else ((lexer_isDigit.f (bt a0 0)).bind fun t352 => (some t352)))) else (none))
set_option maxHeartbeats 8000000 in
set_option maxRecDepth 100000 in
theorem lexer_continues.calls (a0 : ByteArray) (r : Bool) (w : World) (h : lexer_continues.f a0 = some r) :
  Calls Tryz.prog 101 #[.string a0] w fun e w' => e = .returned (.bool r) ∧ Drawn0 w w' := by
 have H : (if a0.toList = ([] : List UInt8) then (some false) else (if 0 < (a0.size : Int) then ((lexer_isLetter.f (bt a0 0)).bind fun t351 => (if t351 = true then (some true) else ((lexer_isDigit.f (bt a0 0)).bind fun t352 => (some t352)))) else (none))) = some r := h
 clear h
 by_cases c2 : a0.toList = ([] : List UInt8)
 ·
  rw [if_pos c2] at H
  have c2b0 : (a0.toList == ([] : List UInt8)) = true := beq_iff_eq.mpr c2
  have c2b1 : (a0.toList != ([] : List UInt8)) = false := bne_eq_false_iff_eq.mpr c2
  clear c2
  obtain rfl := Option.some.inj H
  go_enter Tryz.func101, Tryz.ntmps101
  go_wp2
  go_ret
  exact ⟨by first | rfl | (simp; done) | (simp [*]; done), by repeat (first | exact Drawn0.refl _ | apply Drawn0.step)⟩
 ·
  rw [if_neg c2] at H
  have c2b0 : (a0.toList == ([] : List UInt8)) = false := beq_eq_false_iff_ne.mpr c2
  have c2b1 : (a0.toList != ([] : List UInt8)) = true := bne_iff_ne.mpr c2
  by_cases c3 : 0 < (a0.size : Int)
  ·
   rw [if_pos c3] at H
   have c3b0 : decide (0 < (a0.size : Int)) = true := decide_eq_true c3
   have c3b1 : decide (0 < a0.size) = true := decide_eq_true (by omega)
   clear c3
   replace H := Option.bind_eq_some_iff.mp H
   obtain ⟨t351, A50, H⟩ := H
   replace H : (if t351 = true then (some true) else ((lexer_isDigit.f (bt a0 0)).bind fun t352 => (some t352))) = some r := H
   have A5 := Aside0.mk A50
   clear A50
   by_cases c6 : t351 = true
   ·
    subst c6
    have H1 : (some true) = some r := by rw [if_pos rfl] at H; exact H
    clear H
    have H := H1
    clear H1
    obtain rfl := Option.some.inj H
    have p4 : 0 ≤ (0 : Int) := (by omega)
    have q4 : 0 < a0.size := (by have : (0 : Int) < (a0.size : Int) := of_decide_eq_true (by first | (with_reducible assumption) | assumption); omega)
    have hx4 : ∀ h : 0 < a0.size, ((a0[0]'h).toNat : Int) = bt a0 0 := bt_at a0 0
    clear p4
    have qi4 : (0 < (a0.size : Int)) = True := eq_true (of_decide_eq_true (by first | (with_reducible assumption) | assumption))
    replace q4 := eq_true q4
    go_enter Tryz.func101, Tryz.ntmps101
    go_wp2_with (first | (go_at_call 120; (with_reducible refine (lexer_isLetter.calls (bt a0 0) true _ A5.out).mono ?_); rintro e w' ⟨rfl, ⟨nd, rfl⟩⟩))
    go_ret
    exact ⟨by first | rfl | (simp; done) | (simp [*]; done), by repeat (first | exact Drawn0.refl _ | apply Drawn0.step)⟩
   ·
    replace c6 := Bool.eq_false_iff.mpr c6
    subst c6
    have H1 : ((lexer_isDigit.f (bt a0 0)).bind fun t352 => (some t352)) = some r := by rw [if_neg (show ¬ (false = true) by decide)] at H; exact H
    clear H
    have H := H1
    clear H1
    replace H := Option.bind_eq_some_iff.mp H
    obtain ⟨t352, A80, H⟩ := H
    replace H : (some t352) = some r := H
    have A8 := Aside0.mk A80
    clear A80
    obtain rfl := Option.some.inj H
    have p4 : 0 ≤ (0 : Int) := (by omega)
    have q4 : 0 < a0.size := (by have : (0 : Int) < (a0.size : Int) := of_decide_eq_true (by first | (with_reducible assumption) | assumption); omega)
    have hx4 : ∀ h : 0 < a0.size, ((a0[0]'h).toNat : Int) = bt a0 0 := bt_at a0 0
    clear p4
    have qi4 : (0 < (a0.size : Int)) = True := eq_true (of_decide_eq_true (by first | (with_reducible assumption) | assumption))
    replace q4 := eq_true q4
    go_enter Tryz.func101, Tryz.ntmps101
    go_wp2_with (first | (go_at_call 120; (with_reducible refine (lexer_isLetter.calls (bt a0 0) false _ A5.out).mono ?_); rintro e w' ⟨rfl, ⟨nd, rfl⟩⟩; have p7 : 0 ≤ (0 : Int) := (by omega); have q7 : 0 < a0.size := (by have : (0 : Int) < (a0.size : Int) := of_decide_eq_true (by first | (with_reducible assumption) | assumption); omega); have hx7 : ∀ h : 0 < a0.size, ((a0[0]'h).toNat : Int) = bt a0 0 := bt_at a0 0; clear p7; have qi7 : (0 < (a0.size : Int)) = True := eq_true (of_decide_eq_true (by first | (with_reducible assumption) | assumption)); replace q7 := eq_true q7) | (go_at_call 98; (with_reducible refine (lexer_isDigit.calls (bt a0 0) t352 _ A8.out).mono ?_); rintro e w' ⟨rfl, ⟨nd, rfl⟩⟩))
    go_ret
    exact ⟨by first | rfl | (simp; done) | (simp [*]; done), by repeat (first | exact Drawn0.refl _ | apply Drawn0.step)⟩
  ·
   rw [if_neg c3] at H
   exact absurd H (by simp)
def stringslite_HasPrefix.f (a0 : ByteArray) (a1 : ByteArray) : Option (Bool) := if (a0.size : Int) ≥ (a1.size : Int) then (if 0 ≤ (a1.size : Int) then (if (a1.size : Int) ≤ (a0.size : Int) then (some ((a0.extract 0 ((a1.size : Int) : Int).toNat).toList == a1.toList)) else (none)) else (none)) else (some false)
set_option maxHeartbeats 8000000 in
set_option maxRecDepth 100000 in
theorem stringslite_HasPrefix.calls (a0 : ByteArray) (a1 : ByteArray) (r : Bool) (w : World) (h : stringslite_HasPrefix.f a0 a1 = some r) :
  Calls Tryz.prog 52 #[.string a0, .string a1] w fun e w' => e = .returned (.bool r) ∧ Drawn0 w w' := by
 have H : (if (a0.size : Int) ≥ (a1.size : Int) then (if 0 ≤ (a1.size : Int) then (if (a1.size : Int) ≤ (a0.size : Int) then (some ((a0.extract 0 ((a1.size : Int) : Int).toNat).toList == a1.toList)) else (none)) else (none)) else (some false)) = some r := h
 clear h
 by_cases c3 : (a0.size : Int) ≥ (a1.size : Int)
 ·
  rw [if_pos c3] at H
  have c3b0 : decide ((a1.size : Int) ≤ (a0.size : Int)) = true := decide_eq_true c3
  have c3b1 : decide (a1.size ≤ a0.size) = true := decide_eq_true (Int.ofNat_le.mp c3)
  clear c3
  by_cases c4 : 0 ≤ (a1.size : Int)
  ·
   rw [if_pos c4] at H
   have c4b0 := eq_true c4
   have c4b1 : decide (0 ≤ (a1.size : Int)) = true := decide_eq_true c4
   clear c4
   by_cases c5 : (a1.size : Int) ≤ (a0.size : Int)
   ·
    rw [if_pos c5] at H
    have c5b0 := eq_true c5
    have c5b1 : decide ((a1.size : Int) ≤ (a0.size : Int)) = true := decide_eq_true c5
    clear c5
    obtain rfl := Option.some.inj H
    go_enter Tryz.func52, Tryz.ntmps52
    go_wp2
    go_ret
    exact ⟨by first | rfl | (simp; done) | (simp [*]; done), by repeat (first | exact Drawn0.refl _ | apply Drawn0.step)⟩
   ·
    rw [if_neg c5] at H
    exact absurd H (by simp)
  ·
   rw [if_neg c4] at H
   exact absurd H (by simp)
 ·
  rw [if_neg c3] at H
  have c3b0 : decide ((a1.size : Int) ≤ (a0.size : Int)) = false := decide_eq_false c3
  have c3b1 : decide (a1.size ≤ a0.size) = false := decide_eq_false (fun h => c3 (Int.ofNat_le.mpr h))
  clear c3
  obtain rfl := Option.some.inj H
  go_enter Tryz.func52, Tryz.ntmps52
  go_wp2
  go_ret
  exact ⟨by first | rfl | (simp; done) | (simp [*]; done), by repeat (first | exact Drawn0.refl _ | apply Drawn0.step)⟩
def strings_HasPrefix.f (a0 : ByteArray) (a1 : ByteArray) : Option (Bool) := (stringslite_HasPrefix.f a0 a1).bind fun t318 => (some t318)
set_option maxHeartbeats 8000000 in
set_option maxRecDepth 100000 in
theorem strings_HasPrefix.calls (a0 : ByteArray) (a1 : ByteArray) (r : Bool) (w : World) (h : strings_HasPrefix.f a0 a1 = some r) :
  Calls Tryz.prog 28 #[.string a0, .string a1] w fun e w' => e = .returned (.bool r) ∧ Drawn0 w w' := by
 have H : ((stringslite_HasPrefix.f a0 a1).bind fun t318 => (some t318)) = some r := h
 clear h
 replace H := Option.bind_eq_some_iff.mp H
 obtain ⟨t318, A30, H⟩ := H
 replace H : (some t318) = some r := H
 have A3 := Aside0.mk A30
 clear A30
 obtain rfl := Option.some.inj H
 go_enter Tryz.func28, Tryz.ntmps28
 go_wp2_with (first | ((with_reducible refine gate_callee (f := 52) rfl ?_); refine goesL_ (some 7) rfl rfl Tryz.func52 (by kernel_rfl) rfl #[.string a0, .string a1] rfl (by (try simp only [List.map_toArray, List.map_cons, List.map_nil]); first | done | rfl | (simp only [List.length_drop, List.length_take]; rfl)) ?_; (with_reducible refine (stringslite_HasPrefix.calls a0 a1 t318 _ A3.out).mono ?_); rintro e w' ⟨rfl, ⟨nd, rfl⟩⟩; refine ⟨_, rfl, ?_⟩))
 go_ret
 exact ⟨by first | rfl | (simp; done) | (simp [*]; done), by repeat (first | exact Drawn0.refl _ | apply Drawn0.step)⟩
end Go.Proofs.YteokilkcchdeiaaGreatDoor.Q
end
section
namespace Go.Proofs.YteokilkcchdeiaaGreatDoor.Q
open Go.Proofs.YteokilkcchdeiaaGreatDoor
open Go.Proofs.YteokilkcchdeiaaGreatDoor.X
open Go.RowKit Go.Proofs.YteokilkcchdeiaaGreatDoorW.PrintWords Go.Proofs.YteokilkcchdeiaaGreatDoorW.PrintLast Go.Proofs.YteokilkcchdeiaaGreatDoorW.PrintMore
attribute [local go_sem] max2_int min2_int max_two min_two max_three min_three max_four min_four   -- for this text's walks alone
def lexer_unit.l0 : Nat → ByteArray → List ByteArray → Int → Int → Option (ByteArray × Int)
 | 0, _, _, _, _ => none
 | k + 1, x0, x6, x7, x8 => if x8 < x7 then (if 0 ≤ x8 then (if x8 < (x6.length : Int) then ((strings_HasPrefix.f x0 (rdOf ByteArray.empty x6 x8)).bind fun t349 => (if t349 = true then ((strings_Index.f (⟨#[100, 32, 104, 32, 109, 32, 115, 32, 109, 115]⟩ : ByteArray) (rdOf ByteArray.empty x6 x8)).bind fun t350 => (some (rdOf ByteArray.empty x6 x8, t350))) else (lexer_unit.l0 k x0 x6 x7 (wrap64 (x8 + 1))))) else (none)) else (none)) else (some ((⟨#[]⟩ : ByteArray), (-1)))
def lexer_unit.f (k : Nat) (a0 : ByteArray) : Option (ByteArray × Int) := (some (([(⟨#[109, 115]⟩ : ByteArray), (⟨#[100]⟩ : ByteArray), (⟨#[104]⟩ : ByteArray), (⟨#[109]⟩ : ByteArray), (⟨#[115]⟩ : ByteArray)] : List ByteArray) : List ByteArray)).bind fun y345 => (lexer_unit.l0 k a0 y345 (y345.length : Int) 0)
set_option maxHeartbeats 8000000 in
set_option maxRecDepth 100000 in
theorem lexer_unit.calls (k : Nat) (a0 : ByteArray) (r1 : ByteArray) (r2 : Int) (w : World) (hT : Tabs w) (h : lexer_unit.f k a0 = some (r1, r2)) :
  Calls Tryz.prog 99 #[.string a0] w fun e w' => e = .returned (.tuple #[.string r1, .int .i64 r2]) ∧ Below w.heap.size w w' := by
 have HT := Aside0.mk hT
 clear hT
 have HB := Aside0.mk (Below.refl w.heap.size w)
 have H : ((some (([(⟨#[109, 115]⟩ : ByteArray), (⟨#[100]⟩ : ByteArray), (⟨#[104]⟩ : ByteArray), (⟨#[109]⟩ : ByteArray), (⟨#[115]⟩ : ByteArray)] : List ByteArray) : List ByteArray)).bind fun y345 => (lexer_unit.l0 k a0 y345 (y345.length : Int) 0)) = some (r1, r2) := h
 clear h
 obtain ⟨y345, hy345⟩ : ∃ y_ : List ByteArray, y_ = (([(⟨#[109, 115]⟩ : ByteArray), (⟨#[100]⟩ : ByteArray), (⟨#[104]⟩ : ByteArray), (⟨#[109]⟩ : ByteArray), (⟨#[115]⟩ : ByteArray)] : List ByteArray)) := ⟨_, rfl⟩
 replace H : (lexer_unit.l0 k a0 y345 (y345.length : Int) 0) = some (r1, r2) := by first | (rw [hy345]; with_reducible exact H) | (have H2_ := (Option.bind_some _ _).symm.trans H; rw [hy345]; with_reducible exact H2_) | (have H2_ := (Option.bind_some _ _).symm.trans H; with_reducible exact H2_) | with_reducible exact H | (rw [hy345]; exact H) | exact H
 have Ny345 := Aside0.mk hy345
 clear hy345
 have H' := Aside0.mk H
 clear H
 go_enter Tryz.func99, Tryz.ntmps99
 go_wp2_with (first | ((with_reducible refine gate_dst (N := 6) rfl ?_); refine Kd.R_lit Kd.string _ 9 ?hg (N := 6) ?hd (xs := ([(⟨#[109, 115]⟩ : ByteArray), (⟨#[100]⟩ : ByteArray), (⟨#[104]⟩ : ByteArray), (⟨#[109]⟩ : ByteArray), (⟨#[115]⟩ : ByteArray)] : List ByteArray)) (inner := [.string (⟨#[109, 115]⟩ : ByteArray), .string (⟨#[100]⟩ : ByteArray), .string (⟨#[104]⟩ : ByteArray), .string (⟨#[109]⟩ : ByteArray), .string (⟨#[115]⟩ : ByteArray)]) (ok := fun _ => True) (okp := fun _ => True) ?hr ?hp (fun _ hk => hk) trivial (Below.refl _ _) (Nat.le_refl _) (by simp) ?_; (case hd => rfl); (case hg => rfl); (case hr => first | (go_simp; done) | (go_simp; rfl)); (case hp => exact (Reps.one (show Kd.M Kd.string _ _ _ (⟨#[109, 115]⟩ : ByteArray) [.string (⟨#[109, 115]⟩ : ByteArray)] from rfl) (Reps.one (show Kd.M Kd.string _ _ _ (⟨#[100]⟩ : ByteArray) [.string (⟨#[100]⟩ : ByteArray)] from rfl) (Reps.one (show Kd.M Kd.string _ _ _ (⟨#[104]⟩ : ByteArray) [.string (⟨#[104]⟩ : ByteArray)] from rfl) (Reps.one (show Kd.M Kd.string _ _ _ (⟨#[109]⟩ : ByteArray) [.string (⟨#[109]⟩ : ByteArray)] from rfl) (Reps.one (show Kd.M Kd.string _ _ _ (⟨#[115]⟩ : ByteArray) [.string (⟨#[115]⟩ : ByteArray)] from rfl) (Reps.none _ _))))))); intro v346 w2 ho3 hb hg_ hnew_; clear hg_ hnew_; (first | rw [← Ny345.out] at ho3 | (simp only [Int.reduceToNat] at ho3; rw [← Ny345.out] at ho3)); have n0_ := Aside0.mk (Kd.R_lower ho3 (below_size (by repeat (first | (with_reducible first | exact HB.out | apply below_alloc | apply pw_below_drewN | apply below_drew1) | exact HB.out)))); have n1_ := Aside0.mk (below_step (by repeat (first | (with_reducible first | exact HB.out | apply below_alloc | apply pw_below_drewN | apply below_drew1) | exact HB.out)) hb); clear HB; have HO347 := n0_; have HB := n1_; clear n0_ n1_; clear hb ho3; obtain ⟨Ao4, co4, eo4⟩ := Kd.R_slice HO347.out; subst eo4))
 go_loopg [8] k (fun kq v8 w' => ∃ (x8_1 : Int), v8 = .int .i64 x8_1 ∧ Aside0 (lexer_unit.l0 kq a0 y345 (y345.length : Int) x8_1 = some (r1, r2)) ∧ Aside0 (kq ≤ k) ∧ Aside0 (Kd.R Kd.string 9 w' w.heap.size (fun _ => True) (.slice Ao4 y345.length co4) y345) ∧ Aside0 (Below w.heap.size w w'))
 case atStart => exact ⟨(0), (by first | rfl | (simp; done) | (simp [*]; done)), H', ⟨Nat.le_refl _⟩, ⟨by (with_reducible repeat (first | apply Kd.R_alloc | apply Kd.R_drewN | apply Kd.R_drew)); exact HO347.out⟩, ⟨by repeat (first | (with_reducible first | exact HB.out | apply below_alloc | apply pw_below_drewN | apply below_drew1) | exact HB.out)⟩⟩
 case round =>
  clear H'; (try clear p2)
  obtain ⟨x8_1, rfl, HA, HK1, HO_6, HB⟩ := hrel
  cases gk with
  | zero => exact absurd HA.out (by simp [lexer_unit.l0])
  | succ k1 =>
   have H := HA.out
   clear HA
   simp only [lexer_unit.l0] at H
   by_cases c5 : x8_1 < (y345.length : Int)
   ·
    rw [if_pos c5] at H
    have c5b0 : decide (x8_1 < (y345.length : Int)) = true := decide_eq_true c5
    clear c5
    by_cases c6 : 0 ≤ x8_1
    ·
     rw [if_pos c6] at H
     have c6b0 : decide (0 ≤ x8_1) = true := decide_eq_true c6
     clear c6
     by_cases c7 : x8_1 < (y345.length : Int)
     ·
      rw [if_pos c7] at H
      have c7b0 : decide (x8_1 < (y345.length : Int)) = true := decide_eq_true c7
      clear c7
      replace H := Option.bind_eq_some_iff.mp H
      obtain ⟨t349, A80, H⟩ := H
      replace H : (if t349 = true then ((strings_Index.f (⟨#[100, 32, 104, 32, 109, 32, 115, 32, 109, 115]⟩ : ByteArray) (rdOf ByteArray.empty y345 x8_1)).bind fun t350 => (some (rdOf ByteArray.empty y345 x8_1, t350))) else (lexer_unit.l0 k1 a0 y345 (y345.length : Int) (wrap64 (x8_1 + 1)))) = some (r1, r2) := H
      have A8 := Aside0.mk A80
      clear A80
      by_cases c9 : t349 = true
      ·
       subst c9
       have H1 : ((strings_Index.f (⟨#[100, 32, 104, 32, 109, 32, 115, 32, 109, 115]⟩ : ByteArray) (rdOf ByteArray.empty y345 x8_1)).bind fun t350 => (some (rdOf ByteArray.empty y345 x8_1, t350))) = some (r1, r2) := by rw [if_pos rfl] at H; exact H
       clear H
       have H := H1
       clear H1
       replace H := Option.bind_eq_some_iff.mp H
       obtain ⟨t350, A100, H⟩ := H
       replace H : (some (rdOf ByteArray.empty y345 x8_1, t350)) = some (r1, r2) := H
       have A10 := Aside0.mk A100
       clear A100
       simp only [Option.some.injEq, Prod.mk.injEq] at H
       obtain ⟨rfl, rfl⟩ := H
       have p348 : 0 ≤ (x8_1 : Int) := of_decide_eq_true (by first | (with_reducible assumption) | assumption)
       have q348 : x8_1 < (y345.length : Int) := of_decide_eq_true (by first | (with_reducible assumption) | assumption)
       obtain ⟨ad348, e348, hx348_0⟩ := Kd.at_string (Kd.R_reads' HO_6.out).2.2 x8_1 p348 q348
       cases e348
       replace p348 := eq_true p348
       replace q348 := eq_true q348
       go_wp2_with (first | ((with_reducible refine gate_callee (f := 28) rfl ?_); refine goesL_ (some 14) rfl rfl Tryz.func28 (by kernel_rfl) rfl #[.string a0, .string (rdOf ByteArray.empty y345 x8_1)] rfl (by (try simp only [List.map_toArray, List.map_cons, List.map_nil]); first | done | rfl | (simp only [List.length_drop, List.length_take]; rfl)) ?_; (with_reducible refine (strings_HasPrefix.calls a0 (rdOf ByteArray.empty y345 x8_1) true _ A8.out).mono ?_); rintro e w' ⟨rfl, ⟨nd, rfl⟩⟩; refine ⟨_, rfl, ?_⟩) | ((with_reducible refine gate_callee (f := 39) rfl ?_); refine goesL_ (some 17) rfl rfl Tryz.func39 (by kernel_rfl) rfl #[.string (⟨#[100, 32, 104, 32, 109, 32, 115, 32, 109, 115]⟩ : ByteArray), .string (rdOf ByteArray.empty y345 x8_1)] rfl (by (try simp only [List.map_toArray, List.map_cons, List.map_nil]); first | done | rfl | (simp only [List.length_drop, List.length_take]; rfl)) ?_; (with_reducible refine (strings_Index.calls (⟨#[100, 32, 104, 32, 109, 32, 115, 32, 109, 115]⟩ : ByteArray) (rdOf ByteArray.empty y345 x8_1) t350 _ ?side1 A10.out).mono ?_); (case side1 => exact Tabs.below HT.out (by repeat (first | (with_reducible first | exact HB.out | apply below_alloc | apply pw_below_drewN | apply below_drew1) | exact HB.out))); rintro e w' ⟨rfl, ⟨nd, rfl⟩⟩; refine ⟨_, rfl, ?_⟩))
       go_ret2
       exact ⟨by first | rfl | (simp [errW_none, errW_some] <;> rfl) | (simp [*, errW_none, errW_some] <;> rfl), by repeat (first | (with_reducible first | exact HB.out | apply below_alloc | apply pw_below_drewN | apply below_drew1) | exact HB.out)⟩
      ·
       replace c9 := Bool.eq_false_iff.mpr c9
       subst c9
       have H1 : (lexer_unit.l0 k1 a0 y345 (y345.length : Int) (wrap64 (x8_1 + 1))) = some (r1, r2) := by rw [if_neg (show ¬ (false = true) by decide)] at H; exact H
       clear H
       have H := H1
       clear H1
       have H' := Aside0.mk H
       clear H
       have p348 : 0 ≤ (x8_1 : Int) := of_decide_eq_true (by first | (with_reducible assumption) | assumption)
       have q348 : x8_1 < (y345.length : Int) := of_decide_eq_true (by first | (with_reducible assumption) | assumption)
       obtain ⟨ad348, e348, hx348_0⟩ := Kd.at_string (Kd.R_reads' HO_6.out).2.2 x8_1 p348 q348
       cases e348
       replace p348 := eq_true p348
       replace q348 := eq_true q348
       go_wp2_with (first | ((with_reducible refine gate_callee (f := 28) rfl ?_); refine goesL_ (some 14) rfl rfl Tryz.func28 (by kernel_rfl) rfl #[.string a0, .string (rdOf ByteArray.empty y345 x8_1)] rfl (by (try simp only [List.map_toArray, List.map_cons, List.map_nil]); first | done | rfl | (simp only [List.length_drop, List.length_take]; rfl)) ?_; (with_reducible refine (strings_HasPrefix.calls a0 (rdOf ByteArray.empty y345 x8_1) false _ A8.out).mono ?_); rintro e w' ⟨rfl, ⟨nd, rfl⟩⟩; refine ⟨_, rfl, ?_⟩))
       go_roundg k1
       case measure => have := HK1.out; omega
       case rel => exact ⟨(wrap64 (x8_1 + 1)), (by first | rfl | (simp; done) | (simp [*]; done)), H', ⟨by have := HK1.out; omega⟩, ⟨by (with_reducible repeat (first | apply Kd.R_alloc | apply Kd.R_drewN | apply Kd.R_drew)); exact HO_6.out⟩, ⟨by repeat (first | (with_reducible first | exact HB.out | apply below_alloc | apply pw_below_drewN | apply below_drew1) | exact HB.out)⟩⟩
     ·
      rw [if_neg c7] at H
      exact absurd H (by simp)
    ·
     rw [if_neg c6] at H
     exact absurd H (by simp)
   ·
    rw [if_neg c5] at H
    have c5b0 : decide (x8_1 < (y345.length : Int)) = false := decide_eq_false c5
    clear c5
    simp only [Option.some.injEq, Prod.mk.injEq] at H
    obtain ⟨rfl, rfl⟩ := H
    go_wp2
    go_ret2
    exact ⟨by first | rfl | (simp [errW_none, errW_some] <;> rfl) | (simp [*, errW_none, errW_some] <;> rfl), by repeat (first | (with_reducible first | exact HB.out | apply below_alloc | apply pw_below_drewN | apply below_drew1) | exact HB.out)⟩
mutual
def lexer_duration.l0 : Nat → ByteArray → Int → Int → Int → Bool → Bool → Bool → Option (Int × ByteArray × Int × Int × Int × Int × Int)
 | 0, _, _, _, _, _, _, _ => none
 | k + 1, x0, x5, x6, x7, x8, x9, x10 => if 0 ≤ x5 then (if x5 ≤ (x0.size : Int) then ((lexer_run_isDigit.f (x0.extract (x5 : Int).toNat x0.size)).bind fun t354 => (if 0 ≤ (wrap64 (x5 + t354)) then (if (wrap64 (x5 + t354)) ≤ (x0.size : Int) then ((lexer_unit.f k (x0.extract ((wrap64 (x5 + t354)) : Int).toNat x0.size)).bind fun bt355 => (if t354 = 0 then (lexer_duration.j1 k x0 x5 x6 x7 x8 x9 x10 t354 bt355.1 bt355.2 true) else (lexer_duration.j1 k x0 x5 x6 x7 x8 x9 x10 t354 bt355.1 bt355.2 (decide (bt355.2 < 0))))) else (none)) else (none))) else (none)) else (none)
def lexer_duration.j1 : Nat → ByteArray → Int → Int → Int → Bool → Bool → Bool → Int → ByteArray → Int → Bool → Option (Int × ByteArray × Int × Int × Int × Int × Int)
 | 0, _, _, _, _, _, _, _, _, _, _, _ => none
 | k + 1, x0, x5, x6, x7, x8, x9, x10, x11, x12, x13, x34 => if x34 = true then (if x8 = true then (some (0, (⟨#[]⟩ : ByteArray), 0, 0, 0, x5, 4)) else (if x9 = true then (lexer_duration.j2 k x0 x5 x6 x10 true) else (if 0 ≤ x5 then (if x5 ≤ (x0.size : Int) then ((lexer_continues.f (x0.extract (x5 : Int).toNat x0.size)).bind fun t362 => (lexer_duration.j2 k x0 x5 x6 x10 t362)) else (none)) else (none)))) else (if x11 > 18 then (if x9 = true then (if x10 = true then (lexer_duration.l0 k x0 (wrap64 (x5 + (wrap64 (x11 + (x12.size : Int))))) (mn x6 1099511627776) x13 true true true) else (lexer_duration.l0 k x0 (wrap64 (x5 + (wrap64 (x11 + (x12.size : Int))))) (mn x6 1099511627776) x13 true true (decide (x6 > 1099511627776)))) else (if x10 = true then (lexer_duration.l0 k x0 (wrap64 (x5 + (wrap64 (x11 + (x12.size : Int))))) (mn x6 1099511627776) x13 true (decide (x13 ≤ x7)) true) else (lexer_duration.l0 k x0 (wrap64 (x5 + (wrap64 (x11 + (x12.size : Int))))) (mn x6 1099511627776) x13 true (decide (x13 ≤ x7)) (decide (x6 > 1099511627776))))) else (if 0 ≤ x5 then (if x5 ≤ (wrap64 (x5 + x11)) then (if (wrap64 (x5 + x11)) ≤ (x0.size : Int) then ((strconv_Atoi.f (x0.extract (x5 : Int).toNat ((wrap64 (x5 + x11)) : Int).toNat)).bind fun bt357 => (if bt357.2.isNone = true then ((lexer_length.f x12).bind fun t360 => (if t360 = 0 then (none) else (if bt357.1 > (wrap64 (Int.tdiv (1099511627776 : Int) t360)) then (if x9 = true then (lexer_duration.l0 k x0 (wrap64 (x5 + (wrap64 (x11 + (x12.size : Int))))) (mn x6 1099511627776) x13 x8 true true) else (lexer_duration.l0 k x0 (wrap64 (x5 + (wrap64 (x11 + (x12.size : Int))))) (mn x6 1099511627776) x13 x8 (decide (x13 ≤ x7)) true)) else ((lexer_length.f x12).bind fun t361 => (if x9 = true then (if x10 = true then (lexer_duration.l0 k x0 (wrap64 (x5 + (wrap64 (x11 + (x12.size : Int))))) (mn (wrap64 (x6 + (wrap64 (bt357.1 * t361)))) 1099511627776) x13 x8 true true) else (lexer_duration.l0 k x0 (wrap64 (x5 + (wrap64 (x11 + (x12.size : Int))))) (mn (wrap64 (x6 + (wrap64 (bt357.1 * t361)))) 1099511627776) x13 x8 true (decide ((wrap64 (x6 + (wrap64 (bt357.1 * t361)))) > 1099511627776)))) else (if x10 = true then (lexer_duration.l0 k x0 (wrap64 (x5 + (wrap64 (x11 + (x12.size : Int))))) (mn (wrap64 (x6 + (wrap64 (bt357.1 * t361)))) 1099511627776) x13 x8 (decide (x13 ≤ x7)) true) else (lexer_duration.l0 k x0 (wrap64 (x5 + (wrap64 (x11 + (x12.size : Int))))) (mn (wrap64 (x6 + (wrap64 (bt357.1 * t361)))) 1099511627776) x13 x8 (decide (x13 ≤ x7)) (decide ((wrap64 (x6 + (wrap64 (bt357.1 * t361)))) > 1099511627776))))))))) else (if x9 = true then (lexer_duration.l0 k x0 (wrap64 (x5 + (wrap64 (x11 + (x12.size : Int))))) (mn x6 1099511627776) x13 x8 true true) else (lexer_duration.l0 k x0 (wrap64 (x5 + (wrap64 (x11 + (x12.size : Int))))) (mn x6 1099511627776) x13 x8 (decide (x13 ≤ x7)) true)))) else (none)) else (none)) else (none)))
def lexer_duration.j2 : Nat → ByteArray → Int → Int → Bool → Bool → Option (Int × ByteArray × Int × Int × Int × Int × Int)
 | 0, _, _, _, _, _ => none
 | k + 1, x0, x5, x6, x10, x86 => if x86 = true then (some (0, (⟨#[]⟩ : ByteArray), 0, 0, 0, x5, 3)) else (if x10 = true then (some (0, (⟨#[]⟩ : ByteArray), 0, 0, 0, x5, 2)) else (if 0 ≤ x5 then (if x5 ≤ (x0.size : Int) then (some (3, x0.extract 0 (x5 : Int).toNat, x6, 1, 0, x5, 0)) else (none)) else (none)))
end
def lexer_duration.f (k : Nat) (a0 : ByteArray) : Option (Int × ByteArray × Int × Int × Int × Int × Int) := lexer_duration.l0 k a0 0 0 (-1) false false false
set_option maxHeartbeats 8000000 in
set_option maxRecDepth 100000 in
theorem lexer_duration.calls (k : Nat) (a0 : ByteArray) (r1 : Int) (r2 : ByteArray) (r3 : Int) (r4 : Int) (r5 : Int) (r6 : Int) (r7 : Int) (w : World) (hT : Tabs w) (h : lexer_duration.f k a0 = some (r1, r2, r3, r4, r5, r6, r7)) :
  Calls Tryz.prog 69 #[.string a0] w fun e w' => e = .returned (.tuple #[.agg #[.int .i64 r1, .string r2, .int .i64 r3, .int .i64 r4, .int .i64 r5], .int .i64 r6, .int .i64 r7]) ∧ Below w.heap.size w w' := by
 have hu29 := Tryz.underlying29
 have hu27 := Tryz.underlying27
 have hu59 := Tryz.underlying59
 have HT := Aside0.mk hT
 clear hT
 have HB := Aside0.mk (Below.refl w.heap.size w)
 have H : (lexer_duration.l0 k a0 0 0 (-1) false false false) = some (r1, r2, r3, r4, r5, r6, r7) := h
 clear h
 have H' := Aside0.mk H
 clear H
 go_enter Tryz.func69, Tryz.ntmps69
 go_wp2_with (first | ((with_reducible refine gate_dst (N := 2) rfl ?_); refine box_event ?hg (N := 2) ?hd (cs := #[.int .i64 0, .string (⟨#[]⟩ : ByteArray), .int .i64 0, .int .i64 0, .int .i64 0]) (t := 29) ?hr ?_; (case hd => rfl); (case hg => rfl); (case hr => first | (go_simp; done) | (go_simp; rfl)); intro gb353 hg w2 hbox hb; have n0_ := Aside0.mk (below_step (by repeat (first | (with_reducible first | exact HB.out | apply below_alloc | apply pw_below_drewN | apply below_drew1) | exact HB.out)) hb); have n1_ := Aside0.mk (hbox); have n2_ := Aside0.mk ((by rw [hg]; exact (below_size (by repeat (first | (with_reducible first | exact HB.out | apply below_alloc | apply pw_below_drewN | apply below_drew1) | exact HB.out))) : w.heap.size ≤ gb353)); have n3_ := Aside0.mk ((by rw [hg]; exact (below_size (by repeat (first | (with_reducible first | exact HB.out | apply below_alloc | apply pw_below_drewN | apply below_drew1) | exact HB.out))) : w.heap.size ≤ gb353)); clear HB; have HB := n0_; have BK353 := n1_; have GW353 := n2_; have GE353 := n3_; clear n0_ n1_ n2_ n3_; clear hb hbox hg))
 go_loopg [5, 6, 7, 8, 9, 10] k (fun kq v5 v6 v7 v8 v9 v10 w' => ∃ (x5_1 : Int) (x6_1 : Int) (x7_1 : Int) (x8_1 : Bool) (x9_1 : Bool) (x10_1 : Bool), v5 = .int .i64 x5_1 ∧ v6 = .int .i64 x6_1 ∧ v7 = .int .i64 x7_1 ∧ v8 = .bool x8_1 ∧ v9 = .bool x9_1 ∧ v10 = .bool x10_1 ∧ Aside0 (lexer_duration.l0 kq a0 x5_1 x6_1 x7_1 x8_1 x9_1 x10_1 = some (r1, r2, r3, r4, r5, r6, r7)) ∧ Aside0 (kq ≤ k) ∧ Aside0 (w'.heap[gb353]? = some (.cells #[.int .i64 0, .string (⟨#[]⟩ : ByteArray), .int .i64 0, .int .i64 0, .int .i64 0] 29 (0, 0))) ∧ Aside0 (Below w.heap.size w w'))
 case atStart => exact ⟨(0), (0), ((-1)), (false), (false), (false), (by first | rfl | (simp; done) | (simp [*]; done)), (by first | rfl | (simp; done) | (simp [*]; done)), (by first | rfl | (simp; done) | (simp [*]; done)), (by first | rfl | (simp; done) | (simp [*]; done)), (by first | rfl | (simp; done) | (simp [*]; done)), (by first | rfl | (simp; done) | (simp [*]; done)), H', ⟨Nat.le_refl _⟩, ⟨by (with_reducible repeat (first | refine blk_drewN ?_ _ | refine blk_drew ?_ | refine blk_alloc ?_ _)); exact BK353.out⟩, ⟨by repeat (first | (with_reducible first | exact HB.out | apply below_alloc | apply pw_below_drewN | apply below_drew1 | refine below_set ?_ GE353.out) | exact HB.out)⟩⟩
 case round =>
  clear H'; (try clear p2)
  obtain ⟨x5_1, x6_1, x7_1, x8_1, x9_1, x10_1, rfl, rfl, rfl, rfl, rfl, rfl, HA, HK1, BK353, HB⟩ := hrel
  cases gk with
  | zero => exact absurd HA.out (by simp [lexer_duration.l0])
  | succ k1 =>
   have H := HA.out
   clear HA
   simp only [lexer_duration.l0] at H
   by_cases c3 : 0 ≤ x5_1
   ·
    rw [if_pos c3] at H
    have c3b0 := eq_true c3
    have c3b1 : decide (0 ≤ x5_1) = true := decide_eq_true c3
    clear c3
    by_cases c4 : x5_1 ≤ (a0.size : Int)
    ·
     rw [if_pos c4] at H
     have c4b0 := eq_true c4
     have c4b1 : decide (x5_1 ≤ (a0.size : Int)) = true := decide_eq_true c4
     clear c4
     replace H := Option.bind_eq_some_iff.mp H
     obtain ⟨t354, A50, H⟩ := H
     replace H : (if 0 ≤ (wrap64 (x5_1 + t354)) then (if (wrap64 (x5_1 + t354)) ≤ (a0.size : Int) then ((lexer_unit.f k1 (a0.extract ((wrap64 (x5_1 + t354)) : Int).toNat a0.size)).bind fun bt355 => (if t354 = 0 then (lexer_duration.j1 k1 a0 x5_1 x6_1 x7_1 x8_1 x9_1 x10_1 t354 bt355.1 bt355.2 true) else (lexer_duration.j1 k1 a0 x5_1 x6_1 x7_1 x8_1 x9_1 x10_1 t354 bt355.1 bt355.2 (decide (bt355.2 < 0))))) else (none)) else (none)) = some (r1, r2, r3, r4, r5, r6, r7) := H
     have A5 := Aside0.mk A50
     clear A50
     obtain ⟨ji6, hji6⟩ : ∃ j_ : Int, (wrap64 (x5_1 + t354)) = j_ := ⟨_, rfl⟩
     replace H : (if 0 ≤ (ji6) then (if (ji6) ≤ (a0.size : Int) then ((lexer_unit.f k1 (a0.extract ((ji6) : Int).toNat a0.size)).bind fun bt355 => (if t354 = 0 then (lexer_duration.j1 k1 a0 x5_1 x6_1 x7_1 x8_1 x9_1 x10_1 t354 bt355.1 bt355.2 true) else (lexer_duration.j1 k1 a0 x5_1 x6_1 x7_1 x8_1 x9_1 x10_1 t354 bt355.1 bt355.2 (decide (bt355.2 < 0))))) else (none)) else (none)) = some (r1, r2, r3, r4, r5, r6, r7) := by first | (rw [hji6] at H; exact H) | (simp only [hji6] at H ⊢; exact H)
     (try rw [hji6] at A5)
     have hji6w : (IntKind.i64.wrap (x5_1 + t354)) = ji6 := (i64_w _).trans hji6
     by_cases c7 : 0 ≤ (ji6)
     ·
      rw [if_pos c7] at H
      have c7b0 := eq_true c7
      have c7b1 : decide (0 ≤ (ji6)) = true := decide_eq_true c7
      clear c7
      by_cases c8 : (ji6) ≤ (a0.size : Int)
      ·
       rw [if_pos c8] at H
       have c8b0 := eq_true c8
       have c8b1 : decide ((ji6) ≤ (a0.size : Int)) = true := decide_eq_true c8
       clear c8
       replace H := Option.bind_eq_some_iff.mp H
       obtain ⟨⟨t355, t356⟩, A90, H⟩ := H
       replace H : (if t354 = 0 then (lexer_duration.j1 k1 a0 x5_1 x6_1 x7_1 x8_1 x9_1 x10_1 t354 t355 t356 true) else (lexer_duration.j1 k1 a0 x5_1 x6_1 x7_1 x8_1 x9_1 x10_1 t354 t355 t356 (decide (t356 < 0)))) = some (r1, r2, r3, r4, r5, r6, r7) := H
       have A9 := Aside0.mk A90
       clear A90
       have HC10 := Aside0.mk H
       clear H
       go_upto_region 5 with (first | ((with_reducible refine gate_callee (f := 97) rfl ?_); refine goesL_ (some 19) rfl rfl Tryz.func97 (by kernel_rfl) rfl #[.string (a0.extract (x5_1 : Int).toNat a0.size), .func (.func 98) #[] #[]] rfl (by (try simp only [List.map_toArray, List.map_cons, List.map_nil]); first | done | rfl | (simp only [List.length_drop, List.length_take]; rfl)) ?_; (with_reducible refine (lexer_run_isDigit.calls (a0.extract (x5_1 : Int).toNat a0.size) t354 _ A5.out).mono ?_); rintro e w' ⟨rfl, ⟨nd, rfl⟩⟩; refine ⟨_, rfl, ?_⟩) | ((with_reducible refine gate_callee (f := 99) rfl ?_); refine goesL_ (some 26) rfl rfl Tryz.func99 (by kernel_rfl) rfl #[.string (a0.extract ((ji6) : Int).toNat a0.size)] rfl (by (try simp only [List.map_toArray, List.map_cons, List.map_nil]); first | done | (simp only [hji6]; rfl) | rfl | (simp only [List.length_drop, List.length_take]; rfl)) ?_; (with_reducible refine (lexer_unit.calls k1 (a0.extract ((ji6) : Int).toNat a0.size) t355 t356 _ ?side1 A9.out).mono ?_); (case side1 => exact Tabs.below HT.out (by repeat (first | (with_reducible first | exact HB.out | apply below_alloc | apply pw_below_drewN | apply below_drew1 | refine below_set ?_ GE353.out) | exact HB.out))); rintro e w11 ⟨rfl, hb⟩; refine ⟨_, rfl, ?_⟩; have n0_ := Aside0.mk (blk_below (g := gb353) (o := .cells #[.int .i64 0, .string (⟨#[]⟩ : ByteArray), .int .i64 0, .int .i64 0, .int .i64 0] 29 (0, 0)) (by (with_reducible repeat (first | refine blk_drewN ?_ _ | refine blk_drew ?_ | refine blk_alloc ?_ _)); exact BK353.out) hb); have n1_ := Aside0.mk (below_step (by repeat (first | (with_reducible first | exact HB.out | apply below_alloc | apply pw_below_drewN | apply below_drew1 | refine below_set ?_ GE353.out) | exact HB.out)) hb); clear BK353; clear HB; have BK353 := n0_; have HB := n1_; clear n0_ n1_; (try clear hb); (try clear hb2); (try clear hk); (try clear hi)))
       (try simp only [Act.put, List.setIfInBounds_toArray, List.set_cons_zero, List.set_cons_succ])
       go_cut [34] (fun v34 wc => ∃ (kq : Nat) (x34_9 : Bool), v34 = .bool x34_9 ∧ Aside0 (lexer_duration.j1 kq a0 x5_1 x6_1 x7_1 x8_1 x9_1 x10_1 t354 t355 t356 x34_9 = some (r1, r2, r3, r4, r5, r6, r7)) ∧ Aside0 (kq ≤ k1) ∧ Aside0 (wc.heap[gb353]? = some (.cells #[.int .i64 0, .string (⟨#[]⟩ : ByteArray), .int .i64 0, .int .i64 0, .int .i64 0] 29 (0, 0))) ∧ Aside0 (Below w.heap.size w wc))
       case first =>
        have H := HC10.out
        clear HC10
        by_cases c12 : t354 = 0
        ·
         rw [if_pos c12] at H
         have c12b0 : (t354 == 0) = true := beq_iff_eq.mpr c12
         have c12b1 : (t354 != 0) = false := bne_eq_false_iff_eq.mpr c12
         clear c12
         (first | rw [c12b0] | (simp only [i64_w, i32_w]; rw [c12b0]) | skip)
         have H' := Aside0.mk H
         clear H
         go_wp2
         go_meet
         case rel => exact ⟨_, (true), (by first | rfl | (simp; done) | (simp [*]; done)), H', ⟨by have := HK1.out; first | omega | exact Nat.le_refl _⟩, ⟨by (with_reducible repeat (first | refine blk_drewN ?_ _ | refine blk_drew ?_ | refine blk_alloc ?_ _)); exact BK353.out⟩, ⟨by repeat (first | (with_reducible first | exact HB.out | apply below_alloc | apply pw_below_drewN | apply below_drew1 | refine below_set ?_ GE353.out) | exact HB.out)⟩⟩
        ·
         rw [if_neg c12] at H
         have c12b0 : (t354 == 0) = false := beq_eq_false_iff_ne.mpr c12
         have c12b1 : (t354 != 0) = true := bne_iff_ne.mpr c12
         (first | rw [c12b0] | (simp only [i64_w, i32_w]; rw [c12b0]) | skip)
         have H' := Aside0.mk H
         clear H
         go_wp2
         go_meet
         case rel => exact ⟨_, (decide (t356 < 0)), (by first | rfl | (simp; done) | (simp [*]; done)), H', ⟨by have := HK1.out; first | omega | exact Nat.le_refl _⟩, ⟨by (with_reducible repeat (first | refine blk_drewN ?_ _ | refine blk_drew ?_ | refine blk_alloc ?_ _)); exact BK353.out⟩, ⟨by repeat (first | (with_reducible first | exact HB.out | apply below_alloc | apply pw_below_drewN | apply below_drew1 | refine below_set ?_ GE353.out) | exact HB.out)⟩⟩
       case rest =>
        (try clear hji6w)
        (try clear hji6)
        clear HC10; (try clear c1); (try clear p2); (try clear c3); (try clear c3b0); (try clear c3b1); (try clear c4); (try clear c4b0); (try clear c4b1); (try clear c6); (try clear p6); (try clear c7); (try clear c7b0); (try clear c7b1); (try clear c8); (try clear c8b0); (try clear c8b1); (try clear c9); (try clear c12); (try clear c12b0); (try clear c12b1); (try clear p2)
        obtain ⟨kq, x34_9, rfl, HA, HJ9, BK353, HB⟩ := hcut
        cases kq with
        | zero => exact absurd HA.out (by simp [lexer_duration.j1])
        | succ kj9 =>
         have H := HA.out
         clear HA
         simp only [lexer_duration.j1] at H
         by_cases c13 : x34_9 = true
         ·
          subst c13
          have H1 : (if x8_1 = true then (some (0, (⟨#[]⟩ : ByteArray), 0, 0, 0, x5_1, 4)) else (if x9_1 = true then (lexer_duration.j2 kj9 a0 x5_1 x6_1 x10_1 true) else (if 0 ≤ x5_1 then (if x5_1 ≤ (a0.size : Int) then ((lexer_continues.f (a0.extract (x5_1 : Int).toNat a0.size)).bind fun t362 => (lexer_duration.j2 kj9 a0 x5_1 x6_1 x10_1 t362)) else (none)) else (none)))) = some (r1, r2, r3, r4, r5, r6, r7) := by rw [if_pos rfl] at H; exact H
          clear H
          have H := H1
          clear H1
          by_cases c14 : x8_1 = true
          ·
           subst c14
           have H1 : (some (0, (⟨#[]⟩ : ByteArray), 0, 0, 0, x5_1, 4)) = some (r1, r2, r3, r4, r5, r6, r7) := by rw [if_pos rfl] at H; exact H
           clear H
           have H := H1
           clear H1
           simp only [Option.some.injEq, Prod.mk.injEq] at H
           obtain ⟨rfl, rfl, rfl, rfl, rfl, rfl, rfl⟩ := H
           have hcz15_0 : wc.cell? ⟨gb353, 0, none⟩ = some (.int .i64 0) := (blk_cell BK353.out 0).trans rfl
           have hcz15_1 : wc.cell? ⟨gb353, 1, none⟩ = some (.string (⟨#[]⟩ : ByteArray)) := (blk_cell BK353.out 1).trans rfl
           have hcz15_2 : wc.cell? ⟨gb353, 2, none⟩ = some (.int .i64 0) := (blk_cell BK353.out 2).trans rfl
           have hcz15_3 : wc.cell? ⟨gb353, 3, none⟩ = some (.int .i64 0) := (blk_cell BK353.out 3).trans rfl
           have hcz15_4 : wc.cell? ⟨gb353, 4, none⟩ = some (.int .i64 0) := (blk_cell BK353.out 4).trans rfl
           have hfz15_0 := blk_frozen BK353.out 0
           have hfz15_1 := blk_frozen BK353.out 1
           have hfz15_2 := blk_frozen BK353.out 2
           have hfz15_3 := blk_frozen BK353.out 3
           have hfz15_4 := blk_frozen BK353.out 4
           go_wp2
           refine bodyPost_ret (results_ctt rfl _ _ gb353 29 #[.int .i64 0, .string (⟨#[]⟩ : ByteArray), .int .i64 0, .int .i64 0, .int .i64 0] (0, 0) _ rfl (by (with_reducible repeat (first | refine blk_drewN ?_ _ | refine blk_drew ?_ | refine blk_alloc ?_ _)); refine blk_put (cs := #[.int .i64 0, .string (⟨#[]⟩ : ByteArray), .int .i64 0, .int .i64 0, .int .i64 0]) ?_ 4 _ rfl; (with_reducible repeat (first | refine blk_drewN ?_ _ | refine blk_drew ?_ | refine blk_alloc ?_ _)); refine blk_put (cs := #[.int .i64 0, .string (⟨#[]⟩ : ByteArray), .int .i64 0, .int .i64 0, .int .i64 0]) ?_ 3 _ rfl; (with_reducible repeat (first | refine blk_drewN ?_ _ | refine blk_drew ?_ | refine blk_alloc ?_ _)); refine blk_put (cs := #[.int .i64 0, .string (⟨#[]⟩ : ByteArray), .int .i64 0, .int .i64 0, .int .i64 0]) ?_ 2 _ rfl; (with_reducible repeat (first | refine blk_drewN ?_ _ | refine blk_drew ?_ | refine blk_alloc ?_ _)); refine blk_put (cs := #[.int .i64 0, .string (⟨#[]⟩ : ByteArray), .int .i64 0, .int .i64 0, .int .i64 0]) ?_ 1 _ rfl; (with_reducible repeat (first | refine blk_drewN ?_ _ | refine blk_drew ?_ | refine blk_alloc ?_ _)); refine blk_put (cs := #[.int .i64 0, .string (⟨#[]⟩ : ByteArray), .int .i64 0, .int .i64 0, .int .i64 0]) ?_ 0 _ rfl; (with_reducible repeat (first | refine blk_drewN ?_ _ | refine blk_drew ?_ | refine blk_alloc ?_ _)); exact BK353.out) Tryz.underlying29 rfl (by kernel_rfl)) rfl ?_
           exact ⟨by first | rfl | (simp [errW_none, errW_some] <;> rfl) | (simp only [← hji6]; first | rfl | (simp [errW_none, errW_some] <;> rfl)) | (simp [*, errW_none, errW_some] <;> rfl), by repeat (first | (with_reducible first | exact HB.out | apply below_alloc | apply pw_below_drewN | apply below_drew1 | refine below_set ?_ GE353.out) | exact HB.out)⟩
          ·
           replace c14 := Bool.eq_false_iff.mpr c14
           subst c14
           have H1 : (if x9_1 = true then (lexer_duration.j2 kj9 a0 x5_1 x6_1 x10_1 true) else (if 0 ≤ x5_1 then (if x5_1 ≤ (a0.size : Int) then ((lexer_continues.f (a0.extract (x5_1 : Int).toNat a0.size)).bind fun t362 => (lexer_duration.j2 kj9 a0 x5_1 x6_1 x10_1 t362)) else (none)) else (none))) = some (r1, r2, r3, r4, r5, r6, r7) := by rw [if_neg (show ¬ (false = true) by decide)] at H; exact H
           clear H
           have H := H1
           clear H1
           have HC16 := Aside0.mk H
           clear H
           go_upto_region 19 with (fail)
           go_cut [86] (fun v86 wc => ∃ (kq : Nat) (x86_15 : Bool), v86 = .bool x86_15 ∧ Aside0 (lexer_duration.j2 kq a0 x5_1 x6_1 x10_1 x86_15 = some (r1, r2, r3, r4, r5, r6, r7)) ∧ Aside0 (kq ≤ kj9) ∧ Aside0 (wc.heap[gb353]? = some (.cells #[.int .i64 0, .string (⟨#[]⟩ : ByteArray), .int .i64 0, .int .i64 0, .int .i64 0] 29 (0, 0))) ∧ Aside0 (Below w.heap.size w wc))
           case first =>
            have H := HC16.out
            clear HC16
            by_cases c17 : x9_1 = true
            ·
             subst c17
             have H1 : (lexer_duration.j2 kj9 a0 x5_1 x6_1 x10_1 true) = some (r1, r2, r3, r4, r5, r6, r7) := by rw [if_pos rfl] at H; exact H
             clear H
             have H := H1
             clear H1
             have H' := Aside0.mk H
             clear H
             go_wp2
             go_meet
             case rel => exact ⟨_, (true), (by first | rfl | (simp; done) | (simp [*]; done)), H', ⟨by have := HK1.out; have := HJ9.out; first | omega | exact Nat.le_refl _⟩, ⟨by (with_reducible repeat (first | refine blk_drewN ?_ _ | refine blk_drew ?_ | refine blk_alloc ?_ _)); exact BK353.out⟩, ⟨by repeat (first | (with_reducible first | exact HB.out | apply below_alloc | apply pw_below_drewN | apply below_drew1 | refine below_set ?_ GE353.out) | exact HB.out)⟩⟩
            ·
             replace c17 := Bool.eq_false_iff.mpr c17
             subst c17
             have H1 : (if 0 ≤ x5_1 then (if x5_1 ≤ (a0.size : Int) then ((lexer_continues.f (a0.extract (x5_1 : Int).toNat a0.size)).bind fun t362 => (lexer_duration.j2 kj9 a0 x5_1 x6_1 x10_1 t362)) else (none)) else (none)) = some (r1, r2, r3, r4, r5, r6, r7) := by rw [if_neg (show ¬ (false = true) by decide)] at H; exact H
             clear H
             have H := H1
             clear H1
             by_cases c18 : 0 ≤ x5_1
             ·
              rw [if_pos c18] at H
              have c18b0 := eq_true c18
              have c18b1 : decide (0 ≤ x5_1) = true := decide_eq_true c18
              clear c18
              by_cases c19 : x5_1 ≤ (a0.size : Int)
              ·
               rw [if_pos c19] at H
               have c19b0 := eq_true c19
               have c19b1 : decide (x5_1 ≤ (a0.size : Int)) = true := decide_eq_true c19
               clear c19
               replace H := Option.bind_eq_some_iff.mp H
               obtain ⟨t362, A200, H⟩ := H
               replace H : (lexer_duration.j2 kj9 a0 x5_1 x6_1 x10_1 t362) = some (r1, r2, r3, r4, r5, r6, r7) := H
               have A20 := Aside0.mk A200
               clear A200
               have H' := Aside0.mk H
               clear H
               go_wp2_with (first | (go_at_call 101; (with_reducible refine (lexer_continues.calls (a0.extract (x5_1 : Int).toNat a0.size) t362 _ A20.out).mono ?_); rintro e w' ⟨rfl, ⟨nd, rfl⟩⟩))
               go_meet
               case rel => exact ⟨_, (t362), (by first | rfl | (simp; done) | (simp [*]; done)), H', ⟨by have := HK1.out; have := HJ9.out; first | omega | exact Nat.le_refl _⟩, ⟨by (with_reducible repeat (first | refine blk_drewN ?_ _ | refine blk_drew ?_ | refine blk_alloc ?_ _)); exact BK353.out⟩, ⟨by repeat (first | (with_reducible first | exact HB.out | apply below_alloc | apply pw_below_drewN | apply below_drew1 | refine below_set ?_ GE353.out) | exact HB.out)⟩⟩
              ·
               rw [if_neg c19] at H
               exact absurd H (by simp)
             ·
              rw [if_neg c18] at H
              exact absurd H (by simp)
           case rest =>
            (try clear hji6w)
            (try clear hji6)
            clear HC16; (try clear c1); (try clear p2); (try clear c3); (try clear c3b0); (try clear c3b1); (try clear c4); (try clear c4b0); (try clear c4b1); (try clear c6); (try clear p6); (try clear c7); (try clear c7b0); (try clear c7b1); (try clear c8); (try clear c8b0); (try clear c8b1); (try clear c9); (try clear c12); (try clear c12b0); (try clear c12b1); (try clear c13); (try clear c14); (try clear c17); (try clear c18); (try clear c18b0); (try clear c18b1); (try clear c19); (try clear c19b0); (try clear c19b1); (try clear hcz15_0); (try clear hcz15_1); (try clear hcz15_2); (try clear hcz15_3); (try clear hcz15_4); (try clear hfz15_0); (try clear hfz15_1); (try clear hfz15_2); (try clear hfz15_3); (try clear hfz15_4); (try clear p2); (try clear p6)
            obtain ⟨kq, x86_15, rfl, HA, HJ15, BK353, HB⟩ := hcut
            cases kq with
            | zero => exact absurd HA.out (by simp [lexer_duration.j2])
            | succ kj15 =>
             have H := HA.out
             clear HA
             simp only [lexer_duration.j2] at H
             by_cases c21 : x86_15 = true
             ·
              subst c21
              have H1 : (some (0, (⟨#[]⟩ : ByteArray), 0, 0, 0, x5_1, 3)) = some (r1, r2, r3, r4, r5, r6, r7) := by rw [if_pos rfl] at H; exact H
              clear H
              have H := H1
              clear H1
              simp only [Option.some.injEq, Prod.mk.injEq] at H
              obtain ⟨rfl, rfl, rfl, rfl, rfl, rfl, rfl⟩ := H
              have hcz22_0 : wc.cell? ⟨gb353, 0, none⟩ = some (.int .i64 0) := (blk_cell BK353.out 0).trans rfl
              have hcz22_1 : wc.cell? ⟨gb353, 1, none⟩ = some (.string (⟨#[]⟩ : ByteArray)) := (blk_cell BK353.out 1).trans rfl
              have hcz22_2 : wc.cell? ⟨gb353, 2, none⟩ = some (.int .i64 0) := (blk_cell BK353.out 2).trans rfl
              have hcz22_3 : wc.cell? ⟨gb353, 3, none⟩ = some (.int .i64 0) := (blk_cell BK353.out 3).trans rfl
              have hcz22_4 : wc.cell? ⟨gb353, 4, none⟩ = some (.int .i64 0) := (blk_cell BK353.out 4).trans rfl
              have hfz22_0 := blk_frozen BK353.out 0
              have hfz22_1 := blk_frozen BK353.out 1
              have hfz22_2 := blk_frozen BK353.out 2
              have hfz22_3 := blk_frozen BK353.out 3
              have hfz22_4 := blk_frozen BK353.out 4
              go_wp2
              refine bodyPost_ret (results_ctt rfl _ _ gb353 29 #[.int .i64 0, .string (⟨#[]⟩ : ByteArray), .int .i64 0, .int .i64 0, .int .i64 0] (0, 0) _ rfl (by (with_reducible repeat (first | refine blk_drewN ?_ _ | refine blk_drew ?_ | refine blk_alloc ?_ _)); refine blk_put (cs := #[.int .i64 0, .string (⟨#[]⟩ : ByteArray), .int .i64 0, .int .i64 0, .int .i64 0]) ?_ 4 _ rfl; (with_reducible repeat (first | refine blk_drewN ?_ _ | refine blk_drew ?_ | refine blk_alloc ?_ _)); refine blk_put (cs := #[.int .i64 0, .string (⟨#[]⟩ : ByteArray), .int .i64 0, .int .i64 0, .int .i64 0]) ?_ 3 _ rfl; (with_reducible repeat (first | refine blk_drewN ?_ _ | refine blk_drew ?_ | refine blk_alloc ?_ _)); refine blk_put (cs := #[.int .i64 0, .string (⟨#[]⟩ : ByteArray), .int .i64 0, .int .i64 0, .int .i64 0]) ?_ 2 _ rfl; (with_reducible repeat (first | refine blk_drewN ?_ _ | refine blk_drew ?_ | refine blk_alloc ?_ _)); refine blk_put (cs := #[.int .i64 0, .string (⟨#[]⟩ : ByteArray), .int .i64 0, .int .i64 0, .int .i64 0]) ?_ 1 _ rfl; (with_reducible repeat (first | refine blk_drewN ?_ _ | refine blk_drew ?_ | refine blk_alloc ?_ _)); refine blk_put (cs := #[.int .i64 0, .string (⟨#[]⟩ : ByteArray), .int .i64 0, .int .i64 0, .int .i64 0]) ?_ 0 _ rfl; (with_reducible repeat (first | refine blk_drewN ?_ _ | refine blk_drew ?_ | refine blk_alloc ?_ _)); exact BK353.out) Tryz.underlying29 rfl (by kernel_rfl)) rfl ?_
              exact ⟨by first | rfl | (simp [errW_none, errW_some] <;> rfl) | (simp only [← hji6]; first | rfl | (simp [errW_none, errW_some] <;> rfl)) | (simp [*, errW_none, errW_some] <;> rfl), by repeat (first | (with_reducible first | exact HB.out | apply below_alloc | apply pw_below_drewN | apply below_drew1 | refine below_set ?_ GE353.out) | exact HB.out)⟩
             ·
              replace c21 := Bool.eq_false_iff.mpr c21
              subst c21
              have H1 : (if x10_1 = true then (some (0, (⟨#[]⟩ : ByteArray), 0, 0, 0, x5_1, 2)) else (if 0 ≤ x5_1 then (if x5_1 ≤ (a0.size : Int) then (some (3, a0.extract 0 (x5_1 : Int).toNat, x6_1, 1, 0, x5_1, 0)) else (none)) else (none))) = some (r1, r2, r3, r4, r5, r6, r7) := by rw [if_neg (show ¬ (false = true) by decide)] at H; exact H
              clear H
              have H := H1
              clear H1
              by_cases c23 : x10_1 = true
              ·
               subst c23
               have H1 : (some (0, (⟨#[]⟩ : ByteArray), 0, 0, 0, x5_1, 2)) = some (r1, r2, r3, r4, r5, r6, r7) := by rw [if_pos rfl] at H; exact H
               clear H
               have H := H1
               clear H1
               simp only [Option.some.injEq, Prod.mk.injEq] at H
               obtain ⟨rfl, rfl, rfl, rfl, rfl, rfl, rfl⟩ := H
               have hcz24_0 : wc.cell? ⟨gb353, 0, none⟩ = some (.int .i64 0) := (blk_cell BK353.out 0).trans rfl
               have hcz24_1 : wc.cell? ⟨gb353, 1, none⟩ = some (.string (⟨#[]⟩ : ByteArray)) := (blk_cell BK353.out 1).trans rfl
               have hcz24_2 : wc.cell? ⟨gb353, 2, none⟩ = some (.int .i64 0) := (blk_cell BK353.out 2).trans rfl
               have hcz24_3 : wc.cell? ⟨gb353, 3, none⟩ = some (.int .i64 0) := (blk_cell BK353.out 3).trans rfl
               have hcz24_4 : wc.cell? ⟨gb353, 4, none⟩ = some (.int .i64 0) := (blk_cell BK353.out 4).trans rfl
               have hfz24_0 := blk_frozen BK353.out 0
               have hfz24_1 := blk_frozen BK353.out 1
               have hfz24_2 := blk_frozen BK353.out 2
               have hfz24_3 := blk_frozen BK353.out 3
               have hfz24_4 := blk_frozen BK353.out 4
               go_wp2
               refine bodyPost_ret (results_ctt rfl _ _ gb353 29 #[.int .i64 0, .string (⟨#[]⟩ : ByteArray), .int .i64 0, .int .i64 0, .int .i64 0] (0, 0) _ rfl (by (with_reducible repeat (first | refine blk_drewN ?_ _ | refine blk_drew ?_ | refine blk_alloc ?_ _)); refine blk_put (cs := #[.int .i64 0, .string (⟨#[]⟩ : ByteArray), .int .i64 0, .int .i64 0, .int .i64 0]) ?_ 4 _ rfl; (with_reducible repeat (first | refine blk_drewN ?_ _ | refine blk_drew ?_ | refine blk_alloc ?_ _)); refine blk_put (cs := #[.int .i64 0, .string (⟨#[]⟩ : ByteArray), .int .i64 0, .int .i64 0, .int .i64 0]) ?_ 3 _ rfl; (with_reducible repeat (first | refine blk_drewN ?_ _ | refine blk_drew ?_ | refine blk_alloc ?_ _)); refine blk_put (cs := #[.int .i64 0, .string (⟨#[]⟩ : ByteArray), .int .i64 0, .int .i64 0, .int .i64 0]) ?_ 2 _ rfl; (with_reducible repeat (first | refine blk_drewN ?_ _ | refine blk_drew ?_ | refine blk_alloc ?_ _)); refine blk_put (cs := #[.int .i64 0, .string (⟨#[]⟩ : ByteArray), .int .i64 0, .int .i64 0, .int .i64 0]) ?_ 1 _ rfl; (with_reducible repeat (first | refine blk_drewN ?_ _ | refine blk_drew ?_ | refine blk_alloc ?_ _)); refine blk_put (cs := #[.int .i64 0, .string (⟨#[]⟩ : ByteArray), .int .i64 0, .int .i64 0, .int .i64 0]) ?_ 0 _ rfl; (with_reducible repeat (first | refine blk_drewN ?_ _ | refine blk_drew ?_ | refine blk_alloc ?_ _)); exact BK353.out) Tryz.underlying29 rfl (by kernel_rfl)) rfl ?_
               exact ⟨by first | rfl | (simp [errW_none, errW_some] <;> rfl) | (simp only [← hji6]; first | rfl | (simp [errW_none, errW_some] <;> rfl)) | (simp [*, errW_none, errW_some] <;> rfl), by repeat (first | (with_reducible first | exact HB.out | apply below_alloc | apply pw_below_drewN | apply below_drew1 | refine below_set ?_ GE353.out) | exact HB.out)⟩
              ·
               replace c23 := Bool.eq_false_iff.mpr c23
               subst c23
               have H1 : (if 0 ≤ x5_1 then (if x5_1 ≤ (a0.size : Int) then (some (3, a0.extract 0 (x5_1 : Int).toNat, x6_1, 1, 0, x5_1, 0)) else (none)) else (none)) = some (r1, r2, r3, r4, r5, r6, r7) := by rw [if_neg (show ¬ (false = true) by decide)] at H; exact H
               clear H
               have H := H1
               clear H1
               by_cases c25 : 0 ≤ x5_1
               ·
                rw [if_pos c25] at H
                have c25b0 := eq_true c25
                have c25b1 : decide (0 ≤ x5_1) = true := decide_eq_true c25
                clear c25
                by_cases c26 : x5_1 ≤ (a0.size : Int)
                ·
                 rw [if_pos c26] at H
                 have c26b0 := eq_true c26
                 have c26b1 : decide (x5_1 ≤ (a0.size : Int)) = true := decide_eq_true c26
                 clear c26
                 simp only [Option.some.injEq, Prod.mk.injEq] at H
                 obtain ⟨rfl, rfl, rfl, rfl, rfl, rfl, rfl⟩ := H
                 have hcz27_0 : wc.cell? ⟨gb353, 0, none⟩ = some (.int .i64 0) := (blk_cell BK353.out 0).trans rfl
                 have hcz27_1 : wc.cell? ⟨gb353, 1, none⟩ = some (.string (⟨#[]⟩ : ByteArray)) := (blk_cell BK353.out 1).trans rfl
                 have hcz27_2 : wc.cell? ⟨gb353, 2, none⟩ = some (.int .i64 0) := (blk_cell BK353.out 2).trans rfl
                 have hcz27_3 : wc.cell? ⟨gb353, 3, none⟩ = some (.int .i64 0) := (blk_cell BK353.out 3).trans rfl
                 have hcz27_4 : wc.cell? ⟨gb353, 4, none⟩ = some (.int .i64 0) := (blk_cell BK353.out 4).trans rfl
                 have hfz27_0 := blk_frozen BK353.out 0
                 have hfz27_1 := blk_frozen BK353.out 1
                 have hfz27_2 := blk_frozen BK353.out 2
                 have hfz27_3 := blk_frozen BK353.out 3
                 have hfz27_4 := blk_frozen BK353.out 4
                 go_wp2
                 refine bodyPost_ret (results_ctt rfl _ _ gb353 29 #[.int .i64 3, .string (a0.extract 0 (x5_1 : Int).toNat), .int .i64 x6_1, .int .i64 1, .int .i64 0] (0, 0) _ rfl (by (with_reducible repeat (first | refine blk_drewN ?_ _ | refine blk_drew ?_ | refine blk_alloc ?_ _)); refine blk_put (cs := #[.int .i64 3, .string (a0.extract 0 (x5_1 : Int).toNat), .int .i64 x6_1, .int .i64 1, .int .i64 0]) ?_ 4 _ rfl; (with_reducible repeat (first | refine blk_drewN ?_ _ | refine blk_drew ?_ | refine blk_alloc ?_ _)); refine blk_put (cs := #[.int .i64 3, .string (a0.extract 0 (x5_1 : Int).toNat), .int .i64 x6_1, .int .i64 0, .int .i64 0]) ?_ 3 _ rfl; (with_reducible repeat (first | refine blk_drewN ?_ _ | refine blk_drew ?_ | refine blk_alloc ?_ _)); refine blk_put (cs := #[.int .i64 3, .string (a0.extract 0 (x5_1 : Int).toNat), .int .i64 0, .int .i64 0, .int .i64 0]) ?_ 2 _ rfl; (with_reducible repeat (first | refine blk_drewN ?_ _ | refine blk_drew ?_ | refine blk_alloc ?_ _)); refine blk_put (cs := #[.int .i64 3, .string (⟨#[]⟩ : ByteArray), .int .i64 0, .int .i64 0, .int .i64 0]) ?_ 1 _ rfl; (with_reducible repeat (first | refine blk_drewN ?_ _ | refine blk_drew ?_ | refine blk_alloc ?_ _)); refine blk_put (cs := #[.int .i64 0, .string (⟨#[]⟩ : ByteArray), .int .i64 0, .int .i64 0, .int .i64 0]) ?_ 0 _ rfl; (with_reducible repeat (first | refine blk_drewN ?_ _ | refine blk_drew ?_ | refine blk_alloc ?_ _)); exact BK353.out) Tryz.underlying29 rfl (by kernel_rfl)) rfl ?_
                 exact ⟨by first | rfl | (simp [errW_none, errW_some] <;> rfl) | (simp only [← hji6]; first | rfl | (simp [errW_none, errW_some] <;> rfl)) | (simp [*, errW_none, errW_some] <;> rfl), by repeat (first | (with_reducible first | exact HB.out | apply below_alloc | apply pw_below_drewN | apply below_drew1 | refine below_set ?_ GE353.out) | exact HB.out)⟩
                ·
                 rw [if_neg c26] at H
                 exact absurd H (by simp)
               ·
                rw [if_neg c25] at H
                exact absurd H (by simp)
         ·
          replace c13 := Bool.eq_false_iff.mpr c13
          subst c13
          have H1 : (if t354 > 18 then (if x9_1 = true then (if x10_1 = true then (lexer_duration.l0 kj9 a0 (wrap64 (x5_1 + (wrap64 (t354 + (t355.size : Int))))) (mn x6_1 1099511627776) t356 true true true) else (lexer_duration.l0 kj9 a0 (wrap64 (x5_1 + (wrap64 (t354 + (t355.size : Int))))) (mn x6_1 1099511627776) t356 true true (decide (x6_1 > 1099511627776)))) else (if x10_1 = true then (lexer_duration.l0 kj9 a0 (wrap64 (x5_1 + (wrap64 (t354 + (t355.size : Int))))) (mn x6_1 1099511627776) t356 true (decide (t356 ≤ x7_1)) true) else (lexer_duration.l0 kj9 a0 (wrap64 (x5_1 + (wrap64 (t354 + (t355.size : Int))))) (mn x6_1 1099511627776) t356 true (decide (t356 ≤ x7_1)) (decide (x6_1 > 1099511627776))))) else (if 0 ≤ x5_1 then (if x5_1 ≤ (wrap64 (x5_1 + t354)) then (if (wrap64 (x5_1 + t354)) ≤ (a0.size : Int) then ((strconv_Atoi.f (a0.extract (x5_1 : Int).toNat ((wrap64 (x5_1 + t354)) : Int).toNat)).bind fun bt357 => (if bt357.2.isNone = true then ((lexer_length.f t355).bind fun t360 => (if t360 = 0 then (none) else (if bt357.1 > (wrap64 (Int.tdiv (1099511627776 : Int) t360)) then (if x9_1 = true then (lexer_duration.l0 kj9 a0 (wrap64 (x5_1 + (wrap64 (t354 + (t355.size : Int))))) (mn x6_1 1099511627776) t356 x8_1 true true) else (lexer_duration.l0 kj9 a0 (wrap64 (x5_1 + (wrap64 (t354 + (t355.size : Int))))) (mn x6_1 1099511627776) t356 x8_1 (decide (t356 ≤ x7_1)) true)) else ((lexer_length.f t355).bind fun t361 => (if x9_1 = true then (if x10_1 = true then (lexer_duration.l0 kj9 a0 (wrap64 (x5_1 + (wrap64 (t354 + (t355.size : Int))))) (mn (wrap64 (x6_1 + (wrap64 (bt357.1 * t361)))) 1099511627776) t356 x8_1 true true) else (lexer_duration.l0 kj9 a0 (wrap64 (x5_1 + (wrap64 (t354 + (t355.size : Int))))) (mn (wrap64 (x6_1 + (wrap64 (bt357.1 * t361)))) 1099511627776) t356 x8_1 true (decide ((wrap64 (x6_1 + (wrap64 (bt357.1 * t361)))) > 1099511627776)))) else (if x10_1 = true then (lexer_duration.l0 kj9 a0 (wrap64 (x5_1 + (wrap64 (t354 + (t355.size : Int))))) (mn (wrap64 (x6_1 + (wrap64 (bt357.1 * t361)))) 1099511627776) t356 x8_1 (decide (t356 ≤ x7_1)) true) else (lexer_duration.l0 kj9 a0 (wrap64 (x5_1 + (wrap64 (t354 + (t355.size : Int))))) (mn (wrap64 (x6_1 + (wrap64 (bt357.1 * t361)))) 1099511627776) t356 x8_1 (decide (t356 ≤ x7_1)) (decide ((wrap64 (x6_1 + (wrap64 (bt357.1 * t361)))) > 1099511627776))))))))) else (if x9_1 = true then (lexer_duration.l0 kj9 a0 (wrap64 (x5_1 + (wrap64 (t354 + (t355.size : Int))))) (mn x6_1 1099511627776) t356 x8_1 true true) else (lexer_duration.l0 kj9 a0 (wrap64 (x5_1 + (wrap64 (t354 + (t355.size : Int))))) (mn x6_1 1099511627776) t356 x8_1 (decide (t356 ≤ x7_1)) true)))) else (none)) else (none)) else (none))) = some (r1, r2, r3, r4, r5, r6, r7) := by rw [if_neg (show ¬ (false = true) by decide)] at H; exact H
          clear H
          have H := H1
          clear H1
          by_cases c28 : t354 > 18
          ·
           rw [if_pos c28] at H
           have c28b0 : decide (18 < t354) = true := decide_eq_true c28
           clear c28
           by_cases c29 : x9_1 = true
           ·
            subst c29
            have H1 : (if x10_1 = true then (lexer_duration.l0 kj9 a0 (wrap64 (x5_1 + (wrap64 (t354 + (t355.size : Int))))) (mn x6_1 1099511627776) t356 true true true) else (lexer_duration.l0 kj9 a0 (wrap64 (x5_1 + (wrap64 (t354 + (t355.size : Int))))) (mn x6_1 1099511627776) t356 true true (decide (x6_1 > 1099511627776)))) = some (r1, r2, r3, r4, r5, r6, r7) := by rw [if_pos rfl] at H; exact H
            clear H
            have H := H1
            clear H1
            by_cases c30 : x10_1 = true
            ·
             subst c30
             have H1 : (lexer_duration.l0 kj9 a0 (wrap64 (x5_1 + (wrap64 (t354 + (t355.size : Int))))) (mn x6_1 1099511627776) t356 true true true) = some (r1, r2, r3, r4, r5, r6, r7) := by rw [if_pos rfl] at H; exact H
             clear H
             have H := H1
             clear H1
             obtain ⟨ji31, hji31⟩ : ∃ j_ : Int, (mn x6_1 1099511627776) = j_ := ⟨_, rfl⟩
             replace H : (lexer_duration.l0 kj9 a0 (wrap64 (x5_1 + (wrap64 (t354 + (t355.size : Int))))) ji31 t356 true true true) = some (r1, r2, r3, r4, r5, r6, r7) := by first | (rw [hji31] at H; exact H) | (simp only [hji31] at H ⊢; exact H)
             have hji31_ : (if 1099511627776 < x6_1 then 1099511627776 else x6_1) = ji31 := hji31
             have H' := Aside0.mk H
             clear H
             go_wp2
             go_roundg kj9
             case measure => have := HK1.out; have := HJ9.out; omega
             case rel => exact ⟨(wrap64 (x5_1 + (wrap64 (t354 + (t355.size : Int))))), (ji31), (t356), (true), (true), (true), (by first | rfl | (simp; done) | (simp [*]; done)), (by first | rfl | (simp; done) | (simp only [← hji31] <;> (first | rfl | simp)) | (simp [*]; done)), (by first | rfl | (simp; done) | (simp [*]; done)), (by first | rfl | (simp; done) | (simp [*]; done)), (by first | rfl | (simp; done) | (simp [*]; done)), (by first | rfl | (simp; done) | (simp [*]; done)), H', ⟨by have := HK1.out; have := HJ9.out; omega⟩, ⟨by (with_reducible repeat (first | refine blk_drewN ?_ _ | refine blk_drew ?_ | refine blk_alloc ?_ _)); exact BK353.out⟩, ⟨by repeat (first | (with_reducible first | exact HB.out | apply below_alloc | apply pw_below_drewN | apply below_drew1 | refine below_set ?_ GE353.out) | exact HB.out)⟩⟩
            ·
             replace c30 := Bool.eq_false_iff.mpr c30
             subst c30
             have H1 : (lexer_duration.l0 kj9 a0 (wrap64 (x5_1 + (wrap64 (t354 + (t355.size : Int))))) (mn x6_1 1099511627776) t356 true true (decide (x6_1 > 1099511627776))) = some (r1, r2, r3, r4, r5, r6, r7) := by rw [if_neg (show ¬ (false = true) by decide)] at H; exact H
             clear H
             have H := H1
             clear H1
             obtain ⟨ji32, hji32⟩ : ∃ j_ : Int, (mn x6_1 1099511627776) = j_ := ⟨_, rfl⟩
             replace H : (lexer_duration.l0 kj9 a0 (wrap64 (x5_1 + (wrap64 (t354 + (t355.size : Int))))) ji32 t356 true true (decide (x6_1 > 1099511627776))) = some (r1, r2, r3, r4, r5, r6, r7) := by first | (rw [hji32] at H; exact H) | (simp only [hji32] at H ⊢; exact H)
             have hji32_ : (if 1099511627776 < x6_1 then 1099511627776 else x6_1) = ji32 := hji32
             have H' := Aside0.mk H
             clear H
             go_wp2
             go_roundg kj9
             case measure => have := HK1.out; have := HJ9.out; omega
             case rel => exact ⟨(wrap64 (x5_1 + (wrap64 (t354 + (t355.size : Int))))), (ji32), (t356), (true), (true), (decide (x6_1 > 1099511627776)), (by first | rfl | (simp; done) | (simp [*]; done)), (by first | rfl | (simp; done) | (simp only [← hji32] <;> (first | rfl | simp)) | (simp [*]; done)), (by first | rfl | (simp; done) | (simp [*]; done)), (by first | rfl | (simp; done) | (simp [*]; done)), (by first | rfl | (simp; done) | (simp [*]; done)), (by first | rfl | (simp; done) | (simp [*]; done)), H', ⟨by have := HK1.out; have := HJ9.out; omega⟩, ⟨by (with_reducible repeat (first | refine blk_drewN ?_ _ | refine blk_drew ?_ | refine blk_alloc ?_ _)); exact BK353.out⟩, ⟨by repeat (first | (with_reducible first | exact HB.out | apply below_alloc | apply pw_below_drewN | apply below_drew1 | refine below_set ?_ GE353.out) | exact HB.out)⟩⟩
           ·
            replace c29 := Bool.eq_false_iff.mpr c29
            subst c29
            have H1 : (if x10_1 = true then (lexer_duration.l0 kj9 a0 (wrap64 (x5_1 + (wrap64 (t354 + (t355.size : Int))))) (mn x6_1 1099511627776) t356 true (decide (t356 ≤ x7_1)) true) else (lexer_duration.l0 kj9 a0 (wrap64 (x5_1 + (wrap64 (t354 + (t355.size : Int))))) (mn x6_1 1099511627776) t356 true (decide (t356 ≤ x7_1)) (decide (x6_1 > 1099511627776)))) = some (r1, r2, r3, r4, r5, r6, r7) := by rw [if_neg (show ¬ (false = true) by decide)] at H; exact H
            clear H
            have H := H1
            clear H1
            by_cases c33 : x10_1 = true
            ·
             subst c33
             have H1 : (lexer_duration.l0 kj9 a0 (wrap64 (x5_1 + (wrap64 (t354 + (t355.size : Int))))) (mn x6_1 1099511627776) t356 true (decide (t356 ≤ x7_1)) true) = some (r1, r2, r3, r4, r5, r6, r7) := by rw [if_pos rfl] at H; exact H
             clear H
             have H := H1
             clear H1
             obtain ⟨ji34, hji34⟩ : ∃ j_ : Int, (mn x6_1 1099511627776) = j_ := ⟨_, rfl⟩
             replace H : (lexer_duration.l0 kj9 a0 (wrap64 (x5_1 + (wrap64 (t354 + (t355.size : Int))))) ji34 t356 true (decide (t356 ≤ x7_1)) true) = some (r1, r2, r3, r4, r5, r6, r7) := by first | (rw [hji34] at H; exact H) | (simp only [hji34] at H ⊢; exact H)
             have hji34_ : (if 1099511627776 < x6_1 then 1099511627776 else x6_1) = ji34 := hji34
             have H' := Aside0.mk H
             clear H
             go_wp2
             go_roundg kj9
             case measure => have := HK1.out; have := HJ9.out; omega
             case rel => exact ⟨(wrap64 (x5_1 + (wrap64 (t354 + (t355.size : Int))))), (ji34), (t356), (true), (decide (t356 ≤ x7_1)), (true), (by first | rfl | (simp; done) | (simp [*]; done)), (by first | rfl | (simp; done) | (simp only [← hji34] <;> (first | rfl | simp)) | (simp [*]; done)), (by first | rfl | (simp; done) | (simp [*]; done)), (by first | rfl | (simp; done) | (simp [*]; done)), (by first | rfl | (simp; done) | (simp [*]; done)), (by first | rfl | (simp; done) | (simp [*]; done)), H', ⟨by have := HK1.out; have := HJ9.out; omega⟩, ⟨by (with_reducible repeat (first | refine blk_drewN ?_ _ | refine blk_drew ?_ | refine blk_alloc ?_ _)); exact BK353.out⟩, ⟨by repeat (first | (with_reducible first | exact HB.out | apply below_alloc | apply pw_below_drewN | apply below_drew1 | refine below_set ?_ GE353.out) | exact HB.out)⟩⟩
            ·
             replace c33 := Bool.eq_false_iff.mpr c33
             subst c33
             have H1 : (lexer_duration.l0 kj9 a0 (wrap64 (x5_1 + (wrap64 (t354 + (t355.size : Int))))) (mn x6_1 1099511627776) t356 true (decide (t356 ≤ x7_1)) (decide (x6_1 > 1099511627776))) = some (r1, r2, r3, r4, r5, r6, r7) := by rw [if_neg (show ¬ (false = true) by decide)] at H; exact H
             clear H
             have H := H1
             clear H1
             obtain ⟨ji35, hji35⟩ : ∃ j_ : Int, (mn x6_1 1099511627776) = j_ := ⟨_, rfl⟩
             replace H : (lexer_duration.l0 kj9 a0 (wrap64 (x5_1 + (wrap64 (t354 + (t355.size : Int))))) ji35 t356 true (decide (t356 ≤ x7_1)) (decide (x6_1 > 1099511627776))) = some (r1, r2, r3, r4, r5, r6, r7) := by first | (rw [hji35] at H; exact H) | (simp only [hji35] at H ⊢; exact H)
             have hji35_ : (if 1099511627776 < x6_1 then 1099511627776 else x6_1) = ji35 := hji35
             have H' := Aside0.mk H
             clear H
             go_wp2
             go_roundg kj9
             case measure => have := HK1.out; have := HJ9.out; omega
             case rel => exact ⟨(wrap64 (x5_1 + (wrap64 (t354 + (t355.size : Int))))), (ji35), (t356), (true), (decide (t356 ≤ x7_1)), (decide (x6_1 > 1099511627776)), (by first | rfl | (simp; done) | (simp [*]; done)), (by first | rfl | (simp; done) | (simp only [← hji35] <;> (first | rfl | simp)) | (simp [*]; done)), (by first | rfl | (simp; done) | (simp [*]; done)), (by first | rfl | (simp; done) | (simp [*]; done)), (by first | rfl | (simp; done) | (simp [*]; done)), (by first | rfl | (simp; done) | (simp [*]; done)), H', ⟨by have := HK1.out; have := HJ9.out; omega⟩, ⟨by (with_reducible repeat (first | refine blk_drewN ?_ _ | refine blk_drew ?_ | refine blk_alloc ?_ _)); exact BK353.out⟩, ⟨by repeat (first | (with_reducible first | exact HB.out | apply below_alloc | apply pw_below_drewN | apply below_drew1 | refine below_set ?_ GE353.out) | exact HB.out)⟩⟩
          ·
           rw [if_neg c28] at H
           have c28b0 : decide (18 < t354) = false := decide_eq_false c28
           clear c28
           by_cases c36 : 0 ≤ x5_1
           ·
            rw [if_pos c36] at H
            have c36b0 := eq_true c36
            have c36b1 : decide (0 ≤ x5_1) = true := decide_eq_true c36
            clear c36
            by_cases c37 : x5_1 ≤ (wrap64 (x5_1 + t354))
            ·
             rw [if_pos c37] at H
             have c37b0 := eq_true c37
             have c37b1 : decide (x5_1 ≤ (wrap64 (x5_1 + t354))) = true := decide_eq_true c37
             by_cases c38 : (wrap64 (x5_1 + t354)) ≤ (a0.size : Int)
             ·
              rw [if_pos c38] at H
              have c38b0 := eq_true c38
              have c38b1 : decide ((wrap64 (x5_1 + t354)) ≤ (a0.size : Int)) = true := decide_eq_true c38
              replace H := Option.bind_eq_some_iff.mp H
              obtain ⟨⟨t357, t358⟩, A390, H⟩ := H
              replace H : (if t358.isNone = true then ((lexer_length.f t355).bind fun t360 => (if t360 = 0 then (none) else (if t357 > (wrap64 (Int.tdiv (1099511627776 : Int) t360)) then (if x9_1 = true then (lexer_duration.l0 kj9 a0 (wrap64 (x5_1 + (wrap64 (t354 + (t355.size : Int))))) (mn x6_1 1099511627776) t356 x8_1 true true) else (lexer_duration.l0 kj9 a0 (wrap64 (x5_1 + (wrap64 (t354 + (t355.size : Int))))) (mn x6_1 1099511627776) t356 x8_1 (decide (t356 ≤ x7_1)) true)) else ((lexer_length.f t355).bind fun t361 => (if x9_1 = true then (if x10_1 = true then (lexer_duration.l0 kj9 a0 (wrap64 (x5_1 + (wrap64 (t354 + (t355.size : Int))))) (mn (wrap64 (x6_1 + (wrap64 (t357 * t361)))) 1099511627776) t356 x8_1 true true) else (lexer_duration.l0 kj9 a0 (wrap64 (x5_1 + (wrap64 (t354 + (t355.size : Int))))) (mn (wrap64 (x6_1 + (wrap64 (t357 * t361)))) 1099511627776) t356 x8_1 true (decide ((wrap64 (x6_1 + (wrap64 (t357 * t361)))) > 1099511627776)))) else (if x10_1 = true then (lexer_duration.l0 kj9 a0 (wrap64 (x5_1 + (wrap64 (t354 + (t355.size : Int))))) (mn (wrap64 (x6_1 + (wrap64 (t357 * t361)))) 1099511627776) t356 x8_1 (decide (t356 ≤ x7_1)) true) else (lexer_duration.l0 kj9 a0 (wrap64 (x5_1 + (wrap64 (t354 + (t355.size : Int))))) (mn (wrap64 (x6_1 + (wrap64 (t357 * t361)))) 1099511627776) t356 x8_1 (decide (t356 ≤ x7_1)) (decide ((wrap64 (x6_1 + (wrap64 (t357 * t361)))) > 1099511627776))))))))) else (if x9_1 = true then (lexer_duration.l0 kj9 a0 (wrap64 (x5_1 + (wrap64 (t354 + (t355.size : Int))))) (mn x6_1 1099511627776) t356 x8_1 true true) else (lexer_duration.l0 kj9 a0 (wrap64 (x5_1 + (wrap64 (t354 + (t355.size : Int))))) (mn x6_1 1099511627776) t356 x8_1 (decide (t356 ≤ x7_1)) true))) = some (r1, r2, r3, r4, r5, r6, r7) := H
              have A39 := Aside0.mk A390
              clear A390
              rcases t358 with _ | q359
              ·
               have H1 : ((lexer_length.f t355).bind fun t360 => (if t360 = 0 then (none) else (if t357 > (wrap64 (Int.tdiv (1099511627776 : Int) t360)) then (if x9_1 = true then (lexer_duration.l0 kj9 a0 (wrap64 (x5_1 + (wrap64 (t354 + (t355.size : Int))))) (mn x6_1 1099511627776) t356 x8_1 true true) else (lexer_duration.l0 kj9 a0 (wrap64 (x5_1 + (wrap64 (t354 + (t355.size : Int))))) (mn x6_1 1099511627776) t356 x8_1 (decide (t356 ≤ x7_1)) true)) else ((lexer_length.f t355).bind fun t361 => (if x9_1 = true then (if x10_1 = true then (lexer_duration.l0 kj9 a0 (wrap64 (x5_1 + (wrap64 (t354 + (t355.size : Int))))) (mn (wrap64 (x6_1 + (wrap64 (t357 * t361)))) 1099511627776) t356 x8_1 true true) else (lexer_duration.l0 kj9 a0 (wrap64 (x5_1 + (wrap64 (t354 + (t355.size : Int))))) (mn (wrap64 (x6_1 + (wrap64 (t357 * t361)))) 1099511627776) t356 x8_1 true (decide ((wrap64 (x6_1 + (wrap64 (t357 * t361)))) > 1099511627776)))) else (if x10_1 = true then (lexer_duration.l0 kj9 a0 (wrap64 (x5_1 + (wrap64 (t354 + (t355.size : Int))))) (mn (wrap64 (x6_1 + (wrap64 (t357 * t361)))) 1099511627776) t356 x8_1 (decide (t356 ≤ x7_1)) true) else (lexer_duration.l0 kj9 a0 (wrap64 (x5_1 + (wrap64 (t354 + (t355.size : Int))))) (mn (wrap64 (x6_1 + (wrap64 (t357 * t361)))) 1099511627776) t356 x8_1 (decide (t356 ≤ x7_1)) (decide ((wrap64 (x6_1 + (wrap64 (t357 * t361)))) > 1099511627776))))))))) = some (r1, r2, r3, r4, r5, r6, r7) := by rw [if_pos (show (none : Option Int).isNone = true by rfl)] at H; exact H
               clear H
               have H := H1
               clear H1
               try simp only [errW_none, errW_some]
               replace H := Option.bind_eq_some_iff.mp H
               obtain ⟨t360, A400, H⟩ := H
               replace H : (if t360 = 0 then (none) else (if t357 > (wrap64 (Int.tdiv (1099511627776 : Int) t360)) then (if x9_1 = true then (lexer_duration.l0 kj9 a0 (wrap64 (x5_1 + (wrap64 (t354 + (t355.size : Int))))) (mn x6_1 1099511627776) t356 x8_1 true true) else (lexer_duration.l0 kj9 a0 (wrap64 (x5_1 + (wrap64 (t354 + (t355.size : Int))))) (mn x6_1 1099511627776) t356 x8_1 (decide (t356 ≤ x7_1)) true)) else ((lexer_length.f t355).bind fun t361 => (if x9_1 = true then (if x10_1 = true then (lexer_duration.l0 kj9 a0 (wrap64 (x5_1 + (wrap64 (t354 + (t355.size : Int))))) (mn (wrap64 (x6_1 + (wrap64 (t357 * t361)))) 1099511627776) t356 x8_1 true true) else (lexer_duration.l0 kj9 a0 (wrap64 (x5_1 + (wrap64 (t354 + (t355.size : Int))))) (mn (wrap64 (x6_1 + (wrap64 (t357 * t361)))) 1099511627776) t356 x8_1 true (decide ((wrap64 (x6_1 + (wrap64 (t357 * t361)))) > 1099511627776)))) else (if x10_1 = true then (lexer_duration.l0 kj9 a0 (wrap64 (x5_1 + (wrap64 (t354 + (t355.size : Int))))) (mn (wrap64 (x6_1 + (wrap64 (t357 * t361)))) 1099511627776) t356 x8_1 (decide (t356 ≤ x7_1)) true) else (lexer_duration.l0 kj9 a0 (wrap64 (x5_1 + (wrap64 (t354 + (t355.size : Int))))) (mn (wrap64 (x6_1 + (wrap64 (t357 * t361)))) 1099511627776) t356 x8_1 (decide (t356 ≤ x7_1)) (decide ((wrap64 (x6_1 + (wrap64 (t357 * t361)))) > 1099511627776)))))))) = some (r1, r2, r3, r4, r5, r6, r7) := H
               have A40 := Aside0.mk A400
               clear A400
               by_cases c41 : t360 = 0
               ·
                rw [if_pos c41] at H
                exact absurd H (by simp)
               ·
                rw [if_neg c41] at H
                have c41b0 : (t360 == 0) = false := beq_eq_false_iff_ne.mpr c41
                have c41b1 : (t360 != 0) = true := bne_iff_ne.mpr c41
                by_cases c42 : t357 > (wrap64 (Int.tdiv (1099511627776 : Int) t360))
                ·
                 rw [if_pos c42] at H
                 have c42b0 : decide ((wrap64 (Int.tdiv (1099511627776 : Int) t360)) < t357) = true := decide_eq_true c42
                 clear c42
                 by_cases c43 : x9_1 = true
                 ·
                  subst c43
                  have H1 : (lexer_duration.l0 kj9 a0 (wrap64 (x5_1 + (wrap64 (t354 + (t355.size : Int))))) (mn x6_1 1099511627776) t356 x8_1 true true) = some (r1, r2, r3, r4, r5, r6, r7) := by rw [if_pos rfl] at H; exact H
                  clear H
                  have H := H1
                  clear H1
                  obtain ⟨ji44, hji44⟩ : ∃ j_ : Int, (mn x6_1 1099511627776) = j_ := ⟨_, rfl⟩
                  replace H : (lexer_duration.l0 kj9 a0 (wrap64 (x5_1 + (wrap64 (t354 + (t355.size : Int))))) ji44 t356 x8_1 true true) = some (r1, r2, r3, r4, r5, r6, r7) := by first | (rw [hji44] at H; exact H) | (simp only [hji44] at H ⊢; exact H)
                  (try rw [hji44] at A39)
                  (try rw [hji44] at A40)
                  have hji44_ : (if 1099511627776 < x6_1 then 1099511627776 else x6_1) = ji44 := hji44
                  have H' := Aside0.mk H
                  clear H
                  go_wp2_with (first | ((with_reducible refine gate_callee (f := 100) rfl ?_); refine goesL_ (some 44) rfl rfl Tryz.func100 (by kernel_rfl) rfl #[.string (a0.extract (x5_1 : Int).toNat ((wrap64 (x5_1 + t354)) : Int).toNat)] rfl (by (try simp only [List.map_toArray, List.map_cons, List.map_nil]); first | done | rfl | (simp only [List.length_drop, List.length_take]; rfl)) ?_; (with_reducible refine (strconv_Atoi.calls (a0.extract (x5_1 : Int).toNat ((wrap64 (x5_1 + t354)) : Int).toNat) t357 none _ ?side1 A39.out).mono ?_); (case side1 => exact Tabs.below HT.out (by repeat (first | (with_reducible first | exact HB.out | apply below_alloc | apply pw_below_drewN | apply below_drew1 | refine below_set ?_ GE353.out) | exact HB.out))); rintro e w45 ⟨rfl, hb⟩; refine ⟨_, rfl, ?_⟩; have n0_ := Aside0.mk (blk_below (g := gb353) (o := .cells #[.int .i64 0, .string (⟨#[]⟩ : ByteArray), .int .i64 0, .int .i64 0, .int .i64 0] 29 (0, 0)) (by (with_reducible repeat (first | refine blk_drewN ?_ _ | refine blk_drew ?_ | refine blk_alloc ?_ _)); exact BK353.out) hb); have n1_ := Aside0.mk (below_step (by repeat (first | (with_reducible first | exact HB.out | apply below_alloc | apply pw_below_drewN | apply below_drew1 | refine below_set ?_ GE353.out) | exact HB.out)) hb); clear BK353; clear HB; have BK353 := n0_; have HB := n1_; clear n0_ n1_; (try clear hb); (try clear hb2); (try clear hk); (try clear hi); (try simp only [errW_none, errW_some])) | (go_at_call 31; (with_reducible refine (lexer_length.calls t355 t360 _ A40.out).mono ?_); rintro e w' ⟨rfl, ⟨nd, rfl⟩⟩))
                  go_roundg kj9
                  case measure => have := HK1.out; have := HJ9.out; omega
                  case rel => exact ⟨(wrap64 (x5_1 + (wrap64 (t354 + (t355.size : Int))))), (ji44), (t356), (x8_1), (true), (true), (by first | rfl | (simp; done) | (simp [*]; done)), (by first | rfl | (simp; done) | (simp only [← hji44] <;> (first | rfl | simp)) | (simp [*]; done)), (by first | rfl | (simp; done) | (simp [*]; done)), (by first | rfl | (simp; done) | (simp [*]; done)), (by first | rfl | (simp; done) | (simp [*]; done)), (by first | rfl | (simp; done) | (simp [*]; done)), H', ⟨by have := HK1.out; have := HJ9.out; omega⟩, ⟨by (with_reducible repeat (first | refine blk_drewN ?_ _ | refine blk_drew ?_ | refine blk_alloc ?_ _)); exact BK353.out⟩, ⟨by repeat (first | (with_reducible first | exact HB.out | apply below_alloc | apply pw_below_drewN | apply below_drew1 | refine below_set ?_ GE353.out) | exact HB.out)⟩⟩
                 ·
                  replace c43 := Bool.eq_false_iff.mpr c43
                  subst c43
                  have H1 : (lexer_duration.l0 kj9 a0 (wrap64 (x5_1 + (wrap64 (t354 + (t355.size : Int))))) (mn x6_1 1099511627776) t356 x8_1 (decide (t356 ≤ x7_1)) true) = some (r1, r2, r3, r4, r5, r6, r7) := by rw [if_neg (show ¬ (false = true) by decide)] at H; exact H
                  clear H
                  have H := H1
                  clear H1
                  obtain ⟨ji46, hji46⟩ : ∃ j_ : Int, (mn x6_1 1099511627776) = j_ := ⟨_, rfl⟩
                  replace H : (lexer_duration.l0 kj9 a0 (wrap64 (x5_1 + (wrap64 (t354 + (t355.size : Int))))) ji46 t356 x8_1 (decide (t356 ≤ x7_1)) true) = some (r1, r2, r3, r4, r5, r6, r7) := by first | (rw [hji46] at H; exact H) | (simp only [hji46] at H ⊢; exact H)
                  (try rw [hji46] at A39)
                  (try rw [hji46] at A40)
                  have hji46_ : (if 1099511627776 < x6_1 then 1099511627776 else x6_1) = ji46 := hji46
                  have H' := Aside0.mk H
                  clear H
                  go_wp2_with (first | ((with_reducible refine gate_callee (f := 100) rfl ?_); refine goesL_ (some 44) rfl rfl Tryz.func100 (by kernel_rfl) rfl #[.string (a0.extract (x5_1 : Int).toNat ((wrap64 (x5_1 + t354)) : Int).toNat)] rfl (by (try simp only [List.map_toArray, List.map_cons, List.map_nil]); first | done | rfl | (simp only [List.length_drop, List.length_take]; rfl)) ?_; (with_reducible refine (strconv_Atoi.calls (a0.extract (x5_1 : Int).toNat ((wrap64 (x5_1 + t354)) : Int).toNat) t357 none _ ?side1 A39.out).mono ?_); (case side1 => exact Tabs.below HT.out (by repeat (first | (with_reducible first | exact HB.out | apply below_alloc | apply pw_below_drewN | apply below_drew1 | refine below_set ?_ GE353.out) | exact HB.out))); rintro e w47 ⟨rfl, hb⟩; refine ⟨_, rfl, ?_⟩; have n0_ := Aside0.mk (blk_below (g := gb353) (o := .cells #[.int .i64 0, .string (⟨#[]⟩ : ByteArray), .int .i64 0, .int .i64 0, .int .i64 0] 29 (0, 0)) (by (with_reducible repeat (first | refine blk_drewN ?_ _ | refine blk_drew ?_ | refine blk_alloc ?_ _)); exact BK353.out) hb); have n1_ := Aside0.mk (below_step (by repeat (first | (with_reducible first | exact HB.out | apply below_alloc | apply pw_below_drewN | apply below_drew1 | refine below_set ?_ GE353.out) | exact HB.out)) hb); clear BK353; clear HB; have BK353 := n0_; have HB := n1_; clear n0_ n1_; (try clear hb); (try clear hb2); (try clear hk); (try clear hi); (try simp only [errW_none, errW_some])) | (go_at_call 31; (with_reducible refine (lexer_length.calls t355 t360 _ A40.out).mono ?_); rintro e w' ⟨rfl, ⟨nd, rfl⟩⟩))
                  go_roundg kj9
                  case measure => have := HK1.out; have := HJ9.out; omega
                  case rel => exact ⟨(wrap64 (x5_1 + (wrap64 (t354 + (t355.size : Int))))), (ji46), (t356), (x8_1), (decide (t356 ≤ x7_1)), (true), (by first | rfl | (simp; done) | (simp [*]; done)), (by first | rfl | (simp; done) | (simp only [← hji46] <;> (first | rfl | simp)) | (simp [*]; done)), (by first | rfl | (simp; done) | (simp [*]; done)), (by first | rfl | (simp; done) | (simp [*]; done)), (by first | rfl | (simp; done) | (simp [*]; done)), (by first | rfl | (simp; done) | (simp [*]; done)), H', ⟨by have := HK1.out; have := HJ9.out; omega⟩, ⟨by (with_reducible repeat (first | refine blk_drewN ?_ _ | refine blk_drew ?_ | refine blk_alloc ?_ _)); exact BK353.out⟩, ⟨by repeat (first | (with_reducible first | exact HB.out | apply below_alloc | apply pw_below_drewN | apply below_drew1 | refine below_set ?_ GE353.out) | exact HB.out)⟩⟩
                ·
                 rw [if_neg c42] at H
                 have c42b0 : decide ((wrap64 (Int.tdiv (1099511627776 : Int) t360)) < t357) = false := decide_eq_false c42
                 clear c42
                 replace H := Option.bind_eq_some_iff.mp H
                 obtain ⟨t361, A480, H⟩ := H
                 replace H : (if x9_1 = true then (if x10_1 = true then (lexer_duration.l0 kj9 a0 (wrap64 (x5_1 + (wrap64 (t354 + (t355.size : Int))))) (mn (wrap64 (x6_1 + (wrap64 (t357 * t361)))) 1099511627776) t356 x8_1 true true) else (lexer_duration.l0 kj9 a0 (wrap64 (x5_1 + (wrap64 (t354 + (t355.size : Int))))) (mn (wrap64 (x6_1 + (wrap64 (t357 * t361)))) 1099511627776) t356 x8_1 true (decide ((wrap64 (x6_1 + (wrap64 (t357 * t361)))) > 1099511627776)))) else (if x10_1 = true then (lexer_duration.l0 kj9 a0 (wrap64 (x5_1 + (wrap64 (t354 + (t355.size : Int))))) (mn (wrap64 (x6_1 + (wrap64 (t357 * t361)))) 1099511627776) t356 x8_1 (decide (t356 ≤ x7_1)) true) else (lexer_duration.l0 kj9 a0 (wrap64 (x5_1 + (wrap64 (t354 + (t355.size : Int))))) (mn (wrap64 (x6_1 + (wrap64 (t357 * t361)))) 1099511627776) t356 x8_1 (decide (t356 ≤ x7_1)) (decide ((wrap64 (x6_1 + (wrap64 (t357 * t361)))) > 1099511627776))))) = some (r1, r2, r3, r4, r5, r6, r7) := H
                 have A48 := Aside0.mk A480
                 clear A480
                 by_cases c49 : x9_1 = true
                 ·
                  subst c49
                  have H1 : (if x10_1 = true then (lexer_duration.l0 kj9 a0 (wrap64 (x5_1 + (wrap64 (t354 + (t355.size : Int))))) (mn (wrap64 (x6_1 + (wrap64 (t357 * t361)))) 1099511627776) t356 x8_1 true true) else (lexer_duration.l0 kj9 a0 (wrap64 (x5_1 + (wrap64 (t354 + (t355.size : Int))))) (mn (wrap64 (x6_1 + (wrap64 (t357 * t361)))) 1099511627776) t356 x8_1 true (decide ((wrap64 (x6_1 + (wrap64 (t357 * t361)))) > 1099511627776)))) = some (r1, r2, r3, r4, r5, r6, r7) := by rw [if_pos rfl] at H; exact H
                  clear H
                  have H := H1
                  clear H1
                  by_cases c50 : x10_1 = true
                  ·
                   subst c50
                   have H1 : (lexer_duration.l0 kj9 a0 (wrap64 (x5_1 + (wrap64 (t354 + (t355.size : Int))))) (mn (wrap64 (x6_1 + (wrap64 (t357 * t361)))) 1099511627776) t356 x8_1 true true) = some (r1, r2, r3, r4, r5, r6, r7) := by rw [if_pos rfl] at H; exact H
                   clear H
                   have H := H1
                   clear H1
                   obtain ⟨ji51, hji51⟩ : ∃ j_ : Int, (mn (wrap64 (x6_1 + (wrap64 (t357 * t361)))) 1099511627776) = j_ := ⟨_, rfl⟩
                   replace H : (lexer_duration.l0 kj9 a0 (wrap64 (x5_1 + (wrap64 (t354 + (t355.size : Int))))) ji51 t356 x8_1 true true) = some (r1, r2, r3, r4, r5, r6, r7) := by first | (rw [hji51] at H; exact H) | (simp only [hji51] at H ⊢; exact H)
                   (try rw [hji51] at A39)
                   (try rw [hji51] at A40)
                   (try rw [hji51] at A48)
                   have hji51_ : (if 1099511627776 < (wrap64 (x6_1 + (wrap64 (t357 * t361)))) then 1099511627776 else (wrap64 (x6_1 + (wrap64 (t357 * t361))))) = ji51 := hji51
                   have H' := Aside0.mk H
                   clear H
                   go_wp2_with (first | ((with_reducible refine gate_callee (f := 100) rfl ?_); refine goesL_ (some 44) rfl rfl Tryz.func100 (by kernel_rfl) rfl #[.string (a0.extract (x5_1 : Int).toNat ((wrap64 (x5_1 + t354)) : Int).toNat)] rfl (by (try simp only [List.map_toArray, List.map_cons, List.map_nil]); first | done | rfl | (simp only [List.length_drop, List.length_take]; rfl)) ?_; (with_reducible refine (strconv_Atoi.calls (a0.extract (x5_1 : Int).toNat ((wrap64 (x5_1 + t354)) : Int).toNat) t357 none _ ?side1 A39.out).mono ?_); (case side1 => exact Tabs.below HT.out (by repeat (first | (with_reducible first | exact HB.out | apply below_alloc | apply pw_below_drewN | apply below_drew1 | refine below_set ?_ GE353.out) | exact HB.out))); rintro e w52 ⟨rfl, hb⟩; refine ⟨_, rfl, ?_⟩; have n0_ := Aside0.mk (blk_below (g := gb353) (o := .cells #[.int .i64 0, .string (⟨#[]⟩ : ByteArray), .int .i64 0, .int .i64 0, .int .i64 0] 29 (0, 0)) (by (with_reducible repeat (first | refine blk_drewN ?_ _ | refine blk_drew ?_ | refine blk_alloc ?_ _)); exact BK353.out) hb); have n1_ := Aside0.mk (below_step (by repeat (first | (with_reducible first | exact HB.out | apply below_alloc | apply pw_below_drewN | apply below_drew1 | refine below_set ?_ GE353.out) | exact HB.out)) hb); clear BK353; clear HB; have BK353 := n0_; have HB := n1_; clear n0_ n1_; (try clear hb); (try clear hb2); (try clear hk); (try clear hi); (try simp only [errW_none, errW_some])) | (go_at_call 31; (with_reducible refine (lexer_length.calls t355 t360 _ A40.out).mono ?_); rintro e w' ⟨rfl, ⟨nd, rfl⟩⟩) | ((with_reducible refine gate_callee (f := 31) rfl ?_); refine goesL_ (some 59) rfl rfl Tryz.func31 (by kernel_rfl) rfl #[.string t355] rfl (by (try simp only [List.map_toArray, List.map_cons, List.map_nil]); first | done | rfl | (simp only [List.length_drop, List.length_take]; rfl)) ?_; (with_reducible refine (lexer_length.calls t355 t361 _ A48.out).mono ?_); rintro e w' ⟨rfl, ⟨nd, rfl⟩⟩; refine ⟨_, rfl, ?_⟩))
                   go_roundg kj9
                   case measure => have := HK1.out; have := HJ9.out; omega
                   case rel => exact ⟨(wrap64 (x5_1 + (wrap64 (t354 + (t355.size : Int))))), (ji51), (t356), (x8_1), (true), (true), (by first | rfl | (simp; done) | (simp [*]; done)), (by first | rfl | (simp; done) | (simp only [← hji51] <;> (first | rfl | simp)) | (simp [*]; done)), (by first | rfl | (simp; done) | (simp [*]; done)), (by first | rfl | (simp; done) | (simp [*]; done)), (by first | rfl | (simp; done) | (simp [*]; done)), (by first | rfl | (simp; done) | (simp [*]; done)), H', ⟨by have := HK1.out; have := HJ9.out; omega⟩, ⟨by (with_reducible repeat (first | refine blk_drewN ?_ _ | refine blk_drew ?_ | refine blk_alloc ?_ _)); exact BK353.out⟩, ⟨by repeat (first | (with_reducible first | exact HB.out | apply below_alloc | apply pw_below_drewN | apply below_drew1 | refine below_set ?_ GE353.out) | exact HB.out)⟩⟩
                  ·
                   replace c50 := Bool.eq_false_iff.mpr c50
                   subst c50
                   have H1 : (lexer_duration.l0 kj9 a0 (wrap64 (x5_1 + (wrap64 (t354 + (t355.size : Int))))) (mn (wrap64 (x6_1 + (wrap64 (t357 * t361)))) 1099511627776) t356 x8_1 true (decide ((wrap64 (x6_1 + (wrap64 (t357 * t361)))) > 1099511627776))) = some (r1, r2, r3, r4, r5, r6, r7) := by rw [if_neg (show ¬ (false = true) by decide)] at H; exact H
                   clear H
                   have H := H1
                   clear H1
                   obtain ⟨ji53, hji53⟩ : ∃ j_ : Int, (mn (wrap64 (x6_1 + (wrap64 (t357 * t361)))) 1099511627776) = j_ := ⟨_, rfl⟩
                   replace H : (lexer_duration.l0 kj9 a0 (wrap64 (x5_1 + (wrap64 (t354 + (t355.size : Int))))) ji53 t356 x8_1 true (decide ((wrap64 (x6_1 + (wrap64 (t357 * t361)))) > 1099511627776))) = some (r1, r2, r3, r4, r5, r6, r7) := by first | (rw [hji53] at H; exact H) | (simp only [hji53] at H ⊢; exact H)
                   (try rw [hji53] at A39)
                   (try rw [hji53] at A40)
                   (try rw [hji53] at A48)
                   have hji53_ : (if 1099511627776 < (wrap64 (x6_1 + (wrap64 (t357 * t361)))) then 1099511627776 else (wrap64 (x6_1 + (wrap64 (t357 * t361))))) = ji53 := hji53
                   have H' := Aside0.mk H
                   clear H
                   go_wp2_with (first | ((with_reducible refine gate_callee (f := 100) rfl ?_); refine goesL_ (some 44) rfl rfl Tryz.func100 (by kernel_rfl) rfl #[.string (a0.extract (x5_1 : Int).toNat ((wrap64 (x5_1 + t354)) : Int).toNat)] rfl (by (try simp only [List.map_toArray, List.map_cons, List.map_nil]); first | done | rfl | (simp only [List.length_drop, List.length_take]; rfl)) ?_; (with_reducible refine (strconv_Atoi.calls (a0.extract (x5_1 : Int).toNat ((wrap64 (x5_1 + t354)) : Int).toNat) t357 none _ ?side1 A39.out).mono ?_); (case side1 => exact Tabs.below HT.out (by repeat (first | (with_reducible first | exact HB.out | apply below_alloc | apply pw_below_drewN | apply below_drew1 | refine below_set ?_ GE353.out) | exact HB.out))); rintro e w54 ⟨rfl, hb⟩; refine ⟨_, rfl, ?_⟩; have n0_ := Aside0.mk (blk_below (g := gb353) (o := .cells #[.int .i64 0, .string (⟨#[]⟩ : ByteArray), .int .i64 0, .int .i64 0, .int .i64 0] 29 (0, 0)) (by (with_reducible repeat (first | refine blk_drewN ?_ _ | refine blk_drew ?_ | refine blk_alloc ?_ _)); exact BK353.out) hb); have n1_ := Aside0.mk (below_step (by repeat (first | (with_reducible first | exact HB.out | apply below_alloc | apply pw_below_drewN | apply below_drew1 | refine below_set ?_ GE353.out) | exact HB.out)) hb); clear BK353; clear HB; have BK353 := n0_; have HB := n1_; clear n0_ n1_; (try clear hb); (try clear hb2); (try clear hk); (try clear hi); (try simp only [errW_none, errW_some])) | (go_at_call 31; (with_reducible refine (lexer_length.calls t355 t360 _ A40.out).mono ?_); rintro e w' ⟨rfl, ⟨nd, rfl⟩⟩) | ((with_reducible refine gate_callee (f := 31) rfl ?_); refine goesL_ (some 59) rfl rfl Tryz.func31 (by kernel_rfl) rfl #[.string t355] rfl (by (try simp only [List.map_toArray, List.map_cons, List.map_nil]); first | done | rfl | (simp only [List.length_drop, List.length_take]; rfl)) ?_; (with_reducible refine (lexer_length.calls t355 t361 _ A48.out).mono ?_); rintro e w' ⟨rfl, ⟨nd, rfl⟩⟩; refine ⟨_, rfl, ?_⟩))
                   go_roundg kj9
                   case measure => have := HK1.out; have := HJ9.out; omega
                   case rel => exact ⟨(wrap64 (x5_1 + (wrap64 (t354 + (t355.size : Int))))), (ji53), (t356), (x8_1), (true), (decide ((wrap64 (x6_1 + (wrap64 (t357 * t361)))) > 1099511627776)), (by first | rfl | (simp; done) | (simp [*]; done)), (by first | rfl | (simp; done) | (simp only [← hji53] <;> (first | rfl | simp)) | (simp [*]; done)), (by first | rfl | (simp; done) | (simp [*]; done)), (by first | rfl | (simp; done) | (simp [*]; done)), (by first | rfl | (simp; done) | (simp [*]; done)), (by first | rfl | (simp; done) | (simp [*]; done)), H', ⟨by have := HK1.out; have := HJ9.out; omega⟩, ⟨by (with_reducible repeat (first | refine blk_drewN ?_ _ | refine blk_drew ?_ | refine blk_alloc ?_ _)); exact BK353.out⟩, ⟨by repeat (first | (with_reducible first | exact HB.out | apply below_alloc | apply pw_below_drewN | apply below_drew1 | refine below_set ?_ GE353.out) | exact HB.out)⟩⟩
                 ·
                  replace c49 := Bool.eq_false_iff.mpr c49
                  subst c49
                  have H1 : (if x10_1 = true then (lexer_duration.l0 kj9 a0 (wrap64 (x5_1 + (wrap64 (t354 + (t355.size : Int))))) (mn (wrap64 (x6_1 + (wrap64 (t357 * t361)))) 1099511627776) t356 x8_1 (decide (t356 ≤ x7_1)) true) else (lexer_duration.l0 kj9 a0 (wrap64 (x5_1 + (wrap64 (t354 + (t355.size : Int))))) (mn (wrap64 (x6_1 + (wrap64 (t357 * t361)))) 1099511627776) t356 x8_1 (decide (t356 ≤ x7_1)) (decide ((wrap64 (x6_1 + (wrap64 (t357 * t361)))) > 1099511627776)))) = some (r1, r2, r3, r4, r5, r6, r7) := by rw [if_neg (show ¬ (false = true) by decide)] at H; exact H
                  clear H
                  have H := H1
                  clear H1
                  by_cases c55 : x10_1 = true
                  ·
                   subst c55
                   have H1 : (lexer_duration.l0 kj9 a0 (wrap64 (x5_1 + (wrap64 (t354 + (t355.size : Int))))) (mn (wrap64 (x6_1 + (wrap64 (t357 * t361)))) 1099511627776) t356 x8_1 (decide (t356 ≤ x7_1)) true) = some (r1, r2, r3, r4, r5, r6, r7) := by rw [if_pos rfl] at H; exact H
                   clear H
                   have H := H1
                   clear H1
                   obtain ⟨ji56, hji56⟩ : ∃ j_ : Int, (mn (wrap64 (x6_1 + (wrap64 (t357 * t361)))) 1099511627776) = j_ := ⟨_, rfl⟩
                   replace H : (lexer_duration.l0 kj9 a0 (wrap64 (x5_1 + (wrap64 (t354 + (t355.size : Int))))) ji56 t356 x8_1 (decide (t356 ≤ x7_1)) true) = some (r1, r2, r3, r4, r5, r6, r7) := by first | (rw [hji56] at H; exact H) | (simp only [hji56] at H ⊢; exact H)
                   (try rw [hji56] at A39)
                   (try rw [hji56] at A40)
                   (try rw [hji56] at A48)
                   have hji56_ : (if 1099511627776 < (wrap64 (x6_1 + (wrap64 (t357 * t361)))) then 1099511627776 else (wrap64 (x6_1 + (wrap64 (t357 * t361))))) = ji56 := hji56
                   have H' := Aside0.mk H
                   clear H
                   go_wp2_with (first | ((with_reducible refine gate_callee (f := 100) rfl ?_); refine goesL_ (some 44) rfl rfl Tryz.func100 (by kernel_rfl) rfl #[.string (a0.extract (x5_1 : Int).toNat ((wrap64 (x5_1 + t354)) : Int).toNat)] rfl (by (try simp only [List.map_toArray, List.map_cons, List.map_nil]); first | done | rfl | (simp only [List.length_drop, List.length_take]; rfl)) ?_; (with_reducible refine (strconv_Atoi.calls (a0.extract (x5_1 : Int).toNat ((wrap64 (x5_1 + t354)) : Int).toNat) t357 none _ ?side1 A39.out).mono ?_); (case side1 => exact Tabs.below HT.out (by repeat (first | (with_reducible first | exact HB.out | apply below_alloc | apply pw_below_drewN | apply below_drew1 | refine below_set ?_ GE353.out) | exact HB.out))); rintro e w57 ⟨rfl, hb⟩; refine ⟨_, rfl, ?_⟩; have n0_ := Aside0.mk (blk_below (g := gb353) (o := .cells #[.int .i64 0, .string (⟨#[]⟩ : ByteArray), .int .i64 0, .int .i64 0, .int .i64 0] 29 (0, 0)) (by (with_reducible repeat (first | refine blk_drewN ?_ _ | refine blk_drew ?_ | refine blk_alloc ?_ _)); exact BK353.out) hb); have n1_ := Aside0.mk (below_step (by repeat (first | (with_reducible first | exact HB.out | apply below_alloc | apply pw_below_drewN | apply below_drew1 | refine below_set ?_ GE353.out) | exact HB.out)) hb); clear BK353; clear HB; have BK353 := n0_; have HB := n1_; clear n0_ n1_; (try clear hb); (try clear hb2); (try clear hk); (try clear hi); (try simp only [errW_none, errW_some])) | (go_at_call 31; (with_reducible refine (lexer_length.calls t355 t360 _ A40.out).mono ?_); rintro e w' ⟨rfl, ⟨nd, rfl⟩⟩) | ((with_reducible refine gate_callee (f := 31) rfl ?_); refine goesL_ (some 59) rfl rfl Tryz.func31 (by kernel_rfl) rfl #[.string t355] rfl (by (try simp only [List.map_toArray, List.map_cons, List.map_nil]); first | done | rfl | (simp only [List.length_drop, List.length_take]; rfl)) ?_; (with_reducible refine (lexer_length.calls t355 t361 _ A48.out).mono ?_); rintro e w' ⟨rfl, ⟨nd, rfl⟩⟩; refine ⟨_, rfl, ?_⟩))
                   go_roundg kj9
                   case measure => have := HK1.out; have := HJ9.out; omega
                   case rel => exact ⟨(wrap64 (x5_1 + (wrap64 (t354 + (t355.size : Int))))), (ji56), (t356), (x8_1), (decide (t356 ≤ x7_1)), (true), (by first | rfl | (simp; done) | (simp [*]; done)), (by first | rfl | (simp; done) | (simp only [← hji56] <;> (first | rfl | simp)) | (simp [*]; done)), (by first | rfl | (simp; done) | (simp [*]; done)), (by first | rfl | (simp; done) | (simp [*]; done)), (by first | rfl | (simp; done) | (simp [*]; done)), (by first | rfl | (simp; done) | (simp [*]; done)), H', ⟨by have := HK1.out; have := HJ9.out; omega⟩, ⟨by (with_reducible repeat (first | refine blk_drewN ?_ _ | refine blk_drew ?_ | refine blk_alloc ?_ _)); exact BK353.out⟩, ⟨by repeat (first | (with_reducible first | exact HB.out | apply below_alloc | apply pw_below_drewN | apply below_drew1 | refine below_set ?_ GE353.out) | exact HB.out)⟩⟩
                  ·
                   replace c55 := Bool.eq_false_iff.mpr c55
                   subst c55
                   have H1 : (lexer_duration.l0 kj9 a0 (wrap64 (x5_1 + (wrap64 (t354 + (t355.size : Int))))) (mn (wrap64 (x6_1 + (wrap64 (t357 * t361)))) 1099511627776) t356 x8_1 (decide (t356 ≤ x7_1)) (decide ((wrap64 (x6_1 + (wrap64 (t357 * t361)))) > 1099511627776))) = some (r1, r2, r3, r4, r5, r6, r7) := by rw [if_neg (show ¬ (false = true) by decide)] at H; exact H
                   clear H
                   have H := H1
                   clear H1
                   obtain ⟨ji58, hji58⟩ : ∃ j_ : Int, (mn (wrap64 (x6_1 + (wrap64 (t357 * t361)))) 1099511627776) = j_ := ⟨_, rfl⟩
                   replace H : (lexer_duration.l0 kj9 a0 (wrap64 (x5_1 + (wrap64 (t354 + (t355.size : Int))))) ji58 t356 x8_1 (decide (t356 ≤ x7_1)) (decide ((wrap64 (x6_1 + (wrap64 (t357 * t361)))) > 1099511627776))) = some (r1, r2, r3, r4, r5, r6, r7) := by first | (rw [hji58] at H; exact H) | (simp only [hji58] at H ⊢; exact H)
                   (try rw [hji58] at A39)
                   (try rw [hji58] at A40)
                   (try rw [hji58] at A48)
                   have hji58_ : (if 1099511627776 < (wrap64 (x6_1 + (wrap64 (t357 * t361)))) then 1099511627776 else (wrap64 (x6_1 + (wrap64 (t357 * t361))))) = ji58 := hji58
                   have H' := Aside0.mk H
                   clear H
                   go_wp2_with (first | ((with_reducible refine gate_callee (f := 100) rfl ?_); refine goesL_ (some 44) rfl rfl Tryz.func100 (by kernel_rfl) rfl #[.string (a0.extract (x5_1 : Int).toNat ((wrap64 (x5_1 + t354)) : Int).toNat)] rfl (by (try simp only [List.map_toArray, List.map_cons, List.map_nil]); first | done | rfl | (simp only [List.length_drop, List.length_take]; rfl)) ?_; (with_reducible refine (strconv_Atoi.calls (a0.extract (x5_1 : Int).toNat ((wrap64 (x5_1 + t354)) : Int).toNat) t357 none _ ?side1 A39.out).mono ?_); (case side1 => exact Tabs.below HT.out (by repeat (first | (with_reducible first | exact HB.out | apply below_alloc | apply pw_below_drewN | apply below_drew1 | refine below_set ?_ GE353.out) | exact HB.out))); rintro e w59 ⟨rfl, hb⟩; refine ⟨_, rfl, ?_⟩; have n0_ := Aside0.mk (blk_below (g := gb353) (o := .cells #[.int .i64 0, .string (⟨#[]⟩ : ByteArray), .int .i64 0, .int .i64 0, .int .i64 0] 29 (0, 0)) (by (with_reducible repeat (first | refine blk_drewN ?_ _ | refine blk_drew ?_ | refine blk_alloc ?_ _)); exact BK353.out) hb); have n1_ := Aside0.mk (below_step (by repeat (first | (with_reducible first | exact HB.out | apply below_alloc | apply pw_below_drewN | apply below_drew1 | refine below_set ?_ GE353.out) | exact HB.out)) hb); clear BK353; clear HB; have BK353 := n0_; have HB := n1_; clear n0_ n1_; (try clear hb); (try clear hb2); (try clear hk); (try clear hi); (try simp only [errW_none, errW_some])) | (go_at_call 31; (with_reducible refine (lexer_length.calls t355 t360 _ A40.out).mono ?_); rintro e w' ⟨rfl, ⟨nd, rfl⟩⟩) | ((with_reducible refine gate_callee (f := 31) rfl ?_); refine goesL_ (some 59) rfl rfl Tryz.func31 (by kernel_rfl) rfl #[.string t355] rfl (by (try simp only [List.map_toArray, List.map_cons, List.map_nil]); first | done | rfl | (simp only [List.length_drop, List.length_take]; rfl)) ?_; (with_reducible refine (lexer_length.calls t355 t361 _ A48.out).mono ?_); rintro e w' ⟨rfl, ⟨nd, rfl⟩⟩; refine ⟨_, rfl, ?_⟩))
                   go_roundg kj9
                   case measure => have := HK1.out; have := HJ9.out; omega
                   case rel => exact ⟨(wrap64 (x5_1 + (wrap64 (t354 + (t355.size : Int))))), (ji58), (t356), (x8_1), (decide (t356 ≤ x7_1)), (decide ((wrap64 (x6_1 + (wrap64 (t357 * t361)))) > 1099511627776)), (by first | rfl | (simp; done) | (simp [*]; done)), (by first | rfl | (simp; done) | (simp only [← hji58] <;> (first | rfl | simp)) | (simp [*]; done)), (by first | rfl | (simp; done) | (simp [*]; done)), (by first | rfl | (simp; done) | (simp [*]; done)), (by first | rfl | (simp; done) | (simp [*]; done)), (by first | rfl | (simp; done) | (simp [*]; done)), H', ⟨by have := HK1.out; have := HJ9.out; omega⟩, ⟨by (with_reducible repeat (first | refine blk_drewN ?_ _ | refine blk_drew ?_ | refine blk_alloc ?_ _)); exact BK353.out⟩, ⟨by repeat (first | (with_reducible first | exact HB.out | apply below_alloc | apply pw_below_drewN | apply below_drew1 | refine below_set ?_ GE353.out) | exact HB.out)⟩⟩
              ·
               have H1 : (if x9_1 = true then (lexer_duration.l0 kj9 a0 (wrap64 (x5_1 + (wrap64 (t354 + (t355.size : Int))))) (mn x6_1 1099511627776) t356 x8_1 true true) else (lexer_duration.l0 kj9 a0 (wrap64 (x5_1 + (wrap64 (t354 + (t355.size : Int))))) (mn x6_1 1099511627776) t356 x8_1 (decide (t356 ≤ x7_1)) true)) = some (r1, r2, r3, r4, r5, r6, r7) := by rw [if_neg (show ¬ (some q359).isNone = true by simp)] at H; exact H
               clear H
               have H := H1
               clear H1
               try simp only [errW_none, errW_some]
               by_cases c60 : x9_1 = true
               ·
                subst c60
                have H1 : (lexer_duration.l0 kj9 a0 (wrap64 (x5_1 + (wrap64 (t354 + (t355.size : Int))))) (mn x6_1 1099511627776) t356 x8_1 true true) = some (r1, r2, r3, r4, r5, r6, r7) := by rw [if_pos rfl] at H; exact H
                clear H
                have H := H1
                clear H1
                obtain ⟨ji61, hji61⟩ : ∃ j_ : Int, (mn x6_1 1099511627776) = j_ := ⟨_, rfl⟩
                replace H : (lexer_duration.l0 kj9 a0 (wrap64 (x5_1 + (wrap64 (t354 + (t355.size : Int))))) ji61 t356 x8_1 true true) = some (r1, r2, r3, r4, r5, r6, r7) := by first | (rw [hji61] at H; exact H) | (simp only [hji61] at H ⊢; exact H)
                (try rw [hji61] at A39)
                have hji61_ : (if 1099511627776 < x6_1 then 1099511627776 else x6_1) = ji61 := hji61
                have H' := Aside0.mk H
                clear H
                go_wp2_with (first | ((with_reducible refine gate_callee (f := 100) rfl ?_); refine goesL_ (some 44) rfl rfl Tryz.func100 (by kernel_rfl) rfl #[.string (a0.extract (x5_1 : Int).toNat ((wrap64 (x5_1 + t354)) : Int).toNat)] rfl (by (try simp only [List.map_toArray, List.map_cons, List.map_nil]); first | done | rfl | (simp only [List.length_drop, List.length_take]; rfl)) ?_; (with_reducible refine (strconv_Atoi.calls (a0.extract (x5_1 : Int).toNat ((wrap64 (x5_1 + t354)) : Int).toNat) t357 (some q359) _ ?side1 A39.out).mono ?_); (case side1 => exact Tabs.below HT.out (by repeat (first | (with_reducible first | exact HB.out | apply below_alloc | apply pw_below_drewN | apply below_drew1 | refine below_set ?_ GE353.out) | exact HB.out))); rintro e w62 ⟨rfl, hb⟩; refine ⟨_, rfl, ?_⟩; have n0_ := Aside0.mk (blk_below (g := gb353) (o := .cells #[.int .i64 0, .string (⟨#[]⟩ : ByteArray), .int .i64 0, .int .i64 0, .int .i64 0] 29 (0, 0)) (by (with_reducible repeat (first | refine blk_drewN ?_ _ | refine blk_drew ?_ | refine blk_alloc ?_ _)); exact BK353.out) hb); have n1_ := Aside0.mk (below_step (by repeat (first | (with_reducible first | exact HB.out | apply below_alloc | apply pw_below_drewN | apply below_drew1 | refine below_set ?_ GE353.out) | exact HB.out)) hb); clear BK353; clear HB; have BK353 := n0_; have HB := n1_; clear n0_ n1_; (try clear hb); (try clear hb2); (try clear hk); (try clear hi); (try simp only [errW_none, errW_some])))
                go_roundg kj9
                case measure => have := HK1.out; have := HJ9.out; omega
                case rel => exact ⟨(wrap64 (x5_1 + (wrap64 (t354 + (t355.size : Int))))), (ji61), (t356), (x8_1), (true), (true), (by first | rfl | (simp; done) | (simp [*]; done)), (by first | rfl | (simp; done) | (simp only [← hji61] <;> (first | rfl | simp)) | (simp [*]; done)), (by first | rfl | (simp; done) | (simp [*]; done)), (by first | rfl | (simp; done) | (simp [*]; done)), (by first | rfl | (simp; done) | (simp [*]; done)), (by first | rfl | (simp; done) | (simp [*]; done)), H', ⟨by have := HK1.out; have := HJ9.out; omega⟩, ⟨by (with_reducible repeat (first | refine blk_drewN ?_ _ | refine blk_drew ?_ | refine blk_alloc ?_ _)); exact BK353.out⟩, ⟨by repeat (first | (with_reducible first | exact HB.out | apply below_alloc | apply pw_below_drewN | apply below_drew1 | refine below_set ?_ GE353.out) | exact HB.out)⟩⟩
               ·
                replace c60 := Bool.eq_false_iff.mpr c60
                subst c60
                have H1 : (lexer_duration.l0 kj9 a0 (wrap64 (x5_1 + (wrap64 (t354 + (t355.size : Int))))) (mn x6_1 1099511627776) t356 x8_1 (decide (t356 ≤ x7_1)) true) = some (r1, r2, r3, r4, r5, r6, r7) := by rw [if_neg (show ¬ (false = true) by decide)] at H; exact H
                clear H
                have H := H1
                clear H1
                obtain ⟨ji63, hji63⟩ : ∃ j_ : Int, (mn x6_1 1099511627776) = j_ := ⟨_, rfl⟩
                replace H : (lexer_duration.l0 kj9 a0 (wrap64 (x5_1 + (wrap64 (t354 + (t355.size : Int))))) ji63 t356 x8_1 (decide (t356 ≤ x7_1)) true) = some (r1, r2, r3, r4, r5, r6, r7) := by first | (rw [hji63] at H; exact H) | (simp only [hji63] at H ⊢; exact H)
                (try rw [hji63] at A39)
                have hji63_ : (if 1099511627776 < x6_1 then 1099511627776 else x6_1) = ji63 := hji63
                have H' := Aside0.mk H
                clear H
                go_wp2_with (first | ((with_reducible refine gate_callee (f := 100) rfl ?_); refine goesL_ (some 44) rfl rfl Tryz.func100 (by kernel_rfl) rfl #[.string (a0.extract (x5_1 : Int).toNat ((wrap64 (x5_1 + t354)) : Int).toNat)] rfl (by (try simp only [List.map_toArray, List.map_cons, List.map_nil]); first | done | rfl | (simp only [List.length_drop, List.length_take]; rfl)) ?_; (with_reducible refine (strconv_Atoi.calls (a0.extract (x5_1 : Int).toNat ((wrap64 (x5_1 + t354)) : Int).toNat) t357 (some q359) _ ?side1 A39.out).mono ?_); (case side1 => exact Tabs.below HT.out (by repeat (first | (with_reducible first | exact HB.out | apply below_alloc | apply pw_below_drewN | apply below_drew1 | refine below_set ?_ GE353.out) | exact HB.out))); rintro e w64 ⟨rfl, hb⟩; refine ⟨_, rfl, ?_⟩; have n0_ := Aside0.mk (blk_below (g := gb353) (o := .cells #[.int .i64 0, .string (⟨#[]⟩ : ByteArray), .int .i64 0, .int .i64 0, .int .i64 0] 29 (0, 0)) (by (with_reducible repeat (first | refine blk_drewN ?_ _ | refine blk_drew ?_ | refine blk_alloc ?_ _)); exact BK353.out) hb); have n1_ := Aside0.mk (below_step (by repeat (first | (with_reducible first | exact HB.out | apply below_alloc | apply pw_below_drewN | apply below_drew1 | refine below_set ?_ GE353.out) | exact HB.out)) hb); clear BK353; clear HB; have BK353 := n0_; have HB := n1_; clear n0_ n1_; (try clear hb); (try clear hb2); (try clear hk); (try clear hi); (try simp only [errW_none, errW_some])))
                go_roundg kj9
                case measure => have := HK1.out; have := HJ9.out; omega
                case rel => exact ⟨(wrap64 (x5_1 + (wrap64 (t354 + (t355.size : Int))))), (ji63), (t356), (x8_1), (decide (t356 ≤ x7_1)), (true), (by first | rfl | (simp; done) | (simp [*]; done)), (by first | rfl | (simp; done) | (simp only [← hji63] <;> (first | rfl | simp)) | (simp [*]; done)), (by first | rfl | (simp; done) | (simp [*]; done)), (by first | rfl | (simp; done) | (simp [*]; done)), (by first | rfl | (simp; done) | (simp [*]; done)), (by first | rfl | (simp; done) | (simp [*]; done)), H', ⟨by have := HK1.out; have := HJ9.out; omega⟩, ⟨by (with_reducible repeat (first | refine blk_drewN ?_ _ | refine blk_drew ?_ | refine blk_alloc ?_ _)); exact BK353.out⟩, ⟨by repeat (first | (with_reducible first | exact HB.out | apply below_alloc | apply pw_below_drewN | apply below_drew1 | refine below_set ?_ GE353.out) | exact HB.out)⟩⟩
             ·
              rw [if_neg c38] at H
              exact absurd H (by simp)
            ·
             rw [if_neg c37] at H
             exact absurd H (by simp)
           ·
            rw [if_neg c36] at H
            exact absurd H (by simp)
      ·
       rw [if_neg c8] at H
       exact absurd H (by simp)
     ·
      rw [if_neg c7] at H
      exact absurd H (by simp)
    ·
     rw [if_neg c4] at H
     exact absurd H (by simp)
   ·
    rw [if_neg c3] at H
    exact absurd H (by simp)
end Go.Proofs.YteokilkcchdeiaaGreatDoor.Q
end
section
namespace Go.Proofs.YteokilkcchdeiaaGreatDoor.X
open Go.RowKit Go.Proofs.YteokilkcchdeiaaGreatDoor Go.Proofs.YteokilkcchdeiaaGreatDoorW.PrintWords Go.Proofs.YteokilkcchdeiaaGreatDoorW.PrintLast Go.Proofs.YteokilkcchdeiaaGreatDoorW.PrintMore Go.Proofs.YteokilkcchdeiaaGreatDoor.Q
def ratio_wide_fit.f (hi lo : Int) : Option Int := if hi = 0 ∧ 0 ≤ lo ∧ lo ≤ 1152921504606846976 then some lo else none
theorem ratio_wide_fit.calls (a0_0 a0_1 : Int) (r : Int) (w : World) (h : ratio_wide_fit.f a0_0 a0_1 = some r) :
    Calls Tryz.prog 141 #[.agg #[.int .u64 a0_0, .int .u64 a0_1]] w fun e w' => e = .returned (.int .i64 r) ∧ Below w.heap.size w w' := by
  have hu := Tryz.underlying154
  unfold ratio_wide_fit.f at h
  split at h
  · rename_i hc
    obtain ⟨rfl, h0, h1⟩ := hc
    obtain rfl := Option.some.inj h
    have hd : decide (1152921504606846976 < a0_1) = false := decide_eq_false (by omega)
    clear h
    go_enter Tryz.func141, Tryz.ntmps141
    go_wp2
    go_ret
    exact ⟨rfl, by repeat (first | exact Below.refl _ _ | apply below_alloc | apply below_drew1 | apply pw_below_drewN)⟩
  · cases h
end Go.Proofs.YteokilkcchdeiaaGreatDoor.X
end
