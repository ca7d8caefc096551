/- What the proofs of the lexer's laws share, part 2 of 5. -/
import Derived.Test.YteokilkcchdeiaaGreatDoorJ1
import Derived.Defers
import Derived.Recover
import Derived.StillTailTactics
set_option linter.unusedVariables false
set_option linter.unusedSimpArgs false
section
namespace Go.Proofs.YteokilkcchdeiaaGreatDoor.Q
open Go.Proofs.YteokilkcchdeiaaGreatDoor
open Go.Proofs.YteokilkcchdeiaaGreatDoor.X
open Go.RowKit Go.Proofs.YteokilkcchdeiaaGreatDoorW.PrintWords Go.Proofs.YteokilkcchdeiaaGreatDoorW.PrintLast Go.Proofs.YteokilkcchdeiaaGreatDoorW.PrintMore
attribute [local go_sem] max2_int min2_int max_two min_two max_three min_three max_four min_four   -- for this text's walks alone
set_option linter.unusedVariables false
set_option linter.unusedSimpArgs false
mutual
def lexer_duration.l0 : Nat → ByteArray → Int → Int → Int → Bool → Bool → Bool → Option (Int × ByteArray × Int × Int × Int × Int × Int)
  | 0, _, _, _, _, _, _, _ => none
  | k + 1, x0, x5, x6, x7, x8, x9, x10 => if 0 ≤ x5 then (if x5 ≤ (x0.size : Int) then ((lexer_run_isDigit.f (x0.extract (x5 : Int).toNat x0.size)).bind fun t354 => (if 0 ≤ (wrap64 (x5 + t354)) then (if (wrap64 (x5 + t354)) ≤ (x0.size : Int) then ((lexer_unit.f k (x0.extract ((wrap64 (x5 + t354)) : Int).toNat x0.size)).bind fun bt355 => (if t354 = 0 then (lexer_duration.j1 k x0 x5 x6 x7 x8 x9 x10 t354 bt355.1 bt355.2 true) else (lexer_duration.j1 k x0 x5 x6 x7 x8 x9 x10 t354 bt355.1 bt355.2 (decide (bt355.2 < 0))))) else (none)) else (none))) else (none)) else (none)
def lexer_duration.j1 : Nat → ByteArray → Int → Int → Int → Bool → Bool → Bool → Int → ByteArray → Int → Bool → Option (Int × ByteArray × Int × Int × Int × Int × Int)
  | 0, _, _, _, _, _, _, _, _, _, _, _ => none
  | k + 1, x0, x5, x6, x7, x8, x9, x10, x11, x12, x13, x34 => if x34 = true then (if x8 = true then (some (0, (⟨#[]⟩ : ByteArray), 0, 0, 0, x5, 4)) else (if x9 = true then (lexer_duration.j2 k x0 x5 x6 x10 true) else (if 0 ≤ x5 then (if x5 ≤ (x0.size : Int) then ((lexer_continues.f (x0.extract (x5 : Int).toNat x0.size)).bind fun t362 => (lexer_duration.j2 k x0 x5 x6 x10 t362)) else (none)) else (none)))) else (if x11 > 18 then (if x9 = true then (if x10 = true then (lexer_duration.l0 k x0 (wrap64 (x5 + (wrap64 (x11 + (x12.size : Int))))) (mn x6 1099511627776) x13 true true true) else (lexer_duration.l0 k x0 (wrap64 (x5 + (wrap64 (x11 + (x12.size : Int))))) (mn x6 1099511627776) x13 true true (decide (x6 > 1099511627776)))) else (if x10 = true then (lexer_duration.l0 k x0 (wrap64 (x5 + (wrap64 (x11 + (x12.size : Int))))) (mn x6 1099511627776) x13 true (decide (x13 ≤ x7)) true) else (lexer_duration.l0 k x0 (wrap64 (x5 + (wrap64 (x11 + (x12.size : Int))))) (mn x6 1099511627776) x13 true (decide (x13 ≤ x7)) (decide (x6 > 1099511627776))))) else (if 0 ≤ x5 then (if x5 ≤ (wrap64 (x5 + x11)) then (if (wrap64 (x5 + x11)) ≤ (x0.size : Int) then ((strconv_Atoi.f (x0.extract (x5 : Int).toNat ((wrap64 (x5 + x11)) : Int).toNat)).bind fun bt357 => (if bt357.2.isNone = true then ((lexer_length.f x12).bind fun t360 => (if t360 = 0 then (none) else (if bt357.1 > (wrap64 (Int.tdiv (1099511627776 : Int) t360)) then (if x9 = true then (lexer_duration.l0 k x0 (wrap64 (x5 + (wrap64 (x11 + (x12.size : Int))))) (mn x6 1099511627776) x13 x8 true true) else (lexer_duration.l0 k x0 (wrap64 (x5 + (wrap64 (x11 + (x12.size : Int))))) (mn x6 1099511627776) x13 x8 (decide (x13 ≤ x7)) true)) else ((lexer_length.f x12).bind fun t361 => (if x9 = true then (if x10 = true then (lexer_duration.l0 k x0 (wrap64 (x5 + (wrap64 (x11 + (x12.size : Int))))) (mn (wrap64 (x6 + (wrap64 (bt357.1 * t361)))) 1099511627776) x13 x8 true true) else (lexer_duration.l0 k x0 (wrap64 (x5 + (wrap64 (x11 + (x12.size : Int))))) (mn (wrap64 (x6 + (wrap64 (bt357.1 * t361)))) 1099511627776) x13 x8 true (decide ((wrap64 (x6 + (wrap64 (bt357.1 * t361)))) > 1099511627776)))) else (if x10 = true then (lexer_duration.l0 k x0 (wrap64 (x5 + (wrap64 (x11 + (x12.size : Int))))) (mn (wrap64 (x6 + (wrap64 (bt357.1 * t361)))) 1099511627776) x13 x8 (decide (x13 ≤ x7)) true) else (lexer_duration.l0 k x0 (wrap64 (x5 + (wrap64 (x11 + (x12.size : Int))))) (mn (wrap64 (x6 + (wrap64 (bt357.1 * t361)))) 1099511627776) x13 x8 (decide (x13 ≤ x7)) (decide ((wrap64 (x6 + (wrap64 (bt357.1 * t361)))) > 1099511627776))))))))) else (if x9 = true then (lexer_duration.l0 k x0 (wrap64 (x5 + (wrap64 (x11 + (x12.size : Int))))) (mn x6 1099511627776) x13 x8 true true) else (lexer_duration.l0 k x0 (wrap64 (x5 + (wrap64 (x11 + (x12.size : Int))))) (mn x6 1099511627776) x13 x8 (decide (x13 ≤ x7)) true)))) else (none)) else (none)) else (none)))
def lexer_duration.j2 : Nat → ByteArray → Int → Int → Bool → Bool → Option (Int × ByteArray × Int × Int × Int × Int × Int)
  | 0, _, _, _, _, _ => none
  | k + 1, x0, x5, x6, x10, x86 => if x86 = true then (some (0, (⟨#[]⟩ : ByteArray), 0, 0, 0, x5, 3)) else (if x10 = true then (some (0, (⟨#[]⟩ : ByteArray), 0, 0, 0, x5, 2)) else (if 0 ≤ x5 then (if x5 ≤ (x0.size : Int) then (some (3, x0.extract 0 (x5 : Int).toNat, x6, 1, 0, x5, 0)) else (none)) else (none)))
end
def lexer_duration.f (k : Nat) (a0 : ByteArray) : Option (Int × ByteArray × Int × Int × Int × Int × Int) := lexer_duration.l0 k a0 0 0 (-1) false false false
set_option maxHeartbeats 8000000 in
set_option maxRecDepth 100000 in
theorem lexer_duration.calls (k : Nat) (a0 : ByteArray) (r1 : Int) (r2 : ByteArray) (r3 : Int) (r4 : Int) (r5 : Int) (r6 : Int) (r7 : Int) (w : World) (hT : Tabs w) (h : lexer_duration.f k a0 = some (r1, r2, r3, r4, r5, r6, r7)) :
    Calls Tryz.prog 69 #[.string a0] w fun e w' => e = .returned (.tuple #[.agg #[.int .i64 r1, .string r2, .int .i64 r3, .int .i64 r4, .int .i64 r5], .int .i64 r6, .int .i64 r7]) ∧ Below w.heap.size w w' := by
  have hu29 := Tryz.underlying29
  have hu27 := Tryz.underlying27
  have hu59 := Tryz.underlying59
  have HT := Aside0.mk hT
  clear hT
  have HB := Aside0.mk (Below.refl w.heap.size w)
  have H : (lexer_duration.l0 k a0 0 0 (-1) false false false) = some (r1, r2, r3, r4, r5, r6, r7) := h
  clear h
  have H' := Aside0.mk H
  clear H
  go_enter Tryz.func69, Tryz.ntmps69
  go_wp2_with (first | ((with_reducible refine gate_dst (N := 2) rfl ?_); refine box_event ?hg (N := 2) ?hd (cs := #[.int .i64 0, .string (⟨#[]⟩ : ByteArray), .int .i64 0, .int .i64 0, .int .i64 0]) (t := 29) ?hr ?_; (case hd => rfl); (case hg => rfl); (case hr => first | (go_simp; done) | (go_simp; rfl)); intro gb353 hg w2 hbox hb; have n0_ := Aside0.mk (below_step (by repeat (first | (with_reducible first | exact HB.out | apply below_alloc | apply pw_below_drewN | apply below_drew1) | exact HB.out)) hb); have n1_ := Aside0.mk (hbox); have n2_ := Aside0.mk ((by rw [hg]; exact (below_size (by repeat (first | (with_reducible first | exact HB.out | apply below_alloc | apply pw_below_drewN | apply below_drew1) | exact HB.out))) : w.heap.size ≤ gb353)); have n3_ := Aside0.mk ((by rw [hg]; exact (below_size (by repeat (first | (with_reducible first | exact HB.out | apply below_alloc | apply pw_below_drewN | apply below_drew1) | exact HB.out))) : w.heap.size ≤ gb353)); clear HB; have HB := n0_; have BK353 := n1_; have GW353 := n2_; have GE353 := n3_; clear n0_ n1_ n2_ n3_; clear hb hbox hg))
  go_loopg [5, 6, 7, 8, 9, 10] k (fun kq v5 v6 v7 v8 v9 v10 w' => ∃ (x5_1 : Int) (x6_1 : Int) (x7_1 : Int) (x8_1 : Bool) (x9_1 : Bool) (x10_1 : Bool), v5 = .int .i64 x5_1 ∧ v6 = .int .i64 x6_1 ∧ v7 = .int .i64 x7_1 ∧ v8 = .bool x8_1 ∧ v9 = .bool x9_1 ∧ v10 = .bool x10_1 ∧ Aside0 (lexer_duration.l0 kq a0 x5_1 x6_1 x7_1 x8_1 x9_1 x10_1 = some (r1, r2, r3, r4, r5, r6, r7)) ∧ Aside0 (kq ≤ k) ∧ Aside0 (w'.heap[gb353]? = some (.cells #[.int .i64 0, .string (⟨#[]⟩ : ByteArray), .int .i64 0, .int .i64 0, .int .i64 0] 29 (0, 0))) ∧ Aside0 (Below w.heap.size w w'))
  case atStart => exact ⟨(0), (0), ((-1)), (false), (false), (false), (by first | rfl | (simp; done) | (simp [*]; done)), (by first | rfl | (simp; done) | (simp [*]; done)), (by first | rfl | (simp; done) | (simp [*]; done)), (by first | rfl | (simp; done) | (simp [*]; done)), (by first | rfl | (simp; done) | (simp [*]; done)), (by first | rfl | (simp; done) | (simp [*]; done)), H', ⟨Nat.le_refl _⟩, ⟨by (with_reducible repeat (first | refine blk_drewN ?_ _ | refine blk_drew ?_ | refine blk_alloc ?_ _)); exact BK353.out⟩, ⟨by repeat (first | (with_reducible first | exact HB.out | apply below_alloc | apply pw_below_drewN | apply below_drew1 | refine below_set ?_ GE353.out) | exact HB.out)⟩⟩
  case round =>
    clear H'
    try clear p2
    obtain ⟨x5_1, x6_1, x7_1, x8_1, x9_1, x10_1, rfl, rfl, rfl, rfl, rfl, rfl, HA, HK1, BK353, HB⟩ := hrel
    cases gk with
    | zero => exact absurd HA.out (by simp [lexer_duration.l0])
    | succ k1 =>
      have H := HA.out
      clear HA
      simp only [lexer_duration.l0] at H
      by_cases c3 : 0 ≤ x5_1
      · rw [if_pos c3] at H
        have c3b0 := eq_true c3
        have c3b1 : decide (0 ≤ x5_1) = true := decide_eq_true c3
        clear c3
        by_cases c4 : x5_1 ≤ (a0.size : Int)
        · rw [if_pos c4] at H
          have c4b0 := eq_true c4
          have c4b1 : decide (x5_1 ≤ (a0.size : Int)) = true := decide_eq_true c4
          clear c4
          replace H := Option.bind_eq_some_iff.mp H
          obtain ⟨t354, A50, H⟩ := H
          replace H : (if 0 ≤ (wrap64 (x5_1 + t354)) then (if (wrap64 (x5_1 + t354)) ≤ (a0.size : Int) then ((lexer_unit.f k1 (a0.extract ((wrap64 (x5_1 + t354)) : Int).toNat a0.size)).bind fun bt355 => (if t354 = 0 then (lexer_duration.j1 k1 a0 x5_1 x6_1 x7_1 x8_1 x9_1 x10_1 t354 bt355.1 bt355.2 true) else (lexer_duration.j1 k1 a0 x5_1 x6_1 x7_1 x8_1 x9_1 x10_1 t354 bt355.1 bt355.2 (decide (bt355.2 < 0))))) else (none)) else (none)) = some (r1, r2, r3, r4, r5, r6, r7) := H
          have A5 := Aside0.mk A50
          clear A50
          obtain ⟨ji6, hji6⟩ : ∃ j_ : Int, (wrap64 (x5_1 + t354)) = j_ := ⟨_, rfl⟩
          replace H : (if 0 ≤ (ji6) then (if (ji6) ≤ (a0.size : Int) then ((lexer_unit.f k1 (a0.extract ((ji6) : Int).toNat a0.size)).bind fun bt355 => (if t354 = 0 then (lexer_duration.j1 k1 a0 x5_1 x6_1 x7_1 x8_1 x9_1 x10_1 t354 bt355.1 bt355.2 true) else (lexer_duration.j1 k1 a0 x5_1 x6_1 x7_1 x8_1 x9_1 x10_1 t354 bt355.1 bt355.2 (decide (bt355.2 < 0))))) else (none)) else (none)) = some (r1, r2, r3, r4, r5, r6, r7) := by first | (rw [hji6] at H; exact H) | (simp only [hji6] at H ⊢; exact H)
          (try rw [hji6] at A5)
          have hji6w : (IntKind.i64.wrap (x5_1 + t354)) = ji6 := (i64_w _).trans hji6
          by_cases c7 : 0 ≤ (ji6)
          · rw [if_pos c7] at H
            have c7b0 := eq_true c7
            have c7b1 : decide (0 ≤ (ji6)) = true := decide_eq_true c7
            clear c7
            by_cases c8 : (ji6) ≤ (a0.size : Int)
            · rw [if_pos c8] at H
              have c8b0 := eq_true c8
              have c8b1 : decide ((ji6) ≤ (a0.size : Int)) = true := decide_eq_true c8
              clear c8
              replace H := Option.bind_eq_some_iff.mp H
              obtain ⟨⟨t355, t356⟩, A90, H⟩ := H
              replace H : (if t354 = 0 then (lexer_duration.j1 k1 a0 x5_1 x6_1 x7_1 x8_1 x9_1 x10_1 t354 t355 t356 true) else (lexer_duration.j1 k1 a0 x5_1 x6_1 x7_1 x8_1 x9_1 x10_1 t354 t355 t356 (decide (t356 < 0)))) = some (r1, r2, r3, r4, r5, r6, r7) := H
              have A9 := Aside0.mk A90
              clear A90
              have HC10 := Aside0.mk H
              clear H
              go_upto_region 5 with (first | ((with_reducible refine gate_callee (f := 97) rfl ?_); refine goesL_ (some 19) rfl rfl Tryz.func97 (by kernel_rfl) rfl #[.string (a0.extract (x5_1 : Int).toNat a0.size), .func (.func 98) #[] #[]] rfl (by (try simp only [List.map_toArray, List.map_cons, List.map_nil]); first | done | rfl | (simp only [List.length_drop, List.length_take]; rfl)) ?_; (with_reducible refine (lexer_run_isDigit.calls (a0.extract (x5_1 : Int).toNat a0.size) t354 _ A5.out).mono ?_); rintro e w' ⟨rfl, ⟨nd, rfl⟩⟩; refine ⟨_, rfl, ?_⟩) | ((with_reducible refine gate_callee (f := 99) rfl ?_); refine goesL_ (some 26) rfl rfl Tryz.func99 (by kernel_rfl) rfl #[.string (a0.extract ((ji6) : Int).toNat a0.size)] rfl (by (try simp only [List.map_toArray, List.map_cons, List.map_nil]); first | done | (simp only [hji6]; rfl) | rfl | (simp only [List.length_drop, List.length_take]; rfl)) ?_; (with_reducible refine (lexer_unit.calls k1 (a0.extract ((ji6) : Int).toNat a0.size) t355 t356 _ ?side1 A9.out).mono ?_); (case side1 => exact Tabs.below HT.out (by repeat (first | (with_reducible first | exact HB.out | apply below_alloc | apply pw_below_drewN | apply below_drew1 | refine below_set ?_ GE353.out) | exact HB.out))); rintro e w11 ⟨rfl, hb⟩; refine ⟨_, rfl, ?_⟩; have n0_ := Aside0.mk (blk_below (g := gb353) (o := .cells #[.int .i64 0, .string (⟨#[]⟩ : ByteArray), .int .i64 0, .int .i64 0, .int .i64 0] 29 (0, 0)) (by (with_reducible repeat (first | refine blk_drewN ?_ _ | refine blk_drew ?_ | refine blk_alloc ?_ _)); exact BK353.out) hb); have n1_ := Aside0.mk (below_step (by repeat (first | (with_reducible first | exact HB.out | apply below_alloc | apply pw_below_drewN | apply below_drew1 | refine below_set ?_ GE353.out) | exact HB.out)) hb); clear BK353; clear HB; have BK353 := n0_; have HB := n1_; clear n0_ n1_; (try clear hb); (try clear hb2); (try clear hk); (try clear hi)))
              (try simp only [Act.put, List.setIfInBounds_toArray, List.set_cons_zero, List.set_cons_succ])
              go_cut [34] (fun v34 wc => ∃ (kq : Nat) (x34_9 : Bool), v34 = .bool x34_9 ∧ Aside0 (lexer_duration.j1 kq a0 x5_1 x6_1 x7_1 x8_1 x9_1 x10_1 t354 t355 t356 x34_9 = some (r1, r2, r3, r4, r5, r6, r7)) ∧ Aside0 (kq ≤ k1) ∧ Aside0 (wc.heap[gb353]? = some (.cells #[.int .i64 0, .string (⟨#[]⟩ : ByteArray), .int .i64 0, .int .i64 0, .int .i64 0] 29 (0, 0))) ∧ Aside0 (Below w.heap.size w wc))
              case first =>
                have H := HC10.out
                clear HC10
                by_cases c12 : t354 = 0
                · rw [if_pos c12] at H
                  have c12b0 : (t354 == 0) = true := beq_iff_eq.mpr c12
                  have c12b1 : (t354 != 0) = false := bne_eq_false_iff_eq.mpr c12
                  clear c12
                  (first | rw [c12b0] | (simp only [i64_w, i32_w]; rw [c12b0]) | skip)
                  have H' := Aside0.mk H
                  clear H
                  go_wp2
                  go_meet
                  case rel => exact ⟨_, (true), (by first | rfl | (simp; done) | (simp [*]; done)), H', ⟨by have := HK1.out; first | omega | exact Nat.le_refl _⟩, ⟨by (with_reducible repeat (first | refine blk_drewN ?_ _ | refine blk_drew ?_ | refine blk_alloc ?_ _)); exact BK353.out⟩, ⟨by repeat (first | (with_reducible first | exact HB.out | apply below_alloc | apply pw_below_drewN | apply below_drew1 | refine below_set ?_ GE353.out) | exact HB.out)⟩⟩
                · rw [if_neg c12] at H
                  have c12b0 : (t354 == 0) = false := beq_eq_false_iff_ne.mpr c12
                  have c12b1 : (t354 != 0) = true := bne_iff_ne.mpr c12
                  (first | rw [c12b0] | (simp only [i64_w, i32_w]; rw [c12b0]) | skip)
                  have H' := Aside0.mk H
                  clear H
                  go_wp2
                  go_meet
                  case rel => exact ⟨_, (decide (t356 < 0)), (by first | rfl | (simp; done) | (simp [*]; done)), H', ⟨by have := HK1.out; first | omega | exact Nat.le_refl _⟩, ⟨by (with_reducible repeat (first | refine blk_drewN ?_ _ | refine blk_drew ?_ | refine blk_alloc ?_ _)); exact BK353.out⟩, ⟨by repeat (first | (with_reducible first | exact HB.out | apply below_alloc | apply pw_below_drewN | apply below_drew1 | refine below_set ?_ GE353.out) | exact HB.out)⟩⟩
              case rest =>
                (try clear hji6w)
                (try clear hji6)
                clear HC10
                try clear c1
                try clear p2
                try clear c3
                try clear c3b0
                try clear c3b1
                try clear c4
                try clear c4b0
                try clear c4b1
                try clear c6
                try clear p6
                try clear c7
                try clear c7b0
                try clear c7b1
                try clear c8
                try clear c8b0
                try clear c8b1
                try clear c9
                try clear c12
                try clear c12b0
                try clear c12b1
                try clear p2
                obtain ⟨kq, x34_9, rfl, HA, HJ9, BK353, HB⟩ := hcut
                cases kq with
                | zero => exact absurd HA.out (by simp [lexer_duration.j1])
                | succ kj9 =>
                  have H := HA.out
                  clear HA
                  simp only [lexer_duration.j1] at H
                  by_cases c13 : x34_9 = true
                  · subst c13
                    have H1 : (if x8_1 = true then (some (0, (⟨#[]⟩ : ByteArray), 0, 0, 0, x5_1, 4)) else (if x9_1 = true then (lexer_duration.j2 kj9 a0 x5_1 x6_1 x10_1 true) else (if 0 ≤ x5_1 then (if x5_1 ≤ (a0.size : Int) then ((lexer_continues.f (a0.extract (x5_1 : Int).toNat a0.size)).bind fun t362 => (lexer_duration.j2 kj9 a0 x5_1 x6_1 x10_1 t362)) else (none)) else (none)))) = some (r1, r2, r3, r4, r5, r6, r7) := by rw [if_pos rfl] at H; exact H
                    clear H
                    have H := H1
                    clear H1
                    by_cases c14 : x8_1 = true
                    · subst c14
                      have H1 : (some (0, (⟨#[]⟩ : ByteArray), 0, 0, 0, x5_1, 4)) = some (r1, r2, r3, r4, r5, r6, r7) := by rw [if_pos rfl] at H; exact H
                      clear H
                      have H := H1
                      clear H1
                      simp only [Option.some.injEq, Prod.mk.injEq] at H
                      obtain ⟨rfl, rfl, rfl, rfl, rfl, rfl, rfl⟩ := H
                      have hcz15_0 : wc.cell? ⟨gb353, 0, none⟩ = some (.int .i64 0) := (blk_cell BK353.out 0).trans rfl
                      have hcz15_1 : wc.cell? ⟨gb353, 1, none⟩ = some (.string (⟨#[]⟩ : ByteArray)) := (blk_cell BK353.out 1).trans rfl
                      have hcz15_2 : wc.cell? ⟨gb353, 2, none⟩ = some (.int .i64 0) := (blk_cell BK353.out 2).trans rfl
                      have hcz15_3 : wc.cell? ⟨gb353, 3, none⟩ = some (.int .i64 0) := (blk_cell BK353.out 3).trans rfl
                      have hcz15_4 : wc.cell? ⟨gb353, 4, none⟩ = some (.int .i64 0) := (blk_cell BK353.out 4).trans rfl
                      have hfz15_0 := blk_frozen BK353.out 0
                      have hfz15_1 := blk_frozen BK353.out 1
                      have hfz15_2 := blk_frozen BK353.out 2
                      have hfz15_3 := blk_frozen BK353.out 3
                      have hfz15_4 := blk_frozen BK353.out 4
                      go_wp2
                      refine bodyPost_ret (results_ctt rfl _ _ gb353 29 #[.int .i64 0, .string (⟨#[]⟩ : ByteArray), .int .i64 0, .int .i64 0, .int .i64 0] (0, 0) _ rfl (by (with_reducible repeat (first | refine blk_drewN ?_ _ | refine blk_drew ?_ | refine blk_alloc ?_ _)); refine blk_put (cs := #[.int .i64 0, .string (⟨#[]⟩ : ByteArray), .int .i64 0, .int .i64 0, .int .i64 0]) ?_ 4 _ rfl; (with_reducible repeat (first | refine blk_drewN ?_ _ | refine blk_drew ?_ | refine blk_alloc ?_ _)); refine blk_put (cs := #[.int .i64 0, .string (⟨#[]⟩ : ByteArray), .int .i64 0, .int .i64 0, .int .i64 0]) ?_ 3 _ rfl; (with_reducible repeat (first | refine blk_drewN ?_ _ | refine blk_drew ?_ | refine blk_alloc ?_ _)); refine blk_put (cs := #[.int .i64 0, .string (⟨#[]⟩ : ByteArray), .int .i64 0, .int .i64 0, .int .i64 0]) ?_ 2 _ rfl; (with_reducible repeat (first | refine blk_drewN ?_ _ | refine blk_drew ?_ | refine blk_alloc ?_ _)); refine blk_put (cs := #[.int .i64 0, .string (⟨#[]⟩ : ByteArray), .int .i64 0, .int .i64 0, .int .i64 0]) ?_ 1 _ rfl; (with_reducible repeat (first | refine blk_drewN ?_ _ | refine blk_drew ?_ | refine blk_alloc ?_ _)); refine blk_put (cs := #[.int .i64 0, .string (⟨#[]⟩ : ByteArray), .int .i64 0, .int .i64 0, .int .i64 0]) ?_ 0 _ rfl; (with_reducible repeat (first | refine blk_drewN ?_ _ | refine blk_drew ?_ | refine blk_alloc ?_ _)); exact BK353.out) Tryz.underlying29 rfl (by kernel_rfl)) rfl ?_
                      exact ⟨by first | rfl | (simp [errW_none, errW_some] <;> rfl) | (simp only [← hji6]; first | rfl | (simp [errW_none, errW_some] <;> rfl)) | (simp [*, errW_none, errW_some] <;> rfl), by repeat (first | (with_reducible first | exact HB.out | apply below_alloc | apply pw_below_drewN | apply below_drew1 | refine below_set ?_ GE353.out) | exact HB.out)⟩
                    · replace c14 := Bool.eq_false_iff.mpr c14
                      subst c14
                      have H1 : (if x9_1 = true then (lexer_duration.j2 kj9 a0 x5_1 x6_1 x10_1 true) else (if 0 ≤ x5_1 then (if x5_1 ≤ (a0.size : Int) then ((lexer_continues.f (a0.extract (x5_1 : Int).toNat a0.size)).bind fun t362 => (lexer_duration.j2 kj9 a0 x5_1 x6_1 x10_1 t362)) else (none)) else (none))) = some (r1, r2, r3, r4, r5, r6, r7) := by rw [if_neg (show ¬ (false = true) by decide)] at H; exact H
                      clear H
                      have H := H1
                      clear H1
                      have HC16 := Aside0.mk H
                      clear H
                      go_upto_region 19 with (fail)
                      go_cut [86] (fun v86 wc => ∃ (kq : Nat) (x86_15 : Bool), v86 = .bool x86_15 ∧ Aside0 (lexer_duration.j2 kq a0 x5_1 x6_1 x10_1 x86_15 = some (r1, r2, r3, r4, r5, r6, r7)) ∧ Aside0 (kq ≤ kj9) ∧ Aside0 (wc.heap[gb353]? = some (.cells #[.int .i64 0, .string (⟨#[]⟩ : ByteArray), .int .i64 0, .int .i64 0, .int .i64 0] 29 (0, 0))) ∧ Aside0 (Below w.heap.size w wc))
                      case first =>
                        have H := HC16.out
                        clear HC16
                        by_cases c17 : x9_1 = true
                        · subst c17
                          have H1 : (lexer_duration.j2 kj9 a0 x5_1 x6_1 x10_1 true) = some (r1, r2, r3, r4, r5, r6, r7) := by rw [if_pos rfl] at H; exact H
                          clear H
                          have H := H1
                          clear H1
                          have H' := Aside0.mk H
                          clear H
                          go_wp2
                          go_meet
                          case rel => exact ⟨_, (true), (by first | rfl | (simp; done) | (simp [*]; done)), H', ⟨by have := HK1.out; have := HJ9.out; first | omega | exact Nat.le_refl _⟩, ⟨by (with_reducible repeat (first | refine blk_drewN ?_ _ | refine blk_drew ?_ | refine blk_alloc ?_ _)); exact BK353.out⟩, ⟨by repeat (first | (with_reducible first | exact HB.out | apply below_alloc | apply pw_below_drewN | apply below_drew1 | refine below_set ?_ GE353.out) | exact HB.out)⟩⟩
                        · replace c17 := Bool.eq_false_iff.mpr c17
                          subst c17
                          have H1 : (if 0 ≤ x5_1 then (if x5_1 ≤ (a0.size : Int) then ((lexer_continues.f (a0.extract (x5_1 : Int).toNat a0.size)).bind fun t362 => (lexer_duration.j2 kj9 a0 x5_1 x6_1 x10_1 t362)) else (none)) else (none)) = some (r1, r2, r3, r4, r5, r6, r7) := by rw [if_neg (show ¬ (false = true) by decide)] at H; exact H
                          clear H
                          have H := H1
                          clear H1
                          by_cases c18 : 0 ≤ x5_1
                          · rw [if_pos c18] at H
                            have c18b0 := eq_true c18
                            have c18b1 : decide (0 ≤ x5_1) = true := decide_eq_true c18
                            clear c18
                            by_cases c19 : x5_1 ≤ (a0.size : Int)
                            · rw [if_pos c19] at H
                              have c19b0 := eq_true c19
                              have c19b1 : decide (x5_1 ≤ (a0.size : Int)) = true := decide_eq_true c19
                              clear c19
                              replace H := Option.bind_eq_some_iff.mp H
                              obtain ⟨t362, A200, H⟩ := H
                              replace H : (lexer_duration.j2 kj9 a0 x5_1 x6_1 x10_1 t362) = some (r1, r2, r3, r4, r5, r6, r7) := H
                              have A20 := Aside0.mk A200
                              clear A200
                              have H' := Aside0.mk H
                              clear H
                              go_wp2_with (first | (go_at_call 101; (with_reducible refine (lexer_continues.calls (a0.extract (x5_1 : Int).toNat a0.size) t362 _ A20.out).mono ?_); rintro e w' ⟨rfl, ⟨nd, rfl⟩⟩))
                              go_meet
                              case rel => exact ⟨_, (t362), (by first | rfl | (simp; done) | (simp [*]; done)), H', ⟨by have := HK1.out; have := HJ9.out; first | omega | exact Nat.le_refl _⟩, ⟨by (with_reducible repeat (first | refine blk_drewN ?_ _ | refine blk_drew ?_ | refine blk_alloc ?_ _)); exact BK353.out⟩, ⟨by repeat (first | (with_reducible first | exact HB.out | apply below_alloc | apply pw_below_drewN | apply below_drew1 | refine below_set ?_ GE353.out) | exact HB.out)⟩⟩
                            · rw [if_neg c19] at H
                              exact absurd H (by simp)
                          · rw [if_neg c18] at H
                            exact absurd H (by simp)
                      case rest =>
                        (try clear hji6w)
                        (try clear hji6)
                        clear HC16
                        try clear c1
                        try clear p2
                        try clear c3
                        try clear c3b0
                        try clear c3b1
                        try clear c4
                        try clear c4b0
                        try clear c4b1
                        try clear c6
                        try clear p6
                        try clear c7
                        try clear c7b0
                        try clear c7b1
                        try clear c8
                        try clear c8b0
                        try clear c8b1
                        try clear c9
                        try clear c12
                        try clear c12b0
                        try clear c12b1
                        try clear c13
                        try clear c14
                        try clear c17
                        try clear c18
                        try clear c18b0
                        try clear c18b1
                        try clear c19
                        try clear c19b0
                        try clear c19b1
                        try clear hcz15_0
                        try clear hcz15_1
                        try clear hcz15_2
                        try clear hcz15_3
                        try clear hcz15_4
                        try clear hfz15_0
                        try clear hfz15_1
                        try clear hfz15_2
                        try clear hfz15_3
                        try clear hfz15_4
                        try clear p2
                        try clear p6
                        obtain ⟨kq, x86_15, rfl, HA, HJ15, BK353, HB⟩ := hcut
                        cases kq with
                        | zero => exact absurd HA.out (by simp [lexer_duration.j2])
                        | succ kj15 =>
                          have H := HA.out
                          clear HA
                          simp only [lexer_duration.j2] at H
                          by_cases c21 : x86_15 = true
                          · subst c21
                            have H1 : (some (0, (⟨#[]⟩ : ByteArray), 0, 0, 0, x5_1, 3)) = some (r1, r2, r3, r4, r5, r6, r7) := by rw [if_pos rfl] at H; exact H
                            clear H
                            have H := H1
                            clear H1
                            simp only [Option.some.injEq, Prod.mk.injEq] at H
                            obtain ⟨rfl, rfl, rfl, rfl, rfl, rfl, rfl⟩ := H
                            have hcz22_0 : wc.cell? ⟨gb353, 0, none⟩ = some (.int .i64 0) := (blk_cell BK353.out 0).trans rfl
                            have hcz22_1 : wc.cell? ⟨gb353, 1, none⟩ = some (.string (⟨#[]⟩ : ByteArray)) := (blk_cell BK353.out 1).trans rfl
                            have hcz22_2 : wc.cell? ⟨gb353, 2, none⟩ = some (.int .i64 0) := (blk_cell BK353.out 2).trans rfl
                            have hcz22_3 : wc.cell? ⟨gb353, 3, none⟩ = some (.int .i64 0) := (blk_cell BK353.out 3).trans rfl
                            have hcz22_4 : wc.cell? ⟨gb353, 4, none⟩ = some (.int .i64 0) := (blk_cell BK353.out 4).trans rfl
                            have hfz22_0 := blk_frozen BK353.out 0
                            have hfz22_1 := blk_frozen BK353.out 1
                            have hfz22_2 := blk_frozen BK353.out 2
                            have hfz22_3 := blk_frozen BK353.out 3
                            have hfz22_4 := blk_frozen BK353.out 4
                            go_wp2
                            refine bodyPost_ret (results_ctt rfl _ _ gb353 29 #[.int .i64 0, .string (⟨#[]⟩ : ByteArray), .int .i64 0, .int .i64 0, .int .i64 0] (0, 0) _ rfl (by (with_reducible repeat (first | refine blk_drewN ?_ _ | refine blk_drew ?_ | refine blk_alloc ?_ _)); refine blk_put (cs := #[.int .i64 0, .string (⟨#[]⟩ : ByteArray), .int .i64 0, .int .i64 0, .int .i64 0]) ?_ 4 _ rfl; (with_reducible repeat (first | refine blk_drewN ?_ _ | refine blk_drew ?_ | refine blk_alloc ?_ _)); refine blk_put (cs := #[.int .i64 0, .string (⟨#[]⟩ : ByteArray), .int .i64 0, .int .i64 0, .int .i64 0]) ?_ 3 _ rfl; (with_reducible repeat (first | refine blk_drewN ?_ _ | refine blk_drew ?_ | refine blk_alloc ?_ _)); refine blk_put (cs := #[.int .i64 0, .string (⟨#[]⟩ : ByteArray), .int .i64 0, .int .i64 0, .int .i64 0]) ?_ 2 _ rfl; (with_reducible repeat (first | refine blk_drewN ?_ _ | refine blk_drew ?_ | refine blk_alloc ?_ _)); refine blk_put (cs := #[.int .i64 0, .string (⟨#[]⟩ : ByteArray), .int .i64 0, .int .i64 0, .int .i64 0]) ?_ 1 _ rfl; (with_reducible repeat (first | refine blk_drewN ?_ _ | refine blk_drew ?_ | refine blk_alloc ?_ _)); refine blk_put (cs := #[.int .i64 0, .string (⟨#[]⟩ : ByteArray), .int .i64 0, .int .i64 0, .int .i64 0]) ?_ 0 _ rfl; (with_reducible repeat (first | refine blk_drewN ?_ _ | refine blk_drew ?_ | refine blk_alloc ?_ _)); exact BK353.out) Tryz.underlying29 rfl (by kernel_rfl)) rfl ?_
                            exact ⟨by first | rfl | (simp [errW_none, errW_some] <;> rfl) | (simp only [← hji6]; first | rfl | (simp [errW_none, errW_some] <;> rfl)) | (simp [*, errW_none, errW_some] <;> rfl), by repeat (first | (with_reducible first | exact HB.out | apply below_alloc | apply pw_below_drewN | apply below_drew1 | refine below_set ?_ GE353.out) | exact HB.out)⟩
                          · replace c21 := Bool.eq_false_iff.mpr c21
                            subst c21
                            have H1 : (if x10_1 = true then (some (0, (⟨#[]⟩ : ByteArray), 0, 0, 0, x5_1, 2)) else (if 0 ≤ x5_1 then (if x5_1 ≤ (a0.size : Int) then (some (3, a0.extract 0 (x5_1 : Int).toNat, x6_1, 1, 0, x5_1, 0)) else (none)) else (none))) = some (r1, r2, r3, r4, r5, r6, r7) := by rw [if_neg (show ¬ (false = true) by decide)] at H; exact H
                            clear H
                            have H := H1
                            clear H1
                            by_cases c23 : x10_1 = true
                            · subst c23
                              have H1 : (some (0, (⟨#[]⟩ : ByteArray), 0, 0, 0, x5_1, 2)) = some (r1, r2, r3, r4, r5, r6, r7) := by rw [if_pos rfl] at H; exact H
                              clear H
                              have H := H1
                              clear H1
                              simp only [Option.some.injEq, Prod.mk.injEq] at H
                              obtain ⟨rfl, rfl, rfl, rfl, rfl, rfl, rfl⟩ := H
                              have hcz24_0 : wc.cell? ⟨gb353, 0, none⟩ = some (.int .i64 0) := (blk_cell BK353.out 0).trans rfl
                              have hcz24_1 : wc.cell? ⟨gb353, 1, none⟩ = some (.string (⟨#[]⟩ : ByteArray)) := (blk_cell BK353.out 1).trans rfl
                              have hcz24_2 : wc.cell? ⟨gb353, 2, none⟩ = some (.int .i64 0) := (blk_cell BK353.out 2).trans rfl
                              have hcz24_3 : wc.cell? ⟨gb353, 3, none⟩ = some (.int .i64 0) := (blk_cell BK353.out 3).trans rfl
                              have hcz24_4 : wc.cell? ⟨gb353, 4, none⟩ = some (.int .i64 0) := (blk_cell BK353.out 4).trans rfl
                              have hfz24_0 := blk_frozen BK353.out 0
                              have hfz24_1 := blk_frozen BK353.out 1
                              have hfz24_2 := blk_frozen BK353.out 2
                              have hfz24_3 := blk_frozen BK353.out 3
                              have hfz24_4 := blk_frozen BK353.out 4
                              go_wp2
                              refine bodyPost_ret (results_ctt rfl _ _ gb353 29 #[.int .i64 0, .string (⟨#[]⟩ : ByteArray), .int .i64 0, .int .i64 0, .int .i64 0] (0, 0) _ rfl (by (with_reducible repeat (first | refine blk_drewN ?_ _ | refine blk_drew ?_ | refine blk_alloc ?_ _)); refine blk_put (cs := #[.int .i64 0, .string (⟨#[]⟩ : ByteArray), .int .i64 0, .int .i64 0, .int .i64 0]) ?_ 4 _ rfl; (with_reducible repeat (first | refine blk_drewN ?_ _ | refine blk_drew ?_ | refine blk_alloc ?_ _)); refine blk_put (cs := #[.int .i64 0, .string (⟨#[]⟩ : ByteArray), .int .i64 0, .int .i64 0, .int .i64 0]) ?_ 3 _ rfl; (with_reducible repeat (first | refine blk_drewN ?_ _ | refine blk_drew ?_ | refine blk_alloc ?_ _)); refine blk_put (cs := #[.int .i64 0, .string (⟨#[]⟩ : ByteArray), .int .i64 0, .int .i64 0, .int .i64 0]) ?_ 2 _ rfl; (with_reducible repeat (first | refine blk_drewN ?_ _ | refine blk_drew ?_ | refine blk_alloc ?_ _)); refine blk_put (cs := #[.int .i64 0, .string (⟨#[]⟩ : ByteArray), .int .i64 0, .int .i64 0, .int .i64 0]) ?_ 1 _ rfl; (with_reducible repeat (first | refine blk_drewN ?_ _ | refine blk_drew ?_ | refine blk_alloc ?_ _)); refine blk_put (cs := #[.int .i64 0, .string (⟨#[]⟩ : ByteArray), .int .i64 0, .int .i64 0, .int .i64 0]) ?_ 0 _ rfl; (with_reducible repeat (first | refine blk_drewN ?_ _ | refine blk_drew ?_ | refine blk_alloc ?_ _)); exact BK353.out) Tryz.underlying29 rfl (by kernel_rfl)) rfl ?_
                              exact ⟨by first | rfl | (simp [errW_none, errW_some] <;> rfl) | (simp only [← hji6]; first | rfl | (simp [errW_none, errW_some] <;> rfl)) | (simp [*, errW_none, errW_some] <;> rfl), by repeat (first | (with_reducible first | exact HB.out | apply below_alloc | apply pw_below_drewN | apply below_drew1 | refine below_set ?_ GE353.out) | exact HB.out)⟩
                            · replace c23 := Bool.eq_false_iff.mpr c23
                              subst c23
                              have H1 : (if 0 ≤ x5_1 then (if x5_1 ≤ (a0.size : Int) then (some (3, a0.extract 0 (x5_1 : Int).toNat, x6_1, 1, 0, x5_1, 0)) else (none)) else (none)) = some (r1, r2, r3, r4, r5, r6, r7) := by rw [if_neg (show ¬ (false = true) by decide)] at H; exact H
                              clear H
                              have H := H1
                              clear H1
                              by_cases c25 : 0 ≤ x5_1
                              · rw [if_pos c25] at H
                                have c25b0 := eq_true c25
                                have c25b1 : decide (0 ≤ x5_1) = true := decide_eq_true c25
                                clear c25
                                by_cases c26 : x5_1 ≤ (a0.size : Int)
                                · rw [if_pos c26] at H
                                  have c26b0 := eq_true c26
                                  have c26b1 : decide (x5_1 ≤ (a0.size : Int)) = true := decide_eq_true c26
                                  clear c26
                                  simp only [Option.some.injEq, Prod.mk.injEq] at H
                                  obtain ⟨rfl, rfl, rfl, rfl, rfl, rfl, rfl⟩ := H
                                  have hcz27_0 : wc.cell? ⟨gb353, 0, none⟩ = some (.int .i64 0) := (blk_cell BK353.out 0).trans rfl
                                  have hcz27_1 : wc.cell? ⟨gb353, 1, none⟩ = some (.string (⟨#[]⟩ : ByteArray)) := (blk_cell BK353.out 1).trans rfl
                                  have hcz27_2 : wc.cell? ⟨gb353, 2, none⟩ = some (.int .i64 0) := (blk_cell BK353.out 2).trans rfl
                                  have hcz27_3 : wc.cell? ⟨gb353, 3, none⟩ = some (.int .i64 0) := (blk_cell BK353.out 3).trans rfl
                                  have hcz27_4 : wc.cell? ⟨gb353, 4, none⟩ = some (.int .i64 0) := (blk_cell BK353.out 4).trans rfl
                                  have hfz27_0 := blk_frozen BK353.out 0
                                  have hfz27_1 := blk_frozen BK353.out 1
                                  have hfz27_2 := blk_frozen BK353.out 2
                                  have hfz27_3 := blk_frozen BK353.out 3
                                  have hfz27_4 := blk_frozen BK353.out 4
                                  go_wp2
                                  refine bodyPost_ret (results_ctt rfl _ _ gb353 29 #[.int .i64 3, .string (a0.extract 0 (x5_1 : Int).toNat), .int .i64 x6_1, .int .i64 1, .int .i64 0] (0, 0) _ rfl (by (with_reducible repeat (first | refine blk_drewN ?_ _ | refine blk_drew ?_ | refine blk_alloc ?_ _)); refine blk_put (cs := #[.int .i64 3, .string (a0.extract 0 (x5_1 : Int).toNat), .int .i64 x6_1, .int .i64 1, .int .i64 0]) ?_ 4 _ rfl; (with_reducible repeat (first | refine blk_drewN ?_ _ | refine blk_drew ?_ | refine blk_alloc ?_ _)); refine blk_put (cs := #[.int .i64 3, .string (a0.extract 0 (x5_1 : Int).toNat), .int .i64 x6_1, .int .i64 0, .int .i64 0]) ?_ 3 _ rfl; (with_reducible repeat (first | refine blk_drewN ?_ _ | refine blk_drew ?_ | refine blk_alloc ?_ _)); refine blk_put (cs := #[.int .i64 3, .string (a0.extract 0 (x5_1 : Int).toNat), .int .i64 0, .int .i64 0, .int .i64 0]) ?_ 2 _ rfl; (with_reducible repeat (first | refine blk_drewN ?_ _ | refine blk_drew ?_ | refine blk_alloc ?_ _)); refine blk_put (cs := #[.int .i64 3, .string (⟨#[]⟩ : ByteArray), .int .i64 0, .int .i64 0, .int .i64 0]) ?_ 1 _ rfl; (with_reducible repeat (first | refine blk_drewN ?_ _ | refine blk_drew ?_ | refine blk_alloc ?_ _)); refine blk_put (cs := #[.int .i64 0, .string (⟨#[]⟩ : ByteArray), .int .i64 0, .int .i64 0, .int .i64 0]) ?_ 0 _ rfl; (with_reducible repeat (first | refine blk_drewN ?_ _ | refine blk_drew ?_ | refine blk_alloc ?_ _)); exact BK353.out) Tryz.underlying29 rfl (by kernel_rfl)) rfl ?_
                                  exact ⟨by first | rfl | (simp [errW_none, errW_some] <;> rfl) | (simp only [← hji6]; first | rfl | (simp [errW_none, errW_some] <;> rfl)) | (simp [*, errW_none, errW_some] <;> rfl), by repeat (first | (with_reducible first | exact HB.out | apply below_alloc | apply pw_below_drewN | apply below_drew1 | refine below_set ?_ GE353.out) | exact HB.out)⟩
                                · rw [if_neg c26] at H
                                  exact absurd H (by simp)
                              · rw [if_neg c25] at H
                                exact absurd H (by simp)
                  · replace c13 := Bool.eq_false_iff.mpr c13
                    subst c13
                    have H1 : (if t354 > 18 then (if x9_1 = true then (if x10_1 = true then (lexer_duration.l0 kj9 a0 (wrap64 (x5_1 + (wrap64 (t354 + (t355.size : Int))))) (mn x6_1 1099511627776) t356 true true true) else (lexer_duration.l0 kj9 a0 (wrap64 (x5_1 + (wrap64 (t354 + (t355.size : Int))))) (mn x6_1 1099511627776) t356 true true (decide (x6_1 > 1099511627776)))) else (if x10_1 = true then (lexer_duration.l0 kj9 a0 (wrap64 (x5_1 + (wrap64 (t354 + (t355.size : Int))))) (mn x6_1 1099511627776) t356 true (decide (t356 ≤ x7_1)) true) else (lexer_duration.l0 kj9 a0 (wrap64 (x5_1 + (wrap64 (t354 + (t355.size : Int))))) (mn x6_1 1099511627776) t356 true (decide (t356 ≤ x7_1)) (decide (x6_1 > 1099511627776))))) else (if 0 ≤ x5_1 then (if x5_1 ≤ (wrap64 (x5_1 + t354)) then (if (wrap64 (x5_1 + t354)) ≤ (a0.size : Int) then ((strconv_Atoi.f (a0.extract (x5_1 : Int).toNat ((wrap64 (x5_1 + t354)) : Int).toNat)).bind fun bt357 => (if bt357.2.isNone = true then ((lexer_length.f t355).bind fun t360 => (if t360 = 0 then (none) else (if bt357.1 > (wrap64 (Int.tdiv (1099511627776 : Int) t360)) then (if x9_1 = true then (lexer_duration.l0 kj9 a0 (wrap64 (x5_1 + (wrap64 (t354 + (t355.size : Int))))) (mn x6_1 1099511627776) t356 x8_1 true true) else (lexer_duration.l0 kj9 a0 (wrap64 (x5_1 + (wrap64 (t354 + (t355.size : Int))))) (mn x6_1 1099511627776) t356 x8_1 (decide (t356 ≤ x7_1)) true)) else ((lexer_length.f t355).bind fun t361 => (if x9_1 = true then (if x10_1 = true then (lexer_duration.l0 kj9 a0 (wrap64 (x5_1 + (wrap64 (t354 + (t355.size : Int))))) (mn (wrap64 (x6_1 + (wrap64 (bt357.1 * t361)))) 1099511627776) t356 x8_1 true true) else (lexer_duration.l0 kj9 a0 (wrap64 (x5_1 + (wrap64 (t354 + (t355.size : Int))))) (mn (wrap64 (x6_1 + (wrap64 (bt357.1 * t361)))) 1099511627776) t356 x8_1 true (decide ((wrap64 (x6_1 + (wrap64 (bt357.1 * t361)))) > 1099511627776)))) else (if x10_1 = true then (lexer_duration.l0 kj9 a0 (wrap64 (x5_1 + (wrap64 (t354 + (t355.size : Int))))) (mn (wrap64 (x6_1 + (wrap64 (bt357.1 * t361)))) 1099511627776) t356 x8_1 (decide (t356 ≤ x7_1)) true) else (lexer_duration.l0 kj9 a0 (wrap64 (x5_1 + (wrap64 (t354 + (t355.size : Int))))) (mn (wrap64 (x6_1 + (wrap64 (bt357.1 * t361)))) 1099511627776) t356 x8_1 (decide (t356 ≤ x7_1)) (decide ((wrap64 (x6_1 + (wrap64 (bt357.1 * t361)))) > 1099511627776))))))))) else (if x9_1 = true then (lexer_duration.l0 kj9 a0 (wrap64 (x5_1 + (wrap64 (t354 + (t355.size : Int))))) (mn x6_1 1099511627776) t356 x8_1 true true) else (lexer_duration.l0 kj9 a0 (wrap64 (x5_1 + (wrap64 (t354 + (t355.size : Int))))) (mn x6_1 1099511627776) t356 x8_1 (decide (t356 ≤ x7_1)) true)))) else (none)) else (none)) else (none))) = some (r1, r2, r3, r4, r5, r6, r7) := by rw [if_neg (show ¬ (false = true) by decide)] at H; exact H
                    clear H
                    have H := H1
                    clear H1
                    by_cases c28 : t354 > 18
                    · rw [if_pos c28] at H
                      have c28b0 : decide (18 < t354) = true := decide_eq_true c28
                      clear c28
                      by_cases c29 : x9_1 = true
                      · subst c29
                        have H1 : (if x10_1 = true then (lexer_duration.l0 kj9 a0 (wrap64 (x5_1 + (wrap64 (t354 + (t355.size : Int))))) (mn x6_1 1099511627776) t356 true true true) else (lexer_duration.l0 kj9 a0 (wrap64 (x5_1 + (wrap64 (t354 + (t355.size : Int))))) (mn x6_1 1099511627776) t356 true true (decide (x6_1 > 1099511627776)))) = some (r1, r2, r3, r4, r5, r6, r7) := by rw [if_pos rfl] at H; exact H
                        clear H
                        have H := H1
                        clear H1
                        by_cases c30 : x10_1 = true
                        · subst c30
                          have H1 : (lexer_duration.l0 kj9 a0 (wrap64 (x5_1 + (wrap64 (t354 + (t355.size : Int))))) (mn x6_1 1099511627776) t356 true true true) = some (r1, r2, r3, r4, r5, r6, r7) := by rw [if_pos rfl] at H; exact H
                          clear H
                          have H := H1
                          clear H1
                          obtain ⟨ji31, hji31⟩ : ∃ j_ : Int, (mn x6_1 1099511627776) = j_ := ⟨_, rfl⟩
                          replace H : (lexer_duration.l0 kj9 a0 (wrap64 (x5_1 + (wrap64 (t354 + (t355.size : Int))))) ji31 t356 true true true) = some (r1, r2, r3, r4, r5, r6, r7) := by first | (rw [hji31] at H; exact H) | (simp only [hji31] at H ⊢; exact H)
                          have hji31_ : (if 1099511627776 < x6_1 then 1099511627776 else x6_1) = ji31 := hji31
                          have H' := Aside0.mk H
                          clear H
                          go_wp2
                          go_roundg kj9
                          case measure => have := HK1.out; have := HJ9.out; omega
                          case rel => exact ⟨(wrap64 (x5_1 + (wrap64 (t354 + (t355.size : Int))))), (ji31), (t356), (true), (true), (true), (by first | rfl | (simp; done) | (simp [*]; done)), (by first | rfl | (simp; done) | (simp only [← hji31] <;> (first | rfl | simp)) | (simp [*]; done)), (by first | rfl | (simp; done) | (simp [*]; done)), (by first | rfl | (simp; done) | (simp [*]; done)), (by first | rfl | (simp; done) | (simp [*]; done)), (by first | rfl | (simp; done) | (simp [*]; done)), H', ⟨by have := HK1.out; have := HJ9.out; omega⟩, ⟨by (with_reducible repeat (first | refine blk_drewN ?_ _ | refine blk_drew ?_ | refine blk_alloc ?_ _)); exact BK353.out⟩, ⟨by repeat (first | (with_reducible first | exact HB.out | apply below_alloc | apply pw_below_drewN | apply below_drew1 | refine below_set ?_ GE353.out) | exact HB.out)⟩⟩
                        · replace c30 := Bool.eq_false_iff.mpr c30
                          subst c30
                          have H1 : (lexer_duration.l0 kj9 a0 (wrap64 (x5_1 + (wrap64 (t354 + (t355.size : Int))))) (mn x6_1 1099511627776) t356 true true (decide (x6_1 > 1099511627776))) = some (r1, r2, r3, r4, r5, r6, r7) := by rw [if_neg (show ¬ (false = true) by decide)] at H; exact H
                          clear H
                          have H := H1
                          clear H1
                          obtain ⟨ji32, hji32⟩ : ∃ j_ : Int, (mn x6_1 1099511627776) = j_ := ⟨_, rfl⟩
                          replace H : (lexer_duration.l0 kj9 a0 (wrap64 (x5_1 + (wrap64 (t354 + (t355.size : Int))))) ji32 t356 true true (decide (x6_1 > 1099511627776))) = some (r1, r2, r3, r4, r5, r6, r7) := by first | (rw [hji32] at H; exact H) | (simp only [hji32] at H ⊢; exact H)
                          have hji32_ : (if 1099511627776 < x6_1 then 1099511627776 else x6_1) = ji32 := hji32
                          have H' := Aside0.mk H
                          clear H
                          go_wp2
                          go_roundg kj9
                          case measure => have := HK1.out; have := HJ9.out; omega
                          case rel => exact ⟨(wrap64 (x5_1 + (wrap64 (t354 + (t355.size : Int))))), (ji32), (t356), (true), (true), (decide (x6_1 > 1099511627776)), (by first | rfl | (simp; done) | (simp [*]; done)), (by first | rfl | (simp; done) | (simp only [← hji32] <;> (first | rfl | simp)) | (simp [*]; done)), (by first | rfl | (simp; done) | (simp [*]; done)), (by first | rfl | (simp; done) | (simp [*]; done)), (by first | rfl | (simp; done) | (simp [*]; done)), (by first | rfl | (simp; done) | (simp [*]; done)), H', ⟨by have := HK1.out; have := HJ9.out; omega⟩, ⟨by (with_reducible repeat (first | refine blk_drewN ?_ _ | refine blk_drew ?_ | refine blk_alloc ?_ _)); exact BK353.out⟩, ⟨by repeat (first | (with_reducible first | exact HB.out | apply below_alloc | apply pw_below_drewN | apply below_drew1 | refine below_set ?_ GE353.out) | exact HB.out)⟩⟩
                      · replace c29 := Bool.eq_false_iff.mpr c29
                        subst c29
                        have H1 : (if x10_1 = true then (lexer_duration.l0 kj9 a0 (wrap64 (x5_1 + (wrap64 (t354 + (t355.size : Int))))) (mn x6_1 1099511627776) t356 true (decide (t356 ≤ x7_1)) true) else (lexer_duration.l0 kj9 a0 (wrap64 (x5_1 + (wrap64 (t354 + (t355.size : Int))))) (mn x6_1 1099511627776) t356 true (decide (t356 ≤ x7_1)) (decide (x6_1 > 1099511627776)))) = some (r1, r2, r3, r4, r5, r6, r7) := by rw [if_neg (show ¬ (false = true) by decide)] at H; exact H
                        clear H
                        have H := H1
                        clear H1
                        by_cases c33 : x10_1 = true
                        · subst c33
                          have H1 : (lexer_duration.l0 kj9 a0 (wrap64 (x5_1 + (wrap64 (t354 + (t355.size : Int))))) (mn x6_1 1099511627776) t356 true (decide (t356 ≤ x7_1)) true) = some (r1, r2, r3, r4, r5, r6, r7) := by rw [if_pos rfl] at H; exact H
                          clear H
                          have H := H1
                          clear H1
                          obtain ⟨ji34, hji34⟩ : ∃ j_ : Int, (mn x6_1 1099511627776) = j_ := ⟨_, rfl⟩
                          replace H : (lexer_duration.l0 kj9 a0 (wrap64 (x5_1 + (wrap64 (t354 + (t355.size : Int))))) ji34 t356 true (decide (t356 ≤ x7_1)) true) = some (r1, r2, r3, r4, r5, r6, r7) := by first | (rw [hji34] at H; exact H) | (simp only [hji34] at H ⊢; exact H)
                          have hji34_ : (if 1099511627776 < x6_1 then 1099511627776 else x6_1) = ji34 := hji34
                          have H' := Aside0.mk H
                          clear H
                          go_wp2
                          go_roundg kj9
                          case measure => have := HK1.out; have := HJ9.out; omega
                          case rel => exact ⟨(wrap64 (x5_1 + (wrap64 (t354 + (t355.size : Int))))), (ji34), (t356), (true), (decide (t356 ≤ x7_1)), (true), (by first | rfl | (simp; done) | (simp [*]; done)), (by first | rfl | (simp; done) | (simp only [← hji34] <;> (first | rfl | simp)) | (simp [*]; done)), (by first | rfl | (simp; done) | (simp [*]; done)), (by first | rfl | (simp; done) | (simp [*]; done)), (by first | rfl | (simp; done) | (simp [*]; done)), (by first | rfl | (simp; done) | (simp [*]; done)), H', ⟨by have := HK1.out; have := HJ9.out; omega⟩, ⟨by (with_reducible repeat (first | refine blk_drewN ?_ _ | refine blk_drew ?_ | refine blk_alloc ?_ _)); exact BK353.out⟩, ⟨by repeat (first | (with_reducible first | exact HB.out | apply below_alloc | apply pw_below_drewN | apply below_drew1 | refine below_set ?_ GE353.out) | exact HB.out)⟩⟩
                        · replace c33 := Bool.eq_false_iff.mpr c33
                          subst c33
                          have H1 : (lexer_duration.l0 kj9 a0 (wrap64 (x5_1 + (wrap64 (t354 + (t355.size : Int))))) (mn x6_1 1099511627776) t356 true (decide (t356 ≤ x7_1)) (decide (x6_1 > 1099511627776))) = some (r1, r2, r3, r4, r5, r6, r7) := by rw [if_neg (show ¬ (false = true) by decide)] at H; exact H
                          clear H
                          have H := H1
                          clear H1
                          obtain ⟨ji35, hji35⟩ : ∃ j_ : Int, (mn x6_1 1099511627776) = j_ := ⟨_, rfl⟩
                          replace H : (lexer_duration.l0 kj9 a0 (wrap64 (x5_1 + (wrap64 (t354 + (t355.size : Int))))) ji35 t356 true (decide (t356 ≤ x7_1)) (decide (x6_1 > 1099511627776))) = some (r1, r2, r3, r4, r5, r6, r7) := by first | (rw [hji35] at H; exact H) | (simp only [hji35] at H ⊢; exact H)
                          have hji35_ : (if 1099511627776 < x6_1 then 1099511627776 else x6_1) = ji35 := hji35
                          have H' := Aside0.mk H
                          clear H
                          go_wp2
                          go_roundg kj9
                          case measure => have := HK1.out; have := HJ9.out; omega
                          case rel => exact ⟨(wrap64 (x5_1 + (wrap64 (t354 + (t355.size : Int))))), (ji35), (t356), (true), (decide (t356 ≤ x7_1)), (decide (x6_1 > 1099511627776)), (by first | rfl | (simp; done) | (simp [*]; done)), (by first | rfl | (simp; done) | (simp only [← hji35] <;> (first | rfl | simp)) | (simp [*]; done)), (by first | rfl | (simp; done) | (simp [*]; done)), (by first | rfl | (simp; done) | (simp [*]; done)), (by first | rfl | (simp; done) | (simp [*]; done)), (by first | rfl | (simp; done) | (simp [*]; done)), H', ⟨by have := HK1.out; have := HJ9.out; omega⟩, ⟨by (with_reducible repeat (first | refine blk_drewN ?_ _ | refine blk_drew ?_ | refine blk_alloc ?_ _)); exact BK353.out⟩, ⟨by repeat (first | (with_reducible first | exact HB.out | apply below_alloc | apply pw_below_drewN | apply below_drew1 | refine below_set ?_ GE353.out) | exact HB.out)⟩⟩
                    · rw [if_neg c28] at H
                      have c28b0 : decide (18 < t354) = false := decide_eq_false c28
                      clear c28
                      by_cases c36 : 0 ≤ x5_1
                      · rw [if_pos c36] at H
                        have c36b0 := eq_true c36
                        have c36b1 : decide (0 ≤ x5_1) = true := decide_eq_true c36
                        clear c36
                        by_cases c37 : x5_1 ≤ (wrap64 (x5_1 + t354))
                        · rw [if_pos c37] at H
                          have c37b0 := eq_true c37
                          have c37b1 : decide (x5_1 ≤ (wrap64 (x5_1 + t354))) = true := decide_eq_true c37
                          by_cases c38 : (wrap64 (x5_1 + t354)) ≤ (a0.size : Int)
                          · rw [if_pos c38] at H
                            have c38b0 := eq_true c38
                            have c38b1 : decide ((wrap64 (x5_1 + t354)) ≤ (a0.size : Int)) = true := decide_eq_true c38
                            replace H := Option.bind_eq_some_iff.mp H
                            obtain ⟨⟨t357, t358⟩, A390, H⟩ := H
                            replace H : (if t358.isNone = true then ((lexer_length.f t355).bind fun t360 => (if t360 = 0 then (none) else (if t357 > (wrap64 (Int.tdiv (1099511627776 : Int) t360)) then (if x9_1 = true then (lexer_duration.l0 kj9 a0 (wrap64 (x5_1 + (wrap64 (t354 + (t355.size : Int))))) (mn x6_1 1099511627776) t356 x8_1 true true) else (lexer_duration.l0 kj9 a0 (wrap64 (x5_1 + (wrap64 (t354 + (t355.size : Int))))) (mn x6_1 1099511627776) t356 x8_1 (decide (t356 ≤ x7_1)) true)) else ((lexer_length.f t355).bind fun t361 => (if x9_1 = true then (if x10_1 = true then (lexer_duration.l0 kj9 a0 (wrap64 (x5_1 + (wrap64 (t354 + (t355.size : Int))))) (mn (wrap64 (x6_1 + (wrap64 (t357 * t361)))) 1099511627776) t356 x8_1 true true) else (lexer_duration.l0 kj9 a0 (wrap64 (x5_1 + (wrap64 (t354 + (t355.size : Int))))) (mn (wrap64 (x6_1 + (wrap64 (t357 * t361)))) 1099511627776) t356 x8_1 true (decide ((wrap64 (x6_1 + (wrap64 (t357 * t361)))) > 1099511627776)))) else (if x10_1 = true then (lexer_duration.l0 kj9 a0 (wrap64 (x5_1 + (wrap64 (t354 + (t355.size : Int))))) (mn (wrap64 (x6_1 + (wrap64 (t357 * t361)))) 1099511627776) t356 x8_1 (decide (t356 ≤ x7_1)) true) else (lexer_duration.l0 kj9 a0 (wrap64 (x5_1 + (wrap64 (t354 + (t355.size : Int))))) (mn (wrap64 (x6_1 + (wrap64 (t357 * t361)))) 1099511627776) t356 x8_1 (decide (t356 ≤ x7_1)) (decide ((wrap64 (x6_1 + (wrap64 (t357 * t361)))) > 1099511627776))))))))) else (if x9_1 = true then (lexer_duration.l0 kj9 a0 (wrap64 (x5_1 + (wrap64 (t354 + (t355.size : Int))))) (mn x6_1 1099511627776) t356 x8_1 true true) else (lexer_duration.l0 kj9 a0 (wrap64 (x5_1 + (wrap64 (t354 + (t355.size : Int))))) (mn x6_1 1099511627776) t356 x8_1 (decide (t356 ≤ x7_1)) true))) = some (r1, r2, r3, r4, r5, r6, r7) := H
                            have A39 := Aside0.mk A390
                            clear A390
                            rcases t358 with _ | q359
                            · have H1 : ((lexer_length.f t355).bind fun t360 => (if t360 = 0 then (none) else (if t357 > (wrap64 (Int.tdiv (1099511627776 : Int) t360)) then (if x9_1 = true then (lexer_duration.l0 kj9 a0 (wrap64 (x5_1 + (wrap64 (t354 + (t355.size : Int))))) (mn x6_1 1099511627776) t356 x8_1 true true) else (lexer_duration.l0 kj9 a0 (wrap64 (x5_1 + (wrap64 (t354 + (t355.size : Int))))) (mn x6_1 1099511627776) t356 x8_1 (decide (t356 ≤ x7_1)) true)) else ((lexer_length.f t355).bind fun t361 => (if x9_1 = true then (if x10_1 = true then (lexer_duration.l0 kj9 a0 (wrap64 (x5_1 + (wrap64 (t354 + (t355.size : Int))))) (mn (wrap64 (x6_1 + (wrap64 (t357 * t361)))) 1099511627776) t356 x8_1 true true) else (lexer_duration.l0 kj9 a0 (wrap64 (x5_1 + (wrap64 (t354 + (t355.size : Int))))) (mn (wrap64 (x6_1 + (wrap64 (t357 * t361)))) 1099511627776) t356 x8_1 true (decide ((wrap64 (x6_1 + (wrap64 (t357 * t361)))) > 1099511627776)))) else (if x10_1 = true then (lexer_duration.l0 kj9 a0 (wrap64 (x5_1 + (wrap64 (t354 + (t355.size : Int))))) (mn (wrap64 (x6_1 + (wrap64 (t357 * t361)))) 1099511627776) t356 x8_1 (decide (t356 ≤ x7_1)) true) else (lexer_duration.l0 kj9 a0 (wrap64 (x5_1 + (wrap64 (t354 + (t355.size : Int))))) (mn (wrap64 (x6_1 + (wrap64 (t357 * t361)))) 1099511627776) t356 x8_1 (decide (t356 ≤ x7_1)) (decide ((wrap64 (x6_1 + (wrap64 (t357 * t361)))) > 1099511627776))))))))) = some (r1, r2, r3, r4, r5, r6, r7) := by rw [if_pos (show (none : Option Int).isNone = true by rfl)] at H; exact H
                              clear H
                              have H := H1
                              clear H1
                              try simp only [errW_none, errW_some]
                              replace H := Option.bind_eq_some_iff.mp H
                              obtain ⟨t360, A400, H⟩ := H
                              replace H : (if t360 = 0 then (none) else (if t357 > (wrap64 (Int.tdiv (1099511627776 : Int) t360)) then (if x9_1 = true then (lexer_duration.l0 kj9 a0 (wrap64 (x5_1 + (wrap64 (t354 + (t355.size : Int))))) (mn x6_1 1099511627776) t356 x8_1 true true) else (lexer_duration.l0 kj9 a0 (wrap64 (x5_1 + (wrap64 (t354 + (t355.size : Int))))) (mn x6_1 1099511627776) t356 x8_1 (decide (t356 ≤ x7_1)) true)) else ((lexer_length.f t355).bind fun t361 => (if x9_1 = true then (if x10_1 = true then (lexer_duration.l0 kj9 a0 (wrap64 (x5_1 + (wrap64 (t354 + (t355.size : Int))))) (mn (wrap64 (x6_1 + (wrap64 (t357 * t361)))) 1099511627776) t356 x8_1 true true) else (lexer_duration.l0 kj9 a0 (wrap64 (x5_1 + (wrap64 (t354 + (t355.size : Int))))) (mn (wrap64 (x6_1 + (wrap64 (t357 * t361)))) 1099511627776) t356 x8_1 true (decide ((wrap64 (x6_1 + (wrap64 (t357 * t361)))) > 1099511627776)))) else (if x10_1 = true then (lexer_duration.l0 kj9 a0 (wrap64 (x5_1 + (wrap64 (t354 + (t355.size : Int))))) (mn (wrap64 (x6_1 + (wrap64 (t357 * t361)))) 1099511627776) t356 x8_1 (decide (t356 ≤ x7_1)) true) else (lexer_duration.l0 kj9 a0 (wrap64 (x5_1 + (wrap64 (t354 + (t355.size : Int))))) (mn (wrap64 (x6_1 + (wrap64 (t357 * t361)))) 1099511627776) t356 x8_1 (decide (t356 ≤ x7_1)) (decide ((wrap64 (x6_1 + (wrap64 (t357 * t361)))) > 1099511627776)))))))) = some (r1, r2, r3, r4, r5, r6, r7) := H
                              have A40 := Aside0.mk A400
                              clear A400
                              by_cases c41 : t360 = 0
                              · rw [if_pos c41] at H
                                exact absurd H (by simp)
                              · rw [if_neg c41] at H
                                have c41b0 : (t360 == 0) = false := beq_eq_false_iff_ne.mpr c41
                                have c41b1 : (t360 != 0) = true := bne_iff_ne.mpr c41
                                by_cases c42 : t357 > (wrap64 (Int.tdiv (1099511627776 : Int) t360))
                                · rw [if_pos c42] at H
                                  have c42b0 : decide ((wrap64 (Int.tdiv (1099511627776 : Int) t360)) < t357) = true := decide_eq_true c42
                                  clear c42
                                  by_cases c43 : x9_1 = true
                                  · subst c43
                                    have H1 : (lexer_duration.l0 kj9 a0 (wrap64 (x5_1 + (wrap64 (t354 + (t355.size : Int))))) (mn x6_1 1099511627776) t356 x8_1 true true) = some (r1, r2, r3, r4, r5, r6, r7) := by rw [if_pos rfl] at H; exact H
                                    clear H
                                    have H := H1
                                    clear H1
                                    obtain ⟨ji44, hji44⟩ : ∃ j_ : Int, (mn x6_1 1099511627776) = j_ := ⟨_, rfl⟩
                                    replace H : (lexer_duration.l0 kj9 a0 (wrap64 (x5_1 + (wrap64 (t354 + (t355.size : Int))))) ji44 t356 x8_1 true true) = some (r1, r2, r3, r4, r5, r6, r7) := by first | (rw [hji44] at H; exact H) | (simp only [hji44] at H ⊢; exact H)
                                    (try rw [hji44] at A39)
                                    (try rw [hji44] at A40)
                                    have hji44_ : (if 1099511627776 < x6_1 then 1099511627776 else x6_1) = ji44 := hji44
                                    have H' := Aside0.mk H
                                    clear H
                                    go_wp2_with (first | ((with_reducible refine gate_callee (f := 100) rfl ?_); refine goesL_ (some 44) rfl rfl Tryz.func100 (by kernel_rfl) rfl #[.string (a0.extract (x5_1 : Int).toNat ((wrap64 (x5_1 + t354)) : Int).toNat)] rfl (by (try simp only [List.map_toArray, List.map_cons, List.map_nil]); first | done | rfl | (simp only [List.length_drop, List.length_take]; rfl)) ?_; (with_reducible refine (strconv_Atoi.calls (a0.extract (x5_1 : Int).toNat ((wrap64 (x5_1 + t354)) : Int).toNat) t357 none _ ?side1 A39.out).mono ?_); (case side1 => exact Tabs.below HT.out (by repeat (first | (with_reducible first | exact HB.out | apply below_alloc | apply pw_below_drewN | apply below_drew1 | refine below_set ?_ GE353.out) | exact HB.out))); rintro e w45 ⟨rfl, hb⟩; refine ⟨_, rfl, ?_⟩; have n0_ := Aside0.mk (blk_below (g := gb353) (o := .cells #[.int .i64 0, .string (⟨#[]⟩ : ByteArray), .int .i64 0, .int .i64 0, .int .i64 0] 29 (0, 0)) (by (with_reducible repeat (first | refine blk_drewN ?_ _ | refine blk_drew ?_ | refine blk_alloc ?_ _)); exact BK353.out) hb); have n1_ := Aside0.mk (below_step (by repeat (first | (with_reducible first | exact HB.out | apply below_alloc | apply pw_below_drewN | apply below_drew1 | refine below_set ?_ GE353.out) | exact HB.out)) hb); clear BK353; clear HB; have BK353 := n0_; have HB := n1_; clear n0_ n1_; (try clear hb); (try clear hb2); (try clear hk); (try clear hi); (try simp only [errW_none, errW_some])) | (go_at_call 31; (with_reducible refine (lexer_length.calls t355 t360 _ A40.out).mono ?_); rintro e w' ⟨rfl, ⟨nd, rfl⟩⟩))
                                    go_roundg kj9
                                    case measure => have := HK1.out; have := HJ9.out; omega
                                    case rel => exact ⟨(wrap64 (x5_1 + (wrap64 (t354 + (t355.size : Int))))), (ji44), (t356), (x8_1), (true), (true), (by first | rfl | (simp; done) | (simp [*]; done)), (by first | rfl | (simp; done) | (simp only [← hji44] <;> (first | rfl | simp)) | (simp [*]; done)), (by first | rfl | (simp; done) | (simp [*]; done)), (by first | rfl | (simp; done) | (simp [*]; done)), (by first | rfl | (simp; done) | (simp [*]; done)), (by first | rfl | (simp; done) | (simp [*]; done)), H', ⟨by have := HK1.out; have := HJ9.out; omega⟩, ⟨by (with_reducible repeat (first | refine blk_drewN ?_ _ | refine blk_drew ?_ | refine blk_alloc ?_ _)); exact BK353.out⟩, ⟨by repeat (first | (with_reducible first | exact HB.out | apply below_alloc | apply pw_below_drewN | apply below_drew1 | refine below_set ?_ GE353.out) | exact HB.out)⟩⟩
                                  · replace c43 := Bool.eq_false_iff.mpr c43
                                    subst c43
                                    have H1 : (lexer_duration.l0 kj9 a0 (wrap64 (x5_1 + (wrap64 (t354 + (t355.size : Int))))) (mn x6_1 1099511627776) t356 x8_1 (decide (t356 ≤ x7_1)) true) = some (r1, r2, r3, r4, r5, r6, r7) := by rw [if_neg (show ¬ (false = true) by decide)] at H; exact H
                                    clear H
                                    have H := H1
                                    clear H1
                                    obtain ⟨ji46, hji46⟩ : ∃ j_ : Int, (mn x6_1 1099511627776) = j_ := ⟨_, rfl⟩
                                    replace H : (lexer_duration.l0 kj9 a0 (wrap64 (x5_1 + (wrap64 (t354 + (t355.size : Int))))) ji46 t356 x8_1 (decide (t356 ≤ x7_1)) true) = some (r1, r2, r3, r4, r5, r6, r7) := by first | (rw [hji46] at H; exact H) | (simp only [hji46] at H ⊢; exact H)
                                    (try rw [hji46] at A39)
                                    (try rw [hji46] at A40)
                                    have hji46_ : (if 1099511627776 < x6_1 then 1099511627776 else x6_1) = ji46 := hji46
                                    have H' := Aside0.mk H
                                    clear H
                                    go_wp2_with (first | ((with_reducible refine gate_callee (f := 100) rfl ?_); refine goesL_ (some 44) rfl rfl Tryz.func100 (by kernel_rfl) rfl #[.string (a0.extract (x5_1 : Int).toNat ((wrap64 (x5_1 + t354)) : Int).toNat)] rfl (by (try simp only [List.map_toArray, List.map_cons, List.map_nil]); first | done | rfl | (simp only [List.length_drop, List.length_take]; rfl)) ?_; (with_reducible refine (strconv_Atoi.calls (a0.extract (x5_1 : Int).toNat ((wrap64 (x5_1 + t354)) : Int).toNat) t357 none _ ?side1 A39.out).mono ?_); (case side1 => exact Tabs.below HT.out (by repeat (first | (with_reducible first | exact HB.out | apply below_alloc | apply pw_below_drewN | apply below_drew1 | refine below_set ?_ GE353.out) | exact HB.out))); rintro e w47 ⟨rfl, hb⟩; refine ⟨_, rfl, ?_⟩; have n0_ := Aside0.mk (blk_below (g := gb353) (o := .cells #[.int .i64 0, .string (⟨#[]⟩ : ByteArray), .int .i64 0, .int .i64 0, .int .i64 0] 29 (0, 0)) (by (with_reducible repeat (first | refine blk_drewN ?_ _ | refine blk_drew ?_ | refine blk_alloc ?_ _)); exact BK353.out) hb); have n1_ := Aside0.mk (below_step (by repeat (first | (with_reducible first | exact HB.out | apply below_alloc | apply pw_below_drewN | apply below_drew1 | refine below_set ?_ GE353.out) | exact HB.out)) hb); clear BK353; clear HB; have BK353 := n0_; have HB := n1_; clear n0_ n1_; (try clear hb); (try clear hb2); (try clear hk); (try clear hi); (try simp only [errW_none, errW_some])) | (go_at_call 31; (with_reducible refine (lexer_length.calls t355 t360 _ A40.out).mono ?_); rintro e w' ⟨rfl, ⟨nd, rfl⟩⟩))
                                    go_roundg kj9
                                    case measure => have := HK1.out; have := HJ9.out; omega
                                    case rel => exact ⟨(wrap64 (x5_1 + (wrap64 (t354 + (t355.size : Int))))), (ji46), (t356), (x8_1), (decide (t356 ≤ x7_1)), (true), (by first | rfl | (simp; done) | (simp [*]; done)), (by first | rfl | (simp; done) | (simp only [← hji46] <;> (first | rfl | simp)) | (simp [*]; done)), (by first | rfl | (simp; done) | (simp [*]; done)), (by first | rfl | (simp; done) | (simp [*]; done)), (by first | rfl | (simp; done) | (simp [*]; done)), (by first | rfl | (simp; done) | (simp [*]; done)), H', ⟨by have := HK1.out; have := HJ9.out; omega⟩, ⟨by (with_reducible repeat (first | refine blk_drewN ?_ _ | refine blk_drew ?_ | refine blk_alloc ?_ _)); exact BK353.out⟩, ⟨by repeat (first | (with_reducible first | exact HB.out | apply below_alloc | apply pw_below_drewN | apply below_drew1 | refine below_set ?_ GE353.out) | exact HB.out)⟩⟩
                                · rw [if_neg c42] at H
                                  have c42b0 : decide ((wrap64 (Int.tdiv (1099511627776 : Int) t360)) < t357) = false := decide_eq_false c42
                                  clear c42
                                  replace H := Option.bind_eq_some_iff.mp H
                                  obtain ⟨t361, A480, H⟩ := H
                                  replace H : (if x9_1 = true then (if x10_1 = true then (lexer_duration.l0 kj9 a0 (wrap64 (x5_1 + (wrap64 (t354 + (t355.size : Int))))) (mn (wrap64 (x6_1 + (wrap64 (t357 * t361)))) 1099511627776) t356 x8_1 true true) else (lexer_duration.l0 kj9 a0 (wrap64 (x5_1 + (wrap64 (t354 + (t355.size : Int))))) (mn (wrap64 (x6_1 + (wrap64 (t357 * t361)))) 1099511627776) t356 x8_1 true (decide ((wrap64 (x6_1 + (wrap64 (t357 * t361)))) > 1099511627776)))) else (if x10_1 = true then (lexer_duration.l0 kj9 a0 (wrap64 (x5_1 + (wrap64 (t354 + (t355.size : Int))))) (mn (wrap64 (x6_1 + (wrap64 (t357 * t361)))) 1099511627776) t356 x8_1 (decide (t356 ≤ x7_1)) true) else (lexer_duration.l0 kj9 a0 (wrap64 (x5_1 + (wrap64 (t354 + (t355.size : Int))))) (mn (wrap64 (x6_1 + (wrap64 (t357 * t361)))) 1099511627776) t356 x8_1 (decide (t356 ≤ x7_1)) (decide ((wrap64 (x6_1 + (wrap64 (t357 * t361)))) > 1099511627776))))) = some (r1, r2, r3, r4, r5, r6, r7) := H
                                  have A48 := Aside0.mk A480
                                  clear A480
                                  by_cases c49 : x9_1 = true
                                  · subst c49
                                    have H1 : (if x10_1 = true then (lexer_duration.l0 kj9 a0 (wrap64 (x5_1 + (wrap64 (t354 + (t355.size : Int))))) (mn (wrap64 (x6_1 + (wrap64 (t357 * t361)))) 1099511627776) t356 x8_1 true true) else (lexer_duration.l0 kj9 a0 (wrap64 (x5_1 + (wrap64 (t354 + (t355.size : Int))))) (mn (wrap64 (x6_1 + (wrap64 (t357 * t361)))) 1099511627776) t356 x8_1 true (decide ((wrap64 (x6_1 + (wrap64 (t357 * t361)))) > 1099511627776)))) = some (r1, r2, r3, r4, r5, r6, r7) := by rw [if_pos rfl] at H; exact H
                                    clear H
                                    have H := H1
                                    clear H1
                                    by_cases c50 : x10_1 = true
                                    · subst c50
                                      have H1 : (lexer_duration.l0 kj9 a0 (wrap64 (x5_1 + (wrap64 (t354 + (t355.size : Int))))) (mn (wrap64 (x6_1 + (wrap64 (t357 * t361)))) 1099511627776) t356 x8_1 true true) = some (r1, r2, r3, r4, r5, r6, r7) := by rw [if_pos rfl] at H; exact H
                                      clear H
                                      have H := H1
                                      clear H1
                                      obtain ⟨ji51, hji51⟩ : ∃ j_ : Int, (mn (wrap64 (x6_1 + (wrap64 (t357 * t361)))) 1099511627776) = j_ := ⟨_, rfl⟩
                                      replace H : (lexer_duration.l0 kj9 a0 (wrap64 (x5_1 + (wrap64 (t354 + (t355.size : Int))))) ji51 t356 x8_1 true true) = some (r1, r2, r3, r4, r5, r6, r7) := by first | (rw [hji51] at H; exact H) | (simp only [hji51] at H ⊢; exact H)
                                      (try rw [hji51] at A39)
                                      (try rw [hji51] at A40)
                                      (try rw [hji51] at A48)
                                      have hji51_ : (if 1099511627776 < (wrap64 (x6_1 + (wrap64 (t357 * t361)))) then 1099511627776 else (wrap64 (x6_1 + (wrap64 (t357 * t361))))) = ji51 := hji51
                                      have H' := Aside0.mk H
                                      clear H
                                      go_wp2_with (first | ((with_reducible refine gate_callee (f := 100) rfl ?_); refine goesL_ (some 44) rfl rfl Tryz.func100 (by kernel_rfl) rfl #[.string (a0.extract (x5_1 : Int).toNat ((wrap64 (x5_1 + t354)) : Int).toNat)] rfl (by (try simp only [List.map_toArray, List.map_cons, List.map_nil]); first | done | rfl | (simp only [List.length_drop, List.length_take]; rfl)) ?_; (with_reducible refine (strconv_Atoi.calls (a0.extract (x5_1 : Int).toNat ((wrap64 (x5_1 + t354)) : Int).toNat) t357 none _ ?side1 A39.out).mono ?_); (case side1 => exact Tabs.below HT.out (by repeat (first | (with_reducible first | exact HB.out | apply below_alloc | apply pw_below_drewN | apply below_drew1 | refine below_set ?_ GE353.out) | exact HB.out))); rintro e w52 ⟨rfl, hb⟩; refine ⟨_, rfl, ?_⟩; have n0_ := Aside0.mk (blk_below (g := gb353) (o := .cells #[.int .i64 0, .string (⟨#[]⟩ : ByteArray), .int .i64 0, .int .i64 0, .int .i64 0] 29 (0, 0)) (by (with_reducible repeat (first | refine blk_drewN ?_ _ | refine blk_drew ?_ | refine blk_alloc ?_ _)); exact BK353.out) hb); have n1_ := Aside0.mk (below_step (by repeat (first | (with_reducible first | exact HB.out | apply below_alloc | apply pw_below_drewN | apply below_drew1 | refine below_set ?_ GE353.out) | exact HB.out)) hb); clear BK353; clear HB; have BK353 := n0_; have HB := n1_; clear n0_ n1_; (try clear hb); (try clear hb2); (try clear hk); (try clear hi); (try simp only [errW_none, errW_some])) | (go_at_call 31; (with_reducible refine (lexer_length.calls t355 t360 _ A40.out).mono ?_); rintro e w' ⟨rfl, ⟨nd, rfl⟩⟩) | ((with_reducible refine gate_callee (f := 31) rfl ?_); refine goesL_ (some 59) rfl rfl Tryz.func31 (by kernel_rfl) rfl #[.string t355] rfl (by (try simp only [List.map_toArray, List.map_cons, List.map_nil]); first | done | rfl | (simp only [List.length_drop, List.length_take]; rfl)) ?_; (with_reducible refine (lexer_length.calls t355 t361 _ A48.out).mono ?_); rintro e w' ⟨rfl, ⟨nd, rfl⟩⟩; refine ⟨_, rfl, ?_⟩))
                                      go_roundg kj9
                                      case measure => have := HK1.out; have := HJ9.out; omega
                                      case rel => exact ⟨(wrap64 (x5_1 + (wrap64 (t354 + (t355.size : Int))))), (ji51), (t356), (x8_1), (true), (true), (by first | rfl | (simp; done) | (simp [*]; done)), (by first | rfl | (simp; done) | (simp only [← hji51] <;> (first | rfl | simp)) | (simp [*]; done)), (by first | rfl | (simp; done) | (simp [*]; done)), (by first | rfl | (simp; done) | (simp [*]; done)), (by first | rfl | (simp; done) | (simp [*]; done)), (by first | rfl | (simp; done) | (simp [*]; done)), H', ⟨by have := HK1.out; have := HJ9.out; omega⟩, ⟨by (with_reducible repeat (first | refine blk_drewN ?_ _ | refine blk_drew ?_ | refine blk_alloc ?_ _)); exact BK353.out⟩, ⟨by repeat (first | (with_reducible first | exact HB.out | apply below_alloc | apply pw_below_drewN | apply below_drew1 | refine below_set ?_ GE353.out) | exact HB.out)⟩⟩
                                    · replace c50 := Bool.eq_false_iff.mpr c50
                                      subst c50
                                      have H1 : (lexer_duration.l0 kj9 a0 (wrap64 (x5_1 + (wrap64 (t354 + (t355.size : Int))))) (mn (wrap64 (x6_1 + (wrap64 (t357 * t361)))) 1099511627776) t356 x8_1 true (decide ((wrap64 (x6_1 + (wrap64 (t357 * t361)))) > 1099511627776))) = some (r1, r2, r3, r4, r5, r6, r7) := by rw [if_neg (show ¬ (false = true) by decide)] at H; exact H
                                      clear H
                                      have H := H1
                                      clear H1
                                      obtain ⟨ji53, hji53⟩ : ∃ j_ : Int, (mn (wrap64 (x6_1 + (wrap64 (t357 * t361)))) 1099511627776) = j_ := ⟨_, rfl⟩
                                      replace H : (lexer_duration.l0 kj9 a0 (wrap64 (x5_1 + (wrap64 (t354 + (t355.size : Int))))) ji53 t356 x8_1 true (decide ((wrap64 (x6_1 + (wrap64 (t357 * t361)))) > 1099511627776))) = some (r1, r2, r3, r4, r5, r6, r7) := by first | (rw [hji53] at H; exact H) | (simp only [hji53] at H ⊢; exact H)
                                      (try rw [hji53] at A39)
                                      (try rw [hji53] at A40)
                                      (try rw [hji53] at A48)
                                      have hji53_ : (if 1099511627776 < (wrap64 (x6_1 + (wrap64 (t357 * t361)))) then 1099511627776 else (wrap64 (x6_1 + (wrap64 (t357 * t361))))) = ji53 := hji53
                                      have H' := Aside0.mk H
                                      clear H
                                      go_wp2_with (first | ((with_reducible refine gate_callee (f := 100) rfl ?_); refine goesL_ (some 44) rfl rfl Tryz.func100 (by kernel_rfl) rfl #[.string (a0.extract (x5_1 : Int).toNat ((wrap64 (x5_1 + t354)) : Int).toNat)] rfl (by (try simp only [List.map_toArray, List.map_cons, List.map_nil]); first | done | rfl | (simp only [List.length_drop, List.length_take]; rfl)) ?_; (with_reducible refine (strconv_Atoi.calls (a0.extract (x5_1 : Int).toNat ((wrap64 (x5_1 + t354)) : Int).toNat) t357 none _ ?side1 A39.out).mono ?_); (case side1 => exact Tabs.below HT.out (by repeat (first | (with_reducible first | exact HB.out | apply below_alloc | apply pw_below_drewN | apply below_drew1 | refine below_set ?_ GE353.out) | exact HB.out))); rintro e w54 ⟨rfl, hb⟩; refine ⟨_, rfl, ?_⟩; have n0_ := Aside0.mk (blk_below (g := gb353) (o := .cells #[.int .i64 0, .string (⟨#[]⟩ : ByteArray), .int .i64 0, .int .i64 0, .int .i64 0] 29 (0, 0)) (by (with_reducible repeat (first | refine blk_drewN ?_ _ | refine blk_drew ?_ | refine blk_alloc ?_ _)); exact BK353.out) hb); have n1_ := Aside0.mk (below_step (by repeat (first | (with_reducible first | exact HB.out | apply below_alloc | apply pw_below_drewN | apply below_drew1 | refine below_set ?_ GE353.out) | exact HB.out)) hb); clear BK353; clear HB; have BK353 := n0_; have HB := n1_; clear n0_ n1_; (try clear hb); (try clear hb2); (try clear hk); (try clear hi); (try simp only [errW_none, errW_some])) | (go_at_call 31; (with_reducible refine (lexer_length.calls t355 t360 _ A40.out).mono ?_); rintro e w' ⟨rfl, ⟨nd, rfl⟩⟩) | ((with_reducible refine gate_callee (f := 31) rfl ?_); refine goesL_ (some 59) rfl rfl Tryz.func31 (by kernel_rfl) rfl #[.string t355] rfl (by (try simp only [List.map_toArray, List.map_cons, List.map_nil]); first | done | rfl | (simp only [List.length_drop, List.length_take]; rfl)) ?_; (with_reducible refine (lexer_length.calls t355 t361 _ A48.out).mono ?_); rintro e w' ⟨rfl, ⟨nd, rfl⟩⟩; refine ⟨_, rfl, ?_⟩))
                                      go_roundg kj9
                                      case measure => have := HK1.out; have := HJ9.out; omega
                                      case rel => exact ⟨(wrap64 (x5_1 + (wrap64 (t354 + (t355.size : Int))))), (ji53), (t356), (x8_1), (true), (decide ((wrap64 (x6_1 + (wrap64 (t357 * t361)))) > 1099511627776)), (by first | rfl | (simp; done) | (simp [*]; done)), (by first | rfl | (simp; done) | (simp only [← hji53] <;> (first | rfl | simp)) | (simp [*]; done)), (by first | rfl | (simp; done) | (simp [*]; done)), (by first | rfl | (simp; done) | (simp [*]; done)), (by first | rfl | (simp; done) | (simp [*]; done)), (by first | rfl | (simp; done) | (simp [*]; done)), H', ⟨by have := HK1.out; have := HJ9.out; omega⟩, ⟨by (with_reducible repeat (first | refine blk_drewN ?_ _ | refine blk_drew ?_ | refine blk_alloc ?_ _)); exact BK353.out⟩, ⟨by repeat (first | (with_reducible first | exact HB.out | apply below_alloc | apply pw_below_drewN | apply below_drew1 | refine below_set ?_ GE353.out) | exact HB.out)⟩⟩
                                  · replace c49 := Bool.eq_false_iff.mpr c49
                                    subst c49
                                    have H1 : (if x10_1 = true then (lexer_duration.l0 kj9 a0 (wrap64 (x5_1 + (wrap64 (t354 + (t355.size : Int))))) (mn (wrap64 (x6_1 + (wrap64 (t357 * t361)))) 1099511627776) t356 x8_1 (decide (t356 ≤ x7_1)) true) else (lexer_duration.l0 kj9 a0 (wrap64 (x5_1 + (wrap64 (t354 + (t355.size : Int))))) (mn (wrap64 (x6_1 + (wrap64 (t357 * t361)))) 1099511627776) t356 x8_1 (decide (t356 ≤ x7_1)) (decide ((wrap64 (x6_1 + (wrap64 (t357 * t361)))) > 1099511627776)))) = some (r1, r2, r3, r4, r5, r6, r7) := by rw [if_neg (show ¬ (false = true) by decide)] at H; exact H
                                    clear H
                                    have H := H1
                                    clear H1
                                    by_cases c55 : x10_1 = true
                                    · subst c55
                                      have H1 : (lexer_duration.l0 kj9 a0 (wrap64 (x5_1 + (wrap64 (t354 + (t355.size : Int))))) (mn (wrap64 (x6_1 + (wrap64 (t357 * t361)))) 1099511627776) t356 x8_1 (decide (t356 ≤ x7_1)) true) = some (r1, r2, r3, r4, r5, r6, r7) := by rw [if_pos rfl] at H; exact H
                                      clear H
                                      have H := H1
                                      clear H1
                                      obtain ⟨ji56, hji56⟩ : ∃ j_ : Int, (mn (wrap64 (x6_1 + (wrap64 (t357 * t361)))) 1099511627776) = j_ := ⟨_, rfl⟩
                                      replace H : (lexer_duration.l0 kj9 a0 (wrap64 (x5_1 + (wrap64 (t354 + (t355.size : Int))))) ji56 t356 x8_1 (decide (t356 ≤ x7_1)) true) = some (r1, r2, r3, r4, r5, r6, r7) := by first | (rw [hji56] at H; exact H) | (simp only [hji56] at H ⊢; exact H)
                                      (try rw [hji56] at A39)
                                      (try rw [hji56] at A40)
                                      (try rw [hji56] at A48)
                                      have hji56_ : (if 1099511627776 < (wrap64 (x6_1 + (wrap64 (t357 * t361)))) then 1099511627776 else (wrap64 (x6_1 + (wrap64 (t357 * t361))))) = ji56 := hji56
                                      have H' := Aside0.mk H
                                      clear H
                                      go_wp2_with (first | ((with_reducible refine gate_callee (f := 100) rfl ?_); refine goesL_ (some 44) rfl rfl Tryz.func100 (by kernel_rfl) rfl #[.string (a0.extract (x5_1 : Int).toNat ((wrap64 (x5_1 + t354)) : Int).toNat)] rfl (by (try simp only [List.map_toArray, List.map_cons, List.map_nil]); first | done | rfl | (simp only [List.length_drop, List.length_take]; rfl)) ?_; (with_reducible refine (strconv_Atoi.calls (a0.extract (x5_1 : Int).toNat ((wrap64 (x5_1 + t354)) : Int).toNat) t357 none _ ?side1 A39.out).mono ?_); (case side1 => exact Tabs.below HT.out (by repeat (first | (with_reducible first | exact HB.out | apply below_alloc | apply pw_below_drewN | apply below_drew1 | refine below_set ?_ GE353.out) | exact HB.out))); rintro e w57 ⟨rfl, hb⟩; refine ⟨_, rfl, ?_⟩; have n0_ := Aside0.mk (blk_below (g := gb353) (o := .cells #[.int .i64 0, .string (⟨#[]⟩ : ByteArray), .int .i64 0, .int .i64 0, .int .i64 0] 29 (0, 0)) (by (with_reducible repeat (first | refine blk_drewN ?_ _ | refine blk_drew ?_ | refine blk_alloc ?_ _)); exact BK353.out) hb); have n1_ := Aside0.mk (below_step (by repeat (first | (with_reducible first | exact HB.out | apply below_alloc | apply pw_below_drewN | apply below_drew1 | refine below_set ?_ GE353.out) | exact HB.out)) hb); clear BK353; clear HB; have BK353 := n0_; have HB := n1_; clear n0_ n1_; (try clear hb); (try clear hb2); (try clear hk); (try clear hi); (try simp only [errW_none, errW_some])) | (go_at_call 31; (with_reducible refine (lexer_length.calls t355 t360 _ A40.out).mono ?_); rintro e w' ⟨rfl, ⟨nd, rfl⟩⟩) | ((with_reducible refine gate_callee (f := 31) rfl ?_); refine goesL_ (some 59) rfl rfl Tryz.func31 (by kernel_rfl) rfl #[.string t355] rfl (by (try simp only [List.map_toArray, List.map_cons, List.map_nil]); first | done | rfl | (simp only [List.length_drop, List.length_take]; rfl)) ?_; (with_reducible refine (lexer_length.calls t355 t361 _ A48.out).mono ?_); rintro e w' ⟨rfl, ⟨nd, rfl⟩⟩; refine ⟨_, rfl, ?_⟩))
                                      go_roundg kj9
                                      case measure => have := HK1.out; have := HJ9.out; omega
                                      case rel => exact ⟨(wrap64 (x5_1 + (wrap64 (t354 + (t355.size : Int))))), (ji56), (t356), (x8_1), (decide (t356 ≤ x7_1)), (true), (by first | rfl | (simp; done) | (simp [*]; done)), (by first | rfl | (simp; done) | (simp only [← hji56] <;> (first | rfl | simp)) | (simp [*]; done)), (by first | rfl | (simp; done) | (simp [*]; done)), (by first | rfl | (simp; done) | (simp [*]; done)), (by first | rfl | (simp; done) | (simp [*]; done)), (by first | rfl | (simp; done) | (simp [*]; done)), H', ⟨by have := HK1.out; have := HJ9.out; omega⟩, ⟨by (with_reducible repeat (first | refine blk_drewN ?_ _ | refine blk_drew ?_ | refine blk_alloc ?_ _)); exact BK353.out⟩, ⟨by repeat (first | (with_reducible first | exact HB.out | apply below_alloc | apply pw_below_drewN | apply below_drew1 | refine below_set ?_ GE353.out) | exact HB.out)⟩⟩
                                    · replace c55 := Bool.eq_false_iff.mpr c55
                                      subst c55
                                      have H1 : (lexer_duration.l0 kj9 a0 (wrap64 (x5_1 + (wrap64 (t354 + (t355.size : Int))))) (mn (wrap64 (x6_1 + (wrap64 (t357 * t361)))) 1099511627776) t356 x8_1 (decide (t356 ≤ x7_1)) (decide ((wrap64 (x6_1 + (wrap64 (t357 * t361)))) > 1099511627776))) = some (r1, r2, r3, r4, r5, r6, r7) := by rw [if_neg (show ¬ (false = true) by decide)] at H; exact H
                                      clear H
                                      have H := H1
                                      clear H1
                                      obtain ⟨ji58, hji58⟩ : ∃ j_ : Int, (mn (wrap64 (x6_1 + (wrap64 (t357 * t361)))) 1099511627776) = j_ := ⟨_, rfl⟩
                                      replace H : (lexer_duration.l0 kj9 a0 (wrap64 (x5_1 + (wrap64 (t354 + (t355.size : Int))))) ji58 t356 x8_1 (decide (t356 ≤ x7_1)) (decide ((wrap64 (x6_1 + (wrap64 (t357 * t361)))) > 1099511627776))) = some (r1, r2, r3, r4, r5, r6, r7) := by first | (rw [hji58] at H; exact H) | (simp only [hji58] at H ⊢; exact H)
                                      (try rw [hji58] at A39)
                                      (try rw [hji58] at A40)
                                      (try rw [hji58] at A48)
                                      have hji58_ : (if 1099511627776 < (wrap64 (x6_1 + (wrap64 (t357 * t361)))) then 1099511627776 else (wrap64 (x6_1 + (wrap64 (t357 * t361))))) = ji58 := hji58
                                      have H' := Aside0.mk H
                                      clear H
                                      go_wp2_with (first | ((with_reducible refine gate_callee (f := 100) rfl ?_); refine goesL_ (some 44) rfl rfl Tryz.func100 (by kernel_rfl) rfl #[.string (a0.extract (x5_1 : Int).toNat ((wrap64 (x5_1 + t354)) : Int).toNat)] rfl (by (try simp only [List.map_toArray, List.map_cons, List.map_nil]); first | done | rfl | (simp only [List.length_drop, List.length_take]; rfl)) ?_; (with_reducible refine (strconv_Atoi.calls (a0.extract (x5_1 : Int).toNat ((wrap64 (x5_1 + t354)) : Int).toNat) t357 none _ ?side1 A39.out).mono ?_); (case side1 => exact Tabs.below HT.out (by repeat (first | (with_reducible first | exact HB.out | apply below_alloc | apply pw_below_drewN | apply below_drew1 | refine below_set ?_ GE353.out) | exact HB.out))); rintro e w59 ⟨rfl, hb⟩; refine ⟨_, rfl, ?_⟩; have n0_ := Aside0.mk (blk_below (g := gb353) (o := .cells #[.int .i64 0, .string (⟨#[]⟩ : ByteArray), .int .i64 0, .int .i64 0, .int .i64 0] 29 (0, 0)) (by (with_reducible repeat (first | refine blk_drewN ?_ _ | refine blk_drew ?_ | refine blk_alloc ?_ _)); exact BK353.out) hb); have n1_ := Aside0.mk (below_step (by repeat (first | (with_reducible first | exact HB.out | apply below_alloc | apply pw_below_drewN | apply below_drew1 | refine below_set ?_ GE353.out) | exact HB.out)) hb); clear BK353; clear HB; have BK353 := n0_; have HB := n1_; clear n0_ n1_; (try clear hb); (try clear hb2); (try clear hk); (try clear hi); (try simp only [errW_none, errW_some])) | (go_at_call 31; (with_reducible refine (lexer_length.calls t355 t360 _ A40.out).mono ?_); rintro e w' ⟨rfl, ⟨nd, rfl⟩⟩) | ((with_reducible refine gate_callee (f := 31) rfl ?_); refine goesL_ (some 59) rfl rfl Tryz.func31 (by kernel_rfl) rfl #[.string t355] rfl (by (try simp only [List.map_toArray, List.map_cons, List.map_nil]); first | done | rfl | (simp only [List.length_drop, List.length_take]; rfl)) ?_; (with_reducible refine (lexer_length.calls t355 t361 _ A48.out).mono ?_); rintro e w' ⟨rfl, ⟨nd, rfl⟩⟩; refine ⟨_, rfl, ?_⟩))
                                      go_roundg kj9
                                      case measure => have := HK1.out; have := HJ9.out; omega
                                      case rel => exact ⟨(wrap64 (x5_1 + (wrap64 (t354 + (t355.size : Int))))), (ji58), (t356), (x8_1), (decide (t356 ≤ x7_1)), (decide ((wrap64 (x6_1 + (wrap64 (t357 * t361)))) > 1099511627776)), (by first | rfl | (simp; done) | (simp [*]; done)), (by first | rfl | (simp; done) | (simp only [← hji58] <;> (first | rfl | simp)) | (simp [*]; done)), (by first | rfl | (simp; done) | (simp [*]; done)), (by first | rfl | (simp; done) | (simp [*]; done)), (by first | rfl | (simp; done) | (simp [*]; done)), (by first | rfl | (simp; done) | (simp [*]; done)), H', ⟨by have := HK1.out; have := HJ9.out; omega⟩, ⟨by (with_reducible repeat (first | refine blk_drewN ?_ _ | refine blk_drew ?_ | refine blk_alloc ?_ _)); exact BK353.out⟩, ⟨by repeat (first | (with_reducible first | exact HB.out | apply below_alloc | apply pw_below_drewN | apply below_drew1 | refine below_set ?_ GE353.out) | exact HB.out)⟩⟩
                            · have H1 : (if x9_1 = true then (lexer_duration.l0 kj9 a0 (wrap64 (x5_1 + (wrap64 (t354 + (t355.size : Int))))) (mn x6_1 1099511627776) t356 x8_1 true true) else (lexer_duration.l0 kj9 a0 (wrap64 (x5_1 + (wrap64 (t354 + (t355.size : Int))))) (mn x6_1 1099511627776) t356 x8_1 (decide (t356 ≤ x7_1)) true)) = some (r1, r2, r3, r4, r5, r6, r7) := by rw [if_neg (show ¬ (some q359).isNone = true by simp)] at H; exact H
                              clear H
                              have H := H1
                              clear H1
                              try simp only [errW_none, errW_some]
                              by_cases c60 : x9_1 = true
                              · subst c60
                                have H1 : (lexer_duration.l0 kj9 a0 (wrap64 (x5_1 + (wrap64 (t354 + (t355.size : Int))))) (mn x6_1 1099511627776) t356 x8_1 true true) = some (r1, r2, r3, r4, r5, r6, r7) := by rw [if_pos rfl] at H; exact H
                                clear H
                                have H := H1
                                clear H1
                                obtain ⟨ji61, hji61⟩ : ∃ j_ : Int, (mn x6_1 1099511627776) = j_ := ⟨_, rfl⟩
                                replace H : (lexer_duration.l0 kj9 a0 (wrap64 (x5_1 + (wrap64 (t354 + (t355.size : Int))))) ji61 t356 x8_1 true true) = some (r1, r2, r3, r4, r5, r6, r7) := by first | (rw [hji61] at H; exact H) | (simp only [hji61] at H ⊢; exact H)
                                (try rw [hji61] at A39)
                                have hji61_ : (if 1099511627776 < x6_1 then 1099511627776 else x6_1) = ji61 := hji61
                                have H' := Aside0.mk H
                                clear H
                                go_wp2_with (first | ((with_reducible refine gate_callee (f := 100) rfl ?_); refine goesL_ (some 44) rfl rfl Tryz.func100 (by kernel_rfl) rfl #[.string (a0.extract (x5_1 : Int).toNat ((wrap64 (x5_1 + t354)) : Int).toNat)] rfl (by (try simp only [List.map_toArray, List.map_cons, List.map_nil]); first | done | rfl | (simp only [List.length_drop, List.length_take]; rfl)) ?_; (with_reducible refine (strconv_Atoi.calls (a0.extract (x5_1 : Int).toNat ((wrap64 (x5_1 + t354)) : Int).toNat) t357 (some q359) _ ?side1 A39.out).mono ?_); (case side1 => exact Tabs.below HT.out (by repeat (first | (with_reducible first | exact HB.out | apply below_alloc | apply pw_below_drewN | apply below_drew1 | refine below_set ?_ GE353.out) | exact HB.out))); rintro e w62 ⟨rfl, hb⟩; refine ⟨_, rfl, ?_⟩; have n0_ := Aside0.mk (blk_below (g := gb353) (o := .cells #[.int .i64 0, .string (⟨#[]⟩ : ByteArray), .int .i64 0, .int .i64 0, .int .i64 0] 29 (0, 0)) (by (with_reducible repeat (first | refine blk_drewN ?_ _ | refine blk_drew ?_ | refine blk_alloc ?_ _)); exact BK353.out) hb); have n1_ := Aside0.mk (below_step (by repeat (first | (with_reducible first | exact HB.out | apply below_alloc | apply pw_below_drewN | apply below_drew1 | refine below_set ?_ GE353.out) | exact HB.out)) hb); clear BK353; clear HB; have BK353 := n0_; have HB := n1_; clear n0_ n1_; (try clear hb); (try clear hb2); (try clear hk); (try clear hi); (try simp only [errW_none, errW_some])))
                                go_roundg kj9
                                case measure => have := HK1.out; have := HJ9.out; omega
                                case rel => exact ⟨(wrap64 (x5_1 + (wrap64 (t354 + (t355.size : Int))))), (ji61), (t356), (x8_1), (true), (true), (by first | rfl | (simp; done) | (simp [*]; done)), (by first | rfl | (simp; done) | (simp only [← hji61] <;> (first | rfl | simp)) | (simp [*]; done)), (by first | rfl | (simp; done) | (simp [*]; done)), (by first | rfl | (simp; done) | (simp [*]; done)), (by first | rfl | (simp; done) | (simp [*]; done)), (by first | rfl | (simp; done) | (simp [*]; done)), H', ⟨by have := HK1.out; have := HJ9.out; omega⟩, ⟨by (with_reducible repeat (first | refine blk_drewN ?_ _ | refine blk_drew ?_ | refine blk_alloc ?_ _)); exact BK353.out⟩, ⟨by repeat (first | (with_reducible first | exact HB.out | apply below_alloc | apply pw_below_drewN | apply below_drew1 | refine below_set ?_ GE353.out) | exact HB.out)⟩⟩
                              · replace c60 := Bool.eq_false_iff.mpr c60
                                subst c60
                                have H1 : (lexer_duration.l0 kj9 a0 (wrap64 (x5_1 + (wrap64 (t354 + (t355.size : Int))))) (mn x6_1 1099511627776) t356 x8_1 (decide (t356 ≤ x7_1)) true) = some (r1, r2, r3, r4, r5, r6, r7) := by rw [if_neg (show ¬ (false = true) by decide)] at H; exact H
                                clear H
                                have H := H1
                                clear H1
                                obtain ⟨ji63, hji63⟩ : ∃ j_ : Int, (mn x6_1 1099511627776) = j_ := ⟨_, rfl⟩
                                replace H : (lexer_duration.l0 kj9 a0 (wrap64 (x5_1 + (wrap64 (t354 + (t355.size : Int))))) ji63 t356 x8_1 (decide (t356 ≤ x7_1)) true) = some (r1, r2, r3, r4, r5, r6, r7) := by first | (rw [hji63] at H; exact H) | (simp only [hji63] at H ⊢; exact H)
                                (try rw [hji63] at A39)
                                have hji63_ : (if 1099511627776 < x6_1 then 1099511627776 else x6_1) = ji63 := hji63
                                have H' := Aside0.mk H
                                clear H
                                go_wp2_with (first | ((with_reducible refine gate_callee (f := 100) rfl ?_); refine goesL_ (some 44) rfl rfl Tryz.func100 (by kernel_rfl) rfl #[.string (a0.extract (x5_1 : Int).toNat ((wrap64 (x5_1 + t354)) : Int).toNat)] rfl (by (try simp only [List.map_toArray, List.map_cons, List.map_nil]); first | done | rfl | (simp only [List.length_drop, List.length_take]; rfl)) ?_; (with_reducible refine (strconv_Atoi.calls (a0.extract (x5_1 : Int).toNat ((wrap64 (x5_1 + t354)) : Int).toNat) t357 (some q359) _ ?side1 A39.out).mono ?_); (case side1 => exact Tabs.below HT.out (by repeat (first | (with_reducible first | exact HB.out | apply below_alloc | apply pw_below_drewN | apply below_drew1 | refine below_set ?_ GE353.out) | exact HB.out))); rintro e w64 ⟨rfl, hb⟩; refine ⟨_, rfl, ?_⟩; have n0_ := Aside0.mk (blk_below (g := gb353) (o := .cells #[.int .i64 0, .string (⟨#[]⟩ : ByteArray), .int .i64 0, .int .i64 0, .int .i64 0] 29 (0, 0)) (by (with_reducible repeat (first | refine blk_drewN ?_ _ | refine blk_drew ?_ | refine blk_alloc ?_ _)); exact BK353.out) hb); have n1_ := Aside0.mk (below_step (by repeat (first | (with_reducible first | exact HB.out | apply below_alloc | apply pw_below_drewN | apply below_drew1 | refine below_set ?_ GE353.out) | exact HB.out)) hb); clear BK353; clear HB; have BK353 := n0_; have HB := n1_; clear n0_ n1_; (try clear hb); (try clear hb2); (try clear hk); (try clear hi); (try simp only [errW_none, errW_some])))
                                go_roundg kj9
                                case measure => have := HK1.out; have := HJ9.out; omega
                                case rel => exact ⟨(wrap64 (x5_1 + (wrap64 (t354 + (t355.size : Int))))), (ji63), (t356), (x8_1), (decide (t356 ≤ x7_1)), (true), (by first | rfl | (simp; done) | (simp [*]; done)), (by first | rfl | (simp; done) | (simp only [← hji63] <;> (first | rfl | simp)) | (simp [*]; done)), (by first | rfl | (simp; done) | (simp [*]; done)), (by first | rfl | (simp; done) | (simp [*]; done)), (by first | rfl | (simp; done) | (simp [*]; done)), (by first | rfl | (simp; done) | (simp [*]; done)), H', ⟨by have := HK1.out; have := HJ9.out; omega⟩, ⟨by (with_reducible repeat (first | refine blk_drewN ?_ _ | refine blk_drew ?_ | refine blk_alloc ?_ _)); exact BK353.out⟩, ⟨by repeat (first | (with_reducible first | exact HB.out | apply below_alloc | apply pw_below_drewN | apply below_drew1 | refine below_set ?_ GE353.out) | exact HB.out)⟩⟩
                          · rw [if_neg c38] at H
                            exact absurd H (by simp)
                        · rw [if_neg c37] at H
                          exact absurd H (by simp)
                      · rw [if_neg c36] at H
                        exact absurd H (by simp)
            · rw [if_neg c8] at H
              exact absurd H (by simp)
          · rw [if_neg c7] at H
            exact absurd H (by simp)
        · rw [if_neg c4] at H
          exact absurd H (by simp)
      · rw [if_neg c3] at H
        exact absurd H (by simp)
end Go.Proofs.YteokilkcchdeiaaGreatDoor.Q
end
section
namespace Go.Proofs.YteokilkcchdeiaaGreatDoor.X
open Go.RowKit Go.Proofs.YteokilkcchdeiaaGreatDoor Go.Proofs.YteokilkcchdeiaaGreatDoorW.PrintWords Go.Proofs.YteokilkcchdeiaaGreatDoorW.PrintLast Go.Proofs.YteokilkcchdeiaaGreatDoorW.PrintMore Go.Proofs.YteokilkcchdeiaaGreatDoor.Q
set_option linter.unusedVariables false
def ratio_wide_fit.f (hi lo : Int) : Option Int := if hi = 0 ∧ 0 ≤ lo ∧ lo ≤ 1152921504606846976 then some lo else none
theorem ratio_wide_fit.calls (a0_0 a0_1 : Int) (r : Int) (w : World) (h : ratio_wide_fit.f a0_0 a0_1 = some r) :
    Calls Tryz.prog 141 #[.agg #[.int .u64 a0_0, .int .u64 a0_1]] w fun e w' => e = .returned (.int .i64 r) ∧ Below w.heap.size w w' := by
  have hu := Tryz.underlying154
  unfold ratio_wide_fit.f at h
  split at h
  · rename_i hc
    obtain ⟨rfl, h0, h1⟩ := hc
    obtain rfl := Option.some.inj h
    have hd : decide (1152921504606846976 < a0_1) = false := decide_eq_false (by omega)
    clear h
    go_enter Tryz.func141, Tryz.ntmps141
    go_wp2
    go_ret
    exact ⟨rfl, by repeat (first | exact Below.refl _ _ | apply below_alloc | apply below_drew1 | apply pw_below_drewN)⟩
  · cases h
end Go.Proofs.YteokilkcchdeiaaGreatDoor.X
end
section
namespace Go.Proofs.YteokilkcchdeiaaGreatDoor.Q
open Go.Proofs.YteokilkcchdeiaaGreatDoor
open Go.Proofs.YteokilkcchdeiaaGreatDoor.X
open Go.RowKit Go.Proofs.YteokilkcchdeiaaGreatDoorW.PrintWords Go.Proofs.YteokilkcchdeiaaGreatDoorW.PrintLast Go.Proofs.YteokilkcchdeiaaGreatDoorW.PrintMore
attribute [local go_sem] max2_int min2_int max_two min_two max_three min_three max_four min_four   -- for this text's walks alone
set_option linter.unusedVariables false
set_option linter.unusedSimpArgs false
def ratio_signed.f (a0 : Bool) (a1_0 : Int) (a1_1 : Int) (a2_0 : Int) (a2_1 : Int) : Option (Int × Int) := (ratio_wide_fit.f a1_0 a1_1).bind fun t386 => ((ratio_wide_fit.f a2_0 a2_1).bind fun t387 => (if a0 = true then (some (wrap64 (-t386), t387)) else (some (t386, t387))))
set_option maxHeartbeats 8000000 in
set_option maxRecDepth 100000 in
theorem ratio_signed.calls (a0 : Bool) (a1_0 : Int) (a1_1 : Int) (a2_0 : Int) (a2_1 : Int) (r1 : Int) (r2 : Int) (w : World) (h : ratio_signed.f a0 a1_0 a1_1 a2_0 a2_1 = some (r1, r2)) :
    Calls Tryz.prog 126 #[.bool a0, .agg #[.int .u64 a1_0, .int .u64 a1_1], .agg #[.int .u64 a2_0, .int .u64 a2_1]] w fun e w' => e = .returned (.agg #[.int .i64 r1, .int .i64 r2]) ∧ Below w.heap.size w w' := by
  have hu154 := Tryz.underlying154
  have hu27 := Tryz.underlying27
  have HB := Aside0.mk (Below.refl w.heap.size w)
  have H : ((ratio_wide_fit.f a1_0 a1_1).bind fun t386 => ((ratio_wide_fit.f a2_0 a2_1).bind fun t387 => (if a0 = true then (some (wrap64 (-t386), t387)) else (some (t386, t387))))) = some (r1, r2) := h
  clear h
  replace H := Option.bind_eq_some_iff.mp H
  obtain ⟨t386, A40, H⟩ := H
  replace H : ((ratio_wide_fit.f a2_0 a2_1).bind fun t387 => (if a0 = true then (some (wrap64 (-t386), t387)) else (some (t386, t387)))) = some (r1, r2) := H
  have A4 := Aside0.mk A40
  clear A40
  replace H := Option.bind_eq_some_iff.mp H
  obtain ⟨t387, A50, H⟩ := H
  replace H : (if a0 = true then (some (wrap64 (-t386), t387)) else (some (t386, t387))) = some (r1, r2) := H
  have A5 := Aside0.mk A50
  clear A50
  by_cases c6 : a0 = true
  · subst c6
    have H1 : (some (wrap64 (-t386), t387)) = some (r1, r2) := by rw [if_pos rfl] at H; exact H
    clear H
    have H := H1
    clear H1
    simp only [Option.some.injEq, Prod.mk.injEq] at H
    obtain ⟨rfl, rfl⟩ := H
    go_enter Tryz.func126, Tryz.ntmps126
    try go_wp2_with (first | ((with_reducible refine gate_dst (N := 4) rfl ?_); refine box_event ?hg (N := 4) ?hd (cs := #[.int .u64 a1_0, .int .u64 a1_1]) (t := 154) ?hr ?_; (case hd => rfl); (case hg => rfl); (case hr => first | (go_simp; done) | (go_simp; rfl)); intro gb383 hg w7 hbox hb; have n0_ := Aside0.mk (below_step (by repeat (first | (with_reducible first | exact HB.out | apply below_alloc | apply pw_below_drewN | apply below_drew1) | exact HB.out)) hb); have n1_ := Aside0.mk (hbox); have n2_ := Aside0.mk ((by rw [hg]; exact (below_size (by repeat (first | (with_reducible first | exact HB.out | apply below_alloc | apply pw_below_drewN | apply below_drew1) | exact HB.out))) : w.heap.size ≤ gb383)); have n3_ := Aside0.mk ((by rw [hg]; exact (below_size (by repeat (first | (with_reducible first | exact HB.out | apply below_alloc | apply pw_below_drewN | apply below_drew1) | exact HB.out))) : w.heap.size ≤ gb383)); clear HB; have HB := n0_; have BK383 := n1_; have GW383 := n2_; have GE383 := n3_; clear n0_ n1_ n2_ n3_; clear hb hbox hg) | ((with_reducible refine gate_dst (N := 5) rfl ?_); refine box_event ?hg (N := 5) ?hd (cs := #[.int .u64 a2_0, .int .u64 a2_1]) (t := 154) ?hr ?_; (case hd => rfl); (case hg => rfl); (case hr => first | (go_simp; done) | (go_simp; rfl)); intro gb384 hg w8 hbox hb; have n0_ := Aside0.mk (blk_below (g := gb383) (o := .cells #[.int .u64 a1_0, .int .u64 a1_1] 154 (0, 0)) (by (with_reducible repeat (first | refine blk_drewN ?_ _ | refine blk_drew ?_ | refine blk_alloc ?_ _)); exact BK383.out) hb); have n1_ := Aside0.mk (below_step (by repeat (first | (with_reducible first | exact HB.out | apply below_alloc | apply pw_below_drewN | apply below_drew1 | refine below_set ?_ GE383.out) | exact HB.out)) hb); have n2_ := Aside0.mk (hbox); have n3_ := Aside0.mk ((by rw [hg]; exact (below_size (by repeat (first | (with_reducible first | exact HB.out | apply below_alloc | apply pw_below_drewN | apply below_drew1 | refine below_set ?_ GE383.out) | exact HB.out))) : w.heap.size ≤ gb384)); have n4_ := Aside0.mk ((by rw [hg]; exact (below_size (by repeat (first | (with_reducible first | exact HB.out | apply below_alloc | apply pw_below_drewN | apply below_drew1 | refine below_set ?_ GE383.out) | exact HB.out))) : w.heap.size ≤ gb384)); have n5_ := Aside0.mk ((by rw [hg]; exact Nat.ne_of_lt (blk_lt (g := gb383) (o := .cells #[.int .u64 a1_0, .int .u64 a1_1] 154 (0, 0)) (by (with_reducible repeat (first | refine blk_drewN ?_ _ | refine blk_drew ?_ | refine blk_alloc ?_ _)); exact BK383.out)) : gb383 ≠ gb384)); have n6_ := Aside0.mk ((by rw [hg]; exact Nat.ne_of_gt (blk_lt (g := gb383) (o := .cells #[.int .u64 a1_0, .int .u64 a1_1] 154 (0, 0)) (by (with_reducible repeat (first | refine blk_drewN ?_ _ | refine blk_drew ?_ | refine blk_alloc ?_ _)); exact BK383.out)) : gb384 ≠ gb383)); clear BK383; clear HB; have BK383 := n0_; have HB := n1_; have BK384 := n2_; have GW384 := n3_; have GE384 := n4_; have NB383_384 := n5_; have NB384_383 := n6_; clear n0_ n1_ n2_ n3_ n4_ n5_ n6_; clear hb hbox hg) | ((with_reducible refine gate_dst (N := 6) rfl ?_); refine box_event ?hg (N := 6) ?hd (cs := #[.int .i64 0, .int .i64 0]) (t := 27) ?hr ?_; (case hd => rfl); (case hg => rfl); (case hr => first | (go_simp; done) | (go_simp; rfl)); intro gb385 hg w9 hbox hb; have n0_ := Aside0.mk (blk_below (g := gb383) (o := .cells #[.int .u64 a1_0, .int .u64 a1_1] 154 (0, 0)) (by (with_reducible repeat (first | refine blk_drewN ?_ _ | refine blk_drew ?_ | refine blk_alloc ?_ _)); exact BK383.out) hb); have n1_ := Aside0.mk (blk_below (g := gb384) (o := .cells #[.int .u64 a2_0, .int .u64 a2_1] 154 (0, 0)) (by (with_reducible repeat (first | refine blk_drewN ?_ _ | refine blk_drew ?_ | refine blk_alloc ?_ _)); exact BK384.out) hb); have n2_ := Aside0.mk (below_step (by repeat (first | (with_reducible first | exact HB.out | apply below_alloc | apply pw_below_drewN | apply below_drew1 | refine below_set ?_ GE383.out | refine below_set ?_ GE384.out) | exact HB.out)) hb); have n3_ := Aside0.mk (hbox); have n4_ := Aside0.mk ((by rw [hg]; exact (below_size (by repeat (first | (with_reducible first | exact HB.out | apply below_alloc | apply pw_below_drewN | apply below_drew1 | refine below_set ?_ GE383.out | refine below_set ?_ GE384.out) | exact HB.out))) : w.heap.size ≤ gb385)); have n5_ := Aside0.mk ((by rw [hg]; exact (below_size (by repeat (first | (with_reducible first | exact HB.out | apply below_alloc | apply pw_below_drewN | apply below_drew1 | refine below_set ?_ GE383.out | refine below_set ?_ GE384.out) | exact HB.out))) : w.heap.size ≤ gb385)); have n6_ := Aside0.mk ((by rw [hg]; exact Nat.ne_of_lt (blk_lt (g := gb383) (o := .cells #[.int .u64 a1_0, .int .u64 a1_1] 154 (0, 0)) (by (with_reducible repeat (first | refine blk_drewN ?_ _ | refine blk_drew ?_ | refine blk_alloc ?_ _)); exact BK383.out)) : gb383 ≠ gb385)); have n7_ := Aside0.mk ((by rw [hg]; exact Nat.ne_of_gt (blk_lt (g := gb383) (o := .cells #[.int .u64 a1_0, .int .u64 a1_1] 154 (0, 0)) (by (with_reducible repeat (first | refine blk_drewN ?_ _ | refine blk_drew ?_ | refine blk_alloc ?_ _)); exact BK383.out)) : gb385 ≠ gb383)); have n8_ := Aside0.mk ((by rw [hg]; exact Nat.ne_of_lt (blk_lt (g := gb384) (o := .cells #[.int .u64 a2_0, .int .u64 a2_1] 154 (0, 0)) (by (with_reducible repeat (first | refine blk_drewN ?_ _ | refine blk_drew ?_ | refine blk_alloc ?_ _)); exact BK384.out)) : gb384 ≠ gb385)); have n9_ := Aside0.mk ((by rw [hg]; exact Nat.ne_of_gt (blk_lt (g := gb384) (o := .cells #[.int .u64 a2_0, .int .u64 a2_1] 154 (0, 0)) (by (with_reducible repeat (first | refine blk_drewN ?_ _ | refine blk_drew ?_ | refine blk_alloc ?_ _)); exact BK384.out)) : gb385 ≠ gb384)); clear BK383; clear BK384; clear HB; have BK383 := n0_; have BK384 := n1_; have HB := n2_; have BK385 := n3_; have GW385 := n4_; have GE385 := n5_; have NB383_385 := n6_; have NB385_383 := n7_; have NB384_385 := n8_; have NB385_384 := n9_; clear n0_ n1_ n2_ n3_ n4_ n5_ n6_ n7_ n8_ n9_; clear hb hbox hg))
    have n0_ := Aside0.mk (blk_drew BK383.out)
    have n1_ := Aside0.mk (blk_drew BK384.out)
    have n2_ := Aside0.mk (blk_drew BK385.out)
    have n3_ := Aside0.mk (below_drew1 HB.out)
    clear BK383
    clear BK384
    clear BK385
    clear HB
    have BK383 := n0_
    have BK384 := n1_
    have BK385 := n2_
    have HB := n3_
    clear n0_ n1_ n2_ n3_
    refine start_ (n := 7) (S := fun w' => w'.cell? ⟨gb383, 0, none⟩ = some (.int .u64 a1_0) ∧ w'.cell? ⟨gb383, 1, none⟩ = some (.int .u64 a1_1) ∧ w'.cell? ⟨gb384, 0, none⟩ = some (.int .u64 a2_0) ∧ w'.cell? ⟨gb384, 1, none⟩ = some (.int .u64 a2_1)) (ds := []) #[false, false, false, false, false, false, false] (by kernel_rfl) rfl rfl ⟨(blk_cell BK383.out 0).trans rfl, (blk_cell BK383.out 1).trans rfl, (blk_cell BK384.out 0).trans rfl, (blk_cell BK384.out 1).trans rfl⟩ (fun hHeld => ?_)
    generalize w9.drew = w10 at BK383 BK384 BK385 HB hHeld ⊢
    refine take_ (i := 0) (N := some 8) (v := ?_) (a' := ?_) #[true, false, false, false, false, false, false] rfl rfl (by kernel_rfl) (fun _ _ _ h => h) (Or.inl ⟨by rfl, ?_⟩) hHeld ?_ ?_
    rotate_left
    · rintro w' ⟨s0, s1, s2, s3⟩
      go_simp
      with_reducible rfl
    rotate_left
    · simp only [Act.put, List.setIfInBounds_toArray, List.set_cons_zero, List.set_cons_succ, i64_w, i32_w]
      rfl
    refine take_ (i := 2) (N := some 10) (v := ?_) (a' := ?_) #[true, false, true, false, false, false, false] rfl rfl (by kernel_rfl) (fun _ _ _ h => h) (Or.inl ⟨by rfl, ?_⟩) hHeld ?_ ?_
    rotate_left
    · rintro w' ⟨s0, s1, s2, s3⟩
      go_simp
      with_reducible rfl
    rotate_left
    · simp only [Act.put, List.setIfInBounds_toArray, List.set_cons_zero, List.set_cons_succ, i64_w, i32_w]
      rfl
    refine join_ (σ := Nat) 1 #[true, true, true, true, true, true, false] (fun s_ => [(9, .int .i64 t386), (11, .int .i64 t387), (7, .pointer (some ⟨s_, 0, none⟩)), (12, .agg #[.int .i64 t386, .int .i64 t387])]) (fun s_ w' => (w'.cell? ⟨gb383, 0, none⟩ = some (.int .u64 a1_0) ∧ w'.cell? ⟨gb383, 1, none⟩ = some (.int .u64 a1_1) ∧ w'.cell? ⟨gb384, 0, none⟩ = some (.int .u64 a2_0) ∧ w'.cell? ⟨gb384, 1, none⟩ = some (.int .u64 a2_1)) ∧ (w'.heap[gb383]? = some (.cells #[.int .u64 a1_0, .int .u64 a1_1] 154 (0, 0))) ∧ (w'.heap[gb384]? = some (.cells #[.int .u64 a2_0, .int .u64 a2_1] 154 (0, 0))) ∧ (w'.heap[gb385]? = some (.cells #[.int .i64 0, .int .i64 0] 27 (0, 0))) ∧ (w'.heap[s_]? = some (.cells #[.int .i64 0, .int .i64 0] 27 (0, 0))) ∧ (w.heap.size ≤ s_) ∧ (w.heap.size ≤ s_) ∧ (gb383 ≠ s_) ∧ (s_ ≠ gb383) ∧ (gb384 ≠ s_) ∧ (s_ ≠ gb384) ∧ (gb385 ≠ s_) ∧ (s_ ≠ gb385) ∧ (Below w.heap.size w w')) ?_ ?_
    rotate_left
    · intro hCont
      refine two_ (i := 1) (j := 5) (Ni := some 9) (Nj := some 7) #[true, true, true, false, false, false, false] #[true, false, true, false, false, true, false] rfl rfl rfl rfl (by kernel_rfl) (by decide) (by decide) (fun K hK => ?_) (fun K hK => ?_)
      · skip
        refine goes_ Tryz.func141 (by kernel_rfl) rfl #[.agg #[.int .u64 a1_0, .int .u64 a1_1]] (by rfl) rfl rfl (by (try simp only [List.map_toArray, List.map_cons, List.map_nil]); first | done | rfl | (simp only [List.length_drop, List.length_take]; rfl)) ?_
        with_reducible refine (ratio_wide_fit.calls a1_0 a1_1 t386 _ A4.out).mono ?_
        rintro e w11 ⟨rfl, hb⟩
        refine ⟨_, rfl, ?_⟩
        have n0_ := Aside0.mk (blk_below (g := gb383) (o := .cells #[.int .u64 a1_0, .int .u64 a1_1] 154 (0, 0)) (by (with_reducible repeat (first | refine blk_drewN ?_ _ | refine blk_drew ?_ | refine blk_alloc ?_ _)); exact BK383.out) hb)
        have n1_ := Aside0.mk (blk_below (g := gb384) (o := .cells #[.int .u64 a2_0, .int .u64 a2_1] 154 (0, 0)) (by (with_reducible repeat (first | refine blk_drewN ?_ _ | refine blk_drew ?_ | refine blk_alloc ?_ _)); exact BK384.out) hb)
        have n2_ := Aside0.mk (blk_below (g := gb385) (o := .cells #[.int .i64 0, .int .i64 0] 27 (0, 0)) (by (with_reducible repeat (first | refine blk_drewN ?_ _ | refine blk_drew ?_ | refine blk_alloc ?_ _)); exact BK385.out) hb)
        have n3_ := Aside0.mk (below_step (by repeat (first | (with_reducible first | exact HB.out | apply below_alloc | apply pw_below_drewN | apply below_drew1 | refine below_set ?_ GE383.out | refine below_set ?_ GE384.out | refine below_set ?_ GE385.out) | exact HB.out)) hb)
        clear BK383
        clear BK384
        clear BK385
        clear HB
        have BK383 := n0_
        have BK384 := n1_
        have BK385 := n2_
        have HB := n3_
        clear n0_ n1_ n2_ n3_
        (try clear hb)
        (try clear hb2)
        (try clear hk)
        (try clear hi)
        refine hK.out _ _ ⟨(blk_cell BK383.out 0).trans rfl, (blk_cell BK383.out 1).trans rfl, (blk_cell BK384.out 0).trans rfl, (blk_cell BK384.out 1).trans rfl⟩ (fun hHeld => ?_)
        clear hK K
        refine norm_ (a' := ?_) ?_ ?_
        rotate_left
        · show Act.put _ (some 9) _ = _
          simp only [Act.put, List.setIfInBounds_toArray, List.set_cons_zero, List.set_cons_succ, i64_w, i32_w]
          rfl
        refine two_ (i := 3) (j := 5) (Ni := some 11) (Nj := some 7) #[true, true, true, true, false, false, false] #[true, true, true, false, false, true, false] rfl rfl rfl rfl (by kernel_rfl) (by decide) (by decide) (fun K hK => ?_) (fun K hK => ?_)
        · skip
          refine goes_ Tryz.func141 (by kernel_rfl) rfl #[.agg #[.int .u64 a2_0, .int .u64 a2_1]] (by rfl) rfl rfl (by (try simp only [List.map_toArray, List.map_cons, List.map_nil]); first | done | rfl | (simp only [List.length_drop, List.length_take]; rfl)) ?_
          with_reducible refine (ratio_wide_fit.calls a2_0 a2_1 t387 _ A5.out).mono ?_
          rintro e w12 ⟨rfl, hb⟩
          refine ⟨_, rfl, ?_⟩
          have n0_ := Aside0.mk (blk_below (g := gb383) (o := .cells #[.int .u64 a1_0, .int .u64 a1_1] 154 (0, 0)) (by (with_reducible repeat (first | refine blk_drewN ?_ _ | refine blk_drew ?_ | refine blk_alloc ?_ _)); exact BK383.out) hb)
          have n1_ := Aside0.mk (blk_below (g := gb384) (o := .cells #[.int .u64 a2_0, .int .u64 a2_1] 154 (0, 0)) (by (with_reducible repeat (first | refine blk_drewN ?_ _ | refine blk_drew ?_ | refine blk_alloc ?_ _)); exact BK384.out) hb)
          have n2_ := Aside0.mk (blk_below (g := gb385) (o := .cells #[.int .i64 0, .int .i64 0] 27 (0, 0)) (by (with_reducible repeat (first | refine blk_drewN ?_ _ | refine blk_drew ?_ | refine blk_alloc ?_ _)); exact BK385.out) hb)
          have n3_ := Aside0.mk (below_step (by repeat (first | (with_reducible first | exact HB.out | apply below_alloc | apply pw_below_drewN | apply below_drew1 | refine below_set ?_ GE383.out | refine below_set ?_ GE384.out | refine below_set ?_ GE385.out) | exact HB.out)) hb)
          clear BK383
          clear BK384
          clear BK385
          clear HB
          have BK383 := n0_
          have BK384 := n1_
          have BK385 := n2_
          have HB := n3_
          clear n0_ n1_ n2_ n3_
          (try clear hb)
          (try clear hb2)
          (try clear hk)
          (try clear hi)
          refine hK.out _ _ ⟨(blk_cell BK383.out 0).trans rfl, (blk_cell BK383.out 1).trans rfl, (blk_cell BK384.out 0).trans rfl, (blk_cell BK384.out 1).trans rfl⟩ (fun hHeld => ?_)
          clear hK K
          refine norm_ (a' := ?_) ?_ ?_
          rotate_left
          · show Act.put _ (some 11) _ = _
            simp only [Act.put, List.setIfInBounds_toArray, List.set_cons_zero, List.set_cons_succ, i64_w, i32_w]
            rfl
          refine pure_ (i := 4) (N := some 12) (v := ?_) (a' := ?_) #[true, true, true, true, true, false, false] rfl rfl (by kernel_rfl) (fun _ _ _ h => h) (Or.inl ⟨by rfl, ?_⟩) ?_ ?_
          rotate_left
          · intro w'
            go_simp
            with_reducible rfl
          rotate_left
          · simp only [Act.put, List.setIfInBounds_toArray, List.set_cons_zero, List.set_cons_succ, i64_w, i32_w]
            rfl
          refine one_ (i := 5) (N := some 7) #[true, true, true, true, true, true, false] rfl rfl (by kernel_rfl) (by decide) (fun K hK => ?_)
          refine box_step ?hg (N := 7) ?hd (cs := #[.int .i64 0, .int .i64 0]) (t := 27) ?hr ?_; (case hd => rfl); (case hg => rfl); (case hr => first | (go_simp; done) | (go_simp; rfl))
          intro gb388 hg w13 hbox hb
          have n0_ := Aside0.mk (blk_below (g := gb383) (o := .cells #[.int .u64 a1_0, .int .u64 a1_1] 154 (0, 0)) (by (with_reducible repeat (first | refine blk_drewN ?_ _ | refine blk_drew ?_ | refine blk_alloc ?_ _)); exact BK383.out) hb)
          have n1_ := Aside0.mk (blk_below (g := gb384) (o := .cells #[.int .u64 a2_0, .int .u64 a2_1] 154 (0, 0)) (by (with_reducible repeat (first | refine blk_drewN ?_ _ | refine blk_drew ?_ | refine blk_alloc ?_ _)); exact BK384.out) hb)
          have n2_ := Aside0.mk (blk_below (g := gb385) (o := .cells #[.int .i64 0, .int .i64 0] 27 (0, 0)) (by (with_reducible repeat (first | refine blk_drewN ?_ _ | refine blk_drew ?_ | refine blk_alloc ?_ _)); exact BK385.out) hb)
          have n3_ := Aside0.mk (below_step (by repeat (first | (with_reducible first | exact HB.out | apply below_alloc | apply pw_below_drewN | apply below_drew1 | refine below_set ?_ GE383.out | refine below_set ?_ GE384.out | refine below_set ?_ GE385.out) | exact HB.out)) hb)
          have n4_ := Aside0.mk (hbox)
          have n5_ := Aside0.mk ((by rw [hg]; exact (below_size (by repeat (first | (with_reducible first | exact HB.out | apply below_alloc | apply pw_below_drewN | apply below_drew1 | refine below_set ?_ GE383.out | refine below_set ?_ GE384.out | refine below_set ?_ GE385.out) | exact HB.out))) : w.heap.size ≤ gb388))
          have n6_ := Aside0.mk ((by rw [hg]; exact (below_size (by repeat (first | (with_reducible first | exact HB.out | apply below_alloc | apply pw_below_drewN | apply below_drew1 | refine below_set ?_ GE383.out | refine below_set ?_ GE384.out | refine below_set ?_ GE385.out) | exact HB.out))) : w.heap.size ≤ gb388))
          have n7_ := Aside0.mk ((by rw [hg]; exact Nat.ne_of_lt (blk_lt (g := gb383) (o := .cells #[.int .u64 a1_0, .int .u64 a1_1] 154 (0, 0)) (by (with_reducible repeat (first | refine blk_drewN ?_ _ | refine blk_drew ?_ | refine blk_alloc ?_ _)); exact BK383.out)) : gb383 ≠ gb388))
          have n8_ := Aside0.mk ((by rw [hg]; exact Nat.ne_of_gt (blk_lt (g := gb383) (o := .cells #[.int .u64 a1_0, .int .u64 a1_1] 154 (0, 0)) (by (with_reducible repeat (first | refine blk_drewN ?_ _ | refine blk_drew ?_ | refine blk_alloc ?_ _)); exact BK383.out)) : gb388 ≠ gb383))
          have n9_ := Aside0.mk ((by rw [hg]; exact Nat.ne_of_lt (blk_lt (g := gb384) (o := .cells #[.int .u64 a2_0, .int .u64 a2_1] 154 (0, 0)) (by (with_reducible repeat (first | refine blk_drewN ?_ _ | refine blk_drew ?_ | refine blk_alloc ?_ _)); exact BK384.out)) : gb384 ≠ gb388))
          have n10_ := Aside0.mk ((by rw [hg]; exact Nat.ne_of_gt (blk_lt (g := gb384) (o := .cells #[.int .u64 a2_0, .int .u64 a2_1] 154 (0, 0)) (by (with_reducible repeat (first | refine blk_drewN ?_ _ | refine blk_drew ?_ | refine blk_alloc ?_ _)); exact BK384.out)) : gb388 ≠ gb384))
          have n11_ := Aside0.mk ((by rw [hg]; exact Nat.ne_of_lt (blk_lt (g := gb385) (o := .cells #[.int .i64 0, .int .i64 0] 27 (0, 0)) (by (with_reducible repeat (first | refine blk_drewN ?_ _ | refine blk_drew ?_ | refine blk_alloc ?_ _)); exact BK385.out)) : gb385 ≠ gb388))
          have n12_ := Aside0.mk ((by rw [hg]; exact Nat.ne_of_gt (blk_lt (g := gb385) (o := .cells #[.int .i64 0, .int .i64 0] 27 (0, 0)) (by (with_reducible repeat (first | refine blk_drewN ?_ _ | refine blk_drew ?_ | refine blk_alloc ?_ _)); exact BK385.out)) : gb388 ≠ gb385))
          clear BK383
          clear BK384
          clear BK385
          clear HB
          have BK383 := n0_
          have BK384 := n1_
          have BK385 := n2_
          have HB := n3_
          have BK388 := n4_
          have GW388 := n5_
          have GE388 := n6_
          have NB383_388 := n7_
          have NB388_383 := n8_
          have NB384_388 := n9_
          have NB388_384 := n10_
          have NB385_388 := n11_
          have NB388_385 := n12_
          clear n0_ n1_ n2_ n3_ n4_ n5_ n6_ n7_ n8_ n9_ n10_ n11_ n12_
          clear hb hbox hg
          refine hK.out _ _ ⟨(blk_cell BK383.out 0).trans rfl, (blk_cell BK383.out 1).trans rfl, (blk_cell BK384.out 0).trans rfl, (blk_cell BK384.out 1).trans rfl⟩ (fun hHeld => ?_)
          clear hK K
          refine norm_ (a' := ?_) ?_ ?_
          rotate_left
          · show Act.put _ (some 7) _ = _
            simp only [Act.put, List.setIfInBounds_toArray, List.set_cons_zero, List.set_cons_succ, i64_w, i32_w]
            rfl
          exact norm_ (by simp only [putAll, Act.put, List.setIfInBounds_toArray, List.set_cons_zero, List.set_cons_succ]) (hCont (gb388) _ ⟨hHeld, (by (with_reducible repeat (first | refine blk_drewN ?_ _ | refine blk_drew ?_ | refine blk_alloc ?_ _)); exact BK383.out), (by (with_reducible repeat (first | refine blk_drewN ?_ _ | refine blk_drew ?_ | refine blk_alloc ?_ _)); exact BK384.out), (by (with_reducible repeat (first | refine blk_drewN ?_ _ | refine blk_drew ?_ | refine blk_alloc ?_ _)); exact BK385.out), (by (with_reducible repeat (first | refine blk_drewN ?_ _ | refine blk_drew ?_ | refine blk_alloc ?_ _)); exact BK388.out), GW388.out, GE388.out, NB383_388.out, NB388_383.out, NB384_388.out, NB388_384.out, NB385_388.out, NB388_385.out, (by repeat (first | (with_reducible first | exact HB.out | apply below_alloc | apply pw_below_drewN | apply below_drew1 | refine below_set ?_ GE383.out | refine below_set ?_ GE384.out | refine below_set ?_ GE385.out | refine below_set ?_ GE388.out) | exact HB.out))⟩)
        · skip
          refine box_step ?hg (N := 7) ?hd (cs := #[.int .i64 0, .int .i64 0]) (t := 27) ?hr ?_; (case hd => rfl); (case hg => rfl); (case hr => first | (go_simp; done) | (go_simp; rfl))
          intro gb388 hg w12 hbox hb
          have n0_ := Aside0.mk (blk_below (g := gb383) (o := .cells #[.int .u64 a1_0, .int .u64 a1_1] 154 (0, 0)) (by (with_reducible repeat (first | refine blk_drewN ?_ _ | refine blk_drew ?_ | refine blk_alloc ?_ _)); exact BK383.out) hb)
          have n1_ := Aside0.mk (blk_below (g := gb384) (o := .cells #[.int .u64 a2_0, .int .u64 a2_1] 154 (0, 0)) (by (with_reducible repeat (first | refine blk_drewN ?_ _ | refine blk_drew ?_ | refine blk_alloc ?_ _)); exact BK384.out) hb)
          have n2_ := Aside0.mk (blk_below (g := gb385) (o := .cells #[.int .i64 0, .int .i64 0] 27 (0, 0)) (by (with_reducible repeat (first | refine blk_drewN ?_ _ | refine blk_drew ?_ | refine blk_alloc ?_ _)); exact BK385.out) hb)
          have n3_ := Aside0.mk (below_step (by repeat (first | (with_reducible first | exact HB.out | apply below_alloc | apply pw_below_drewN | apply below_drew1 | refine below_set ?_ GE383.out | refine below_set ?_ GE384.out | refine below_set ?_ GE385.out) | exact HB.out)) hb)
          have n4_ := Aside0.mk (hbox)
          have n5_ := Aside0.mk ((by rw [hg]; exact (below_size (by repeat (first | (with_reducible first | exact HB.out | apply below_alloc | apply pw_below_drewN | apply below_drew1 | refine below_set ?_ GE383.out | refine below_set ?_ GE384.out | refine below_set ?_ GE385.out) | exact HB.out))) : w.heap.size ≤ gb388))
          have n6_ := Aside0.mk ((by rw [hg]; exact (below_size (by repeat (first | (with_reducible first | exact HB.out | apply below_alloc | apply pw_below_drewN | apply below_drew1 | refine below_set ?_ GE383.out | refine below_set ?_ GE384.out | refine below_set ?_ GE385.out) | exact HB.out))) : w.heap.size ≤ gb388))
          have n7_ := Aside0.mk ((by rw [hg]; exact Nat.ne_of_lt (blk_lt (g := gb383) (o := .cells #[.int .u64 a1_0, .int .u64 a1_1] 154 (0, 0)) (by (with_reducible repeat (first | refine blk_drewN ?_ _ | refine blk_drew ?_ | refine blk_alloc ?_ _)); exact BK383.out)) : gb383 ≠ gb388))
          have n8_ := Aside0.mk ((by rw [hg]; exact Nat.ne_of_gt (blk_lt (g := gb383) (o := .cells #[.int .u64 a1_0, .int .u64 a1_1] 154 (0, 0)) (by (with_reducible repeat (first | refine blk_drewN ?_ _ | refine blk_drew ?_ | refine blk_alloc ?_ _)); exact BK383.out)) : gb388 ≠ gb383))
          have n9_ := Aside0.mk ((by rw [hg]; exact Nat.ne_of_lt (blk_lt (g := gb384) (o := .cells #[.int .u64 a2_0, .int .u64 a2_1] 154 (0, 0)) (by (with_reducible repeat (first | refine blk_drewN ?_ _ | refine blk_drew ?_ | refine blk_alloc ?_ _)); exact BK384.out)) : gb384 ≠ gb388))
          have n10_ := Aside0.mk ((by rw [hg]; exact Nat.ne_of_gt (blk_lt (g := gb384) (o := .cells #[.int .u64 a2_0, .int .u64 a2_1] 154 (0, 0)) (by (with_reducible repeat (first | refine blk_drewN ?_ _ | refine blk_drew ?_ | refine blk_alloc ?_ _)); exact BK384.out)) : gb388 ≠ gb384))
          have n11_ := Aside0.mk ((by rw [hg]; exact Nat.ne_of_lt (blk_lt (g := gb385) (o := .cells #[.int .i64 0, .int .i64 0] 27 (0, 0)) (by (with_reducible repeat (first | refine blk_drewN ?_ _ | refine blk_drew ?_ | refine blk_alloc ?_ _)); exact BK385.out)) : gb385 ≠ gb388))
          have n12_ := Aside0.mk ((by rw [hg]; exact Nat.ne_of_gt (blk_lt (g := gb385) (o := .cells #[.int .i64 0, .int .i64 0] 27 (0, 0)) (by (with_reducible repeat (first | refine blk_drewN ?_ _ | refine blk_drew ?_ | refine blk_alloc ?_ _)); exact BK385.out)) : gb388 ≠ gb385))
          clear BK383
          clear BK384
          clear BK385
          clear HB
          have BK383 := n0_
          have BK384 := n1_
          have BK385 := n2_
          have HB := n3_
          have BK388 := n4_
          have GW388 := n5_
          have GE388 := n6_
          have NB383_388 := n7_
          have NB388_383 := n8_
          have NB384_388 := n9_
          have NB388_384 := n10_
          have NB385_388 := n11_
          have NB388_385 := n12_
          clear n0_ n1_ n2_ n3_ n4_ n5_ n6_ n7_ n8_ n9_ n10_ n11_ n12_
          clear hb hbox hg
          refine hK.out _ _ ⟨(blk_cell BK383.out 0).trans rfl, (blk_cell BK383.out 1).trans rfl, (blk_cell BK384.out 0).trans rfl, (blk_cell BK384.out 1).trans rfl⟩ (fun hHeld => ?_)
          clear hK K
          refine norm_ (a' := ?_) ?_ ?_
          rotate_left
          · show Act.put _ (some 7) _ = _
            simp only [Act.put, List.setIfInBounds_toArray, List.set_cons_zero, List.set_cons_succ, i64_w, i32_w]
            rfl
          refine one_ (i := 3) (N := some 11) #[true, true, true, true, false, true, false] rfl rfl (by kernel_rfl) (by decide) (fun K hK => ?_)
          refine goes_ Tryz.func141 (by kernel_rfl) rfl #[.agg #[.int .u64 a2_0, .int .u64 a2_1]] (by rfl) rfl rfl (by (try simp only [List.map_toArray, List.map_cons, List.map_nil]); first | done | rfl | (simp only [List.length_drop, List.length_take]; rfl)) ?_
          with_reducible refine (ratio_wide_fit.calls a2_0 a2_1 t387 _ A5.out).mono ?_
          rintro e w13 ⟨rfl, hb⟩
          refine ⟨_, rfl, ?_⟩
          have n0_ := Aside0.mk (blk_below (g := gb383) (o := .cells #[.int .u64 a1_0, .int .u64 a1_1] 154 (0, 0)) (by (with_reducible repeat (first | refine blk_drewN ?_ _ | refine blk_drew ?_ | refine blk_alloc ?_ _)); exact BK383.out) hb)
          have n1_ := Aside0.mk (blk_below (g := gb384) (o := .cells #[.int .u64 a2_0, .int .u64 a2_1] 154 (0, 0)) (by (with_reducible repeat (first | refine blk_drewN ?_ _ | refine blk_drew ?_ | refine blk_alloc ?_ _)); exact BK384.out) hb)
          have n2_ := Aside0.mk (blk_below (g := gb385) (o := .cells #[.int .i64 0, .int .i64 0] 27 (0, 0)) (by (with_reducible repeat (first | refine blk_drewN ?_ _ | refine blk_drew ?_ | refine blk_alloc ?_ _)); exact BK385.out) hb)
          have n3_ := Aside0.mk (blk_below (g := gb388) (o := .cells #[.int .i64 0, .int .i64 0] 27 (0, 0)) (by (with_reducible repeat (first | refine blk_drewN ?_ _ | refine blk_drew ?_ | refine blk_alloc ?_ _)); exact BK388.out) hb)
          have n4_ := Aside0.mk (below_step (by repeat (first | (with_reducible first | exact HB.out | apply below_alloc | apply pw_below_drewN | apply below_drew1 | refine below_set ?_ GE383.out | refine below_set ?_ GE384.out | refine below_set ?_ GE385.out | refine below_set ?_ GE388.out) | exact HB.out)) hb)
          clear BK383
          clear BK384
          clear BK385
          clear BK388
          clear HB
          have BK383 := n0_
          have BK384 := n1_
          have BK385 := n2_
          have BK388 := n3_
          have HB := n4_
          clear n0_ n1_ n2_ n3_ n4_
          (try clear hb)
          (try clear hb2)
          (try clear hk)
          (try clear hi)
          refine hK.out _ _ ⟨(blk_cell BK383.out 0).trans rfl, (blk_cell BK383.out 1).trans rfl, (blk_cell BK384.out 0).trans rfl, (blk_cell BK384.out 1).trans rfl⟩ (fun hHeld => ?_)
          clear hK K
          refine norm_ (a' := ?_) ?_ ?_
          rotate_left
          · show Act.put _ (some 11) _ = _
            simp only [Act.put, List.setIfInBounds_toArray, List.set_cons_zero, List.set_cons_succ, i64_w, i32_w]
            rfl
          refine pure_ (i := 4) (N := some 12) (v := ?_) (a' := ?_) #[true, true, true, true, true, true, false] rfl rfl (by kernel_rfl) (fun _ _ _ h => h) (Or.inl ⟨by rfl, ?_⟩) ?_ ?_
          rotate_left
          · intro w'
            go_simp
            with_reducible rfl
          rotate_left
          · simp only [Act.put, List.setIfInBounds_toArray, List.set_cons_zero, List.set_cons_succ, i64_w, i32_w]
            rfl
          exact norm_ (by simp only [putAll, Act.put, List.setIfInBounds_toArray, List.set_cons_zero, List.set_cons_succ]) (hCont (gb388) _ ⟨hHeld, (by (with_reducible repeat (first | refine blk_drewN ?_ _ | refine blk_drew ?_ | refine blk_alloc ?_ _)); exact BK383.out), (by (with_reducible repeat (first | refine blk_drewN ?_ _ | refine blk_drew ?_ | refine blk_alloc ?_ _)); exact BK384.out), (by (with_reducible repeat (first | refine blk_drewN ?_ _ | refine blk_drew ?_ | refine blk_alloc ?_ _)); exact BK385.out), (by (with_reducible repeat (first | refine blk_drewN ?_ _ | refine blk_drew ?_ | refine blk_alloc ?_ _)); exact BK388.out), GW388.out, GE388.out, NB383_388.out, NB388_383.out, NB384_388.out, NB388_384.out, NB385_388.out, NB388_385.out, (by repeat (first | (with_reducible first | exact HB.out | apply below_alloc | apply pw_below_drewN | apply below_drew1 | refine below_set ?_ GE383.out | refine below_set ?_ GE384.out | refine below_set ?_ GE385.out | refine below_set ?_ GE388.out) | exact HB.out))⟩)
      · skip
        refine box_step ?hg (N := 7) ?hd (cs := #[.int .i64 0, .int .i64 0]) (t := 27) ?hr ?_; (case hd => rfl); (case hg => rfl); (case hr => first | (go_simp; done) | (go_simp; rfl))
        intro gb388 hg w11 hbox hb
        have n0_ := Aside0.mk (blk_below (g := gb383) (o := .cells #[.int .u64 a1_0, .int .u64 a1_1] 154 (0, 0)) (by (with_reducible repeat (first | refine blk_drewN ?_ _ | refine blk_drew ?_ | refine blk_alloc ?_ _)); exact BK383.out) hb)
        have n1_ := Aside0.mk (blk_below (g := gb384) (o := .cells #[.int .u64 a2_0, .int .u64 a2_1] 154 (0, 0)) (by (with_reducible repeat (first | refine blk_drewN ?_ _ | refine blk_drew ?_ | refine blk_alloc ?_ _)); exact BK384.out) hb)
        have n2_ := Aside0.mk (blk_below (g := gb385) (o := .cells #[.int .i64 0, .int .i64 0] 27 (0, 0)) (by (with_reducible repeat (first | refine blk_drewN ?_ _ | refine blk_drew ?_ | refine blk_alloc ?_ _)); exact BK385.out) hb)
        have n3_ := Aside0.mk (below_step (by repeat (first | (with_reducible first | exact HB.out | apply below_alloc | apply pw_below_drewN | apply below_drew1 | refine below_set ?_ GE383.out | refine below_set ?_ GE384.out | refine below_set ?_ GE385.out) | exact HB.out)) hb)
        have n4_ := Aside0.mk (hbox)
        have n5_ := Aside0.mk ((by rw [hg]; exact (below_size (by repeat (first | (with_reducible first | exact HB.out | apply below_alloc | apply pw_below_drewN | apply below_drew1 | refine below_set ?_ GE383.out | refine below_set ?_ GE384.out | refine below_set ?_ GE385.out) | exact HB.out))) : w.heap.size ≤ gb388))
        have n6_ := Aside0.mk ((by rw [hg]; exact (below_size (by repeat (first | (with_reducible first | exact HB.out | apply below_alloc | apply pw_below_drewN | apply below_drew1 | refine below_set ?_ GE383.out | refine below_set ?_ GE384.out | refine below_set ?_ GE385.out) | exact HB.out))) : w.heap.size ≤ gb388))
        have n7_ := Aside0.mk ((by rw [hg]; exact Nat.ne_of_lt (blk_lt (g := gb383) (o := .cells #[.int .u64 a1_0, .int .u64 a1_1] 154 (0, 0)) (by (with_reducible repeat (first | refine blk_drewN ?_ _ | refine blk_drew ?_ | refine blk_alloc ?_ _)); exact BK383.out)) : gb383 ≠ gb388))
        have n8_ := Aside0.mk ((by rw [hg]; exact Nat.ne_of_gt (blk_lt (g := gb383) (o := .cells #[.int .u64 a1_0, .int .u64 a1_1] 154 (0, 0)) (by (with_reducible repeat (first | refine blk_drewN ?_ _ | refine blk_drew ?_ | refine blk_alloc ?_ _)); exact BK383.out)) : gb388 ≠ gb383))
        have n9_ := Aside0.mk ((by rw [hg]; exact Nat.ne_of_lt (blk_lt (g := gb384) (o := .cells #[.int .u64 a2_0, .int .u64 a2_1] 154 (0, 0)) (by (with_reducible repeat (first | refine blk_drewN ?_ _ | refine blk_drew ?_ | refine blk_alloc ?_ _)); exact BK384.out)) : gb384 ≠ gb388))
        have n10_ := Aside0.mk ((by rw [hg]; exact Nat.ne_of_gt (blk_lt (g := gb384) (o := .cells #[.int .u64 a2_0, .int .u64 a2_1] 154 (0, 0)) (by (with_reducible repeat (first | refine blk_drewN ?_ _ | refine blk_drew ?_ | refine blk_alloc ?_ _)); exact BK384.out)) : gb388 ≠ gb384))
        have n11_ := Aside0.mk ((by rw [hg]; exact Nat.ne_of_lt (blk_lt (g := gb385) (o := .cells #[.int .i64 0, .int .i64 0] 27 (0, 0)) (by (with_reducible repeat (first | refine blk_drewN ?_ _ | refine blk_drew ?_ | refine blk_alloc ?_ _)); exact BK385.out)) : gb385 ≠ gb388))
        have n12_ := Aside0.mk ((by rw [hg]; exact Nat.ne_of_gt (blk_lt (g := gb385) (o := .cells #[.int .i64 0, .int .i64 0] 27 (0, 0)) (by (with_reducible repeat (first | refine blk_drewN ?_ _ | refine blk_drew ?_ | refine blk_alloc ?_ _)); exact BK385.out)) : gb388 ≠ gb385))
        clear BK383
        clear BK384
        clear BK385
        clear HB
        have BK383 := n0_
        have BK384 := n1_
        have BK385 := n2_
        have HB := n3_
        have BK388 := n4_
        have GW388 := n5_
        have GE388 := n6_
        have NB383_388 := n7_
        have NB388_383 := n8_
        have NB384_388 := n9_
        have NB388_384 := n10_
        have NB385_388 := n11_
        have NB388_385 := n12_
        clear n0_ n1_ n2_ n3_ n4_ n5_ n6_ n7_ n8_ n9_ n10_ n11_ n12_
        clear hb hbox hg
        refine hK.out _ _ ⟨(blk_cell BK383.out 0).trans rfl, (blk_cell BK383.out 1).trans rfl, (blk_cell BK384.out 0).trans rfl, (blk_cell BK384.out 1).trans rfl⟩ (fun hHeld => ?_)
        clear hK K
        refine norm_ (a' := ?_) ?_ ?_
        rotate_left
        · show Act.put _ (some 7) _ = _
          simp only [Act.put, List.setIfInBounds_toArray, List.set_cons_zero, List.set_cons_succ, i64_w, i32_w]
          rfl
        refine one_ (i := 1) (N := some 9) #[true, true, true, false, false, true, false] rfl rfl (by kernel_rfl) (by decide) (fun K hK => ?_)
        refine goes_ Tryz.func141 (by kernel_rfl) rfl #[.agg #[.int .u64 a1_0, .int .u64 a1_1]] (by rfl) rfl rfl (by (try simp only [List.map_toArray, List.map_cons, List.map_nil]); first | done | rfl | (simp only [List.length_drop, List.length_take]; rfl)) ?_
        with_reducible refine (ratio_wide_fit.calls a1_0 a1_1 t386 _ A4.out).mono ?_
        rintro e w12 ⟨rfl, hb⟩
        refine ⟨_, rfl, ?_⟩
        have n0_ := Aside0.mk (blk_below (g := gb383) (o := .cells #[.int .u64 a1_0, .int .u64 a1_1] 154 (0, 0)) (by (with_reducible repeat (first | refine blk_drewN ?_ _ | refine blk_drew ?_ | refine blk_alloc ?_ _)); exact BK383.out) hb)
        have n1_ := Aside0.mk (blk_below (g := gb384) (o := .cells #[.int .u64 a2_0, .int .u64 a2_1] 154 (0, 0)) (by (with_reducible repeat (first | refine blk_drewN ?_ _ | refine blk_drew ?_ | refine blk_alloc ?_ _)); exact BK384.out) hb)
        have n2_ := Aside0.mk (blk_below (g := gb385) (o := .cells #[.int .i64 0, .int .i64 0] 27 (0, 0)) (by (with_reducible repeat (first | refine blk_drewN ?_ _ | refine blk_drew ?_ | refine blk_alloc ?_ _)); exact BK385.out) hb)
        have n3_ := Aside0.mk (blk_below (g := gb388) (o := .cells #[.int .i64 0, .int .i64 0] 27 (0, 0)) (by (with_reducible repeat (first | refine blk_drewN ?_ _ | refine blk_drew ?_ | refine blk_alloc ?_ _)); exact BK388.out) hb)
        have n4_ := Aside0.mk (below_step (by repeat (first | (with_reducible first | exact HB.out | apply below_alloc | apply pw_below_drewN | apply below_drew1 | refine below_set ?_ GE383.out | refine below_set ?_ GE384.out | refine below_set ?_ GE385.out | refine below_set ?_ GE388.out) | exact HB.out)) hb)
        clear BK383
        clear BK384
        clear BK385
        clear BK388
        clear HB
        have BK383 := n0_
        have BK384 := n1_
        have BK385 := n2_
        have BK388 := n3_
        have HB := n4_
        clear n0_ n1_ n2_ n3_ n4_
        (try clear hb)
        (try clear hb2)
        (try clear hk)
        (try clear hi)
        refine hK.out _ _ ⟨(blk_cell BK383.out 0).trans rfl, (blk_cell BK383.out 1).trans rfl, (blk_cell BK384.out 0).trans rfl, (blk_cell BK384.out 1).trans rfl⟩ (fun hHeld => ?_)
        clear hK K
        refine norm_ (a' := ?_) ?_ ?_
        rotate_left
        · show Act.put _ (some 9) _ = _
          simp only [Act.put, List.setIfInBounds_toArray, List.set_cons_zero, List.set_cons_succ, i64_w, i32_w]
          rfl
        refine one_ (i := 3) (N := some 11) #[true, true, true, true, false, true, false] rfl rfl (by kernel_rfl) (by decide) (fun K hK => ?_)
        refine goes_ Tryz.func141 (by kernel_rfl) rfl #[.agg #[.int .u64 a2_0, .int .u64 a2_1]] (by rfl) rfl rfl (by (try simp only [List.map_toArray, List.map_cons, List.map_nil]); first | done | rfl | (simp only [List.length_drop, List.length_take]; rfl)) ?_
        with_reducible refine (ratio_wide_fit.calls a2_0 a2_1 t387 _ A5.out).mono ?_
        rintro e w13 ⟨rfl, hb⟩
        refine ⟨_, rfl, ?_⟩
        have n0_ := Aside0.mk (blk_below (g := gb383) (o := .cells #[.int .u64 a1_0, .int .u64 a1_1] 154 (0, 0)) (by (with_reducible repeat (first | refine blk_drewN ?_ _ | refine blk_drew ?_ | refine blk_alloc ?_ _)); exact BK383.out) hb)
        have n1_ := Aside0.mk (blk_below (g := gb384) (o := .cells #[.int .u64 a2_0, .int .u64 a2_1] 154 (0, 0)) (by (with_reducible repeat (first | refine blk_drewN ?_ _ | refine blk_drew ?_ | refine blk_alloc ?_ _)); exact BK384.out) hb)
        have n2_ := Aside0.mk (blk_below (g := gb385) (o := .cells #[.int .i64 0, .int .i64 0] 27 (0, 0)) (by (with_reducible repeat (first | refine blk_drewN ?_ _ | refine blk_drew ?_ | refine blk_alloc ?_ _)); exact BK385.out) hb)
        have n3_ := Aside0.mk (blk_below (g := gb388) (o := .cells #[.int .i64 0, .int .i64 0] 27 (0, 0)) (by (with_reducible repeat (first | refine blk_drewN ?_ _ | refine blk_drew ?_ | refine blk_alloc ?_ _)); exact BK388.out) hb)
        have n4_ := Aside0.mk (below_step (by repeat (first | (with_reducible first | exact HB.out | apply below_alloc | apply pw_below_drewN | apply below_drew1 | refine below_set ?_ GE383.out | refine below_set ?_ GE384.out | refine below_set ?_ GE385.out | refine below_set ?_ GE388.out) | exact HB.out)) hb)
        clear BK383
        clear BK384
        clear BK385
        clear BK388
        clear HB
        have BK383 := n0_
        have BK384 := n1_
        have BK385 := n2_
        have BK388 := n3_
        have HB := n4_
        clear n0_ n1_ n2_ n3_ n4_
        (try clear hb)
        (try clear hb2)
        (try clear hk)
        (try clear hi)
        refine hK.out _ _ ⟨(blk_cell BK383.out 0).trans rfl, (blk_cell BK383.out 1).trans rfl, (blk_cell BK384.out 0).trans rfl, (blk_cell BK384.out 1).trans rfl⟩ (fun hHeld => ?_)
        clear hK K
        refine norm_ (a' := ?_) ?_ ?_
        rotate_left
        · show Act.put _ (some 11) _ = _
          simp only [Act.put, List.setIfInBounds_toArray, List.set_cons_zero, List.set_cons_succ, i64_w, i32_w]
          rfl
        refine pure_ (i := 4) (N := some 12) (v := ?_) (a' := ?_) #[true, true, true, true, true, true, false] rfl rfl (by kernel_rfl) (fun _ _ _ h => h) (Or.inl ⟨by rfl, ?_⟩) ?_ ?_
        rotate_left
        · intro w'
          go_simp
          with_reducible rfl
        rotate_left
        · simp only [Act.put, List.setIfInBounds_toArray, List.set_cons_zero, List.set_cons_succ, i64_w, i32_w]
          rfl
        exact norm_ (by simp only [putAll, Act.put, List.setIfInBounds_toArray, List.set_cons_zero, List.set_cons_succ]) (hCont (gb388) _ ⟨hHeld, (by (with_reducible repeat (first | refine blk_drewN ?_ _ | refine blk_drew ?_ | refine blk_alloc ?_ _)); exact BK383.out), (by (with_reducible repeat (first | refine blk_drewN ?_ _ | refine blk_drew ?_ | refine blk_alloc ?_ _)); exact BK384.out), (by (with_reducible repeat (first | refine blk_drewN ?_ _ | refine blk_drew ?_ | refine blk_alloc ?_ _)); exact BK385.out), (by (with_reducible repeat (first | refine blk_drewN ?_ _ | refine blk_drew ?_ | refine blk_alloc ?_ _)); exact BK388.out), GW388.out, GE388.out, NB383_388.out, NB388_383.out, NB384_388.out, NB388_384.out, NB385_388.out, NB388_385.out, (by repeat (first | (with_reducible first | exact HB.out | apply below_alloc | apply pw_below_drewN | apply below_drew1 | refine below_set ?_ GE383.out | refine below_set ?_ GE384.out | refine below_set ?_ GE385.out | refine below_set ?_ GE388.out) | exact HB.out))⟩)
    rintro gb388 w14 ⟨hS_, h0_, h1_, h2_, h3_, h4_, h5_, h6_, h7_, h8_, h9_, h10_, h11_, h12_⟩
    have n0_ : Aside0 (w14.heap[gb383]? = some (.cells #[.int .u64 a1_0, .int .u64 a1_1] 154 (0, 0))) := ⟨h0_⟩
    have n1_ : Aside0 (w14.heap[gb384]? = some (.cells #[.int .u64 a2_0, .int .u64 a2_1] 154 (0, 0))) := ⟨h1_⟩
    have n2_ : Aside0 (w14.heap[gb385]? = some (.cells #[.int .i64 0, .int .i64 0] 27 (0, 0))) := ⟨h2_⟩
    have n3_ : Aside0 (w14.heap[gb388]? = some (.cells #[.int .i64 0, .int .i64 0] 27 (0, 0))) := ⟨h3_⟩
    have n4_ : Aside0 (w.heap.size ≤ gb388) := ⟨h4_⟩
    have n5_ : Aside0 (w.heap.size ≤ gb388) := ⟨h5_⟩
    have n6_ : Aside0 (gb383 ≠ gb388) := ⟨h6_⟩
    have n7_ : Aside0 (gb388 ≠ gb383) := ⟨h7_⟩
    have n8_ : Aside0 (gb384 ≠ gb388) := ⟨h8_⟩
    have n9_ : Aside0 (gb388 ≠ gb384) := ⟨h9_⟩
    have n10_ : Aside0 (gb385 ≠ gb388) := ⟨h10_⟩
    have n11_ : Aside0 (gb388 ≠ gb385) := ⟨h11_⟩
    have n12_ : Aside0 (Below w.heap.size w w14) := ⟨h12_⟩
    clear BK383
    clear BK384
    clear BK385
    clear HB
    clear h0_ h1_ h2_ h3_ h4_ h5_ h6_ h7_ h8_ h9_ h10_ h11_ h12_
    have BK383 := n0_
    have BK384 := n1_
    have BK385 := n2_
    have BK388 := n3_
    have GW388 := n4_
    have GE388 := n5_
    have NB383_388 := n6_
    have NB388_383 := n7_
    have NB384_388 := n8_
    have NB388_384 := n9_
    have NB385_388 := n10_
    have NB388_385 := n11_
    have HB := n12_
    clear n0_ n1_ n2_ n3_ n4_ n5_ n6_ n7_ n8_ n9_ n10_ n11_ n12_
    have hHeld : w14.cell? ⟨gb383, 0, none⟩ = some (.int .u64 a1_0) ∧ w14.cell? ⟨gb383, 1, none⟩ = some (.int .u64 a1_1) ∧ w14.cell? ⟨gb384, 0, none⟩ = some (.int .u64 a2_0) ∧ w14.cell? ⟨gb384, 1, none⟩ = some (.int .u64 a2_1) := hS_
    refine norm_ (a' := ?_) ?_ ?_
    rotate_left
    · simp only [putAll, Act.put, List.setIfInBounds_toArray, List.set_cons_zero, List.set_cons_succ]
      rfl
    refine one_ (i := 6) (N := none) #[true, true, true, true, true, true, true] rfl rfl (by kernel_rfl) (by decide) (fun K hK => ?_)
    have hs15 : w14.cell? ⟨gb388, 0, none⟩ = some (.int .i64 0) := (blk_cell BK388.out 0).trans rfl
    have hfs15 := blk_frozen BK388.out 0
    have hns15_0 := NB383_388.out
    have hns15_1 := NB384_388.out
    have hns15_2 := NB385_388.out
    have hms15_0 := NB388_383.out
    have hms15_1 := NB388_384.out
    have hms15_2 := NB388_385.out
    have hs16 : w14.cell? ⟨gb388, 1, none⟩ = some (.int .i64 0) := (blk_cell BK388.out 1).trans rfl
    have hfs16 := blk_frozen BK388.out 1
    have hns16_0 := NB383_388.out
    have hns16_1 := NB384_388.out
    have hns16_2 := NB385_388.out
    have hms16_0 := NB388_383.out
    have hms16_1 := NB388_384.out
    have hms16_2 := NB388_385.out
    refine skip_ (w1 := ?_) (by rfl) rfl ?_ ?_
    rotate_left
    · go_simp
      rfl
    refine hK.out _ _ ⟨((cell_far (p := ⟨gb388, _, none⟩) NB383_388.out _).trans (((cell_far (p := ⟨gb388, _, none⟩) NB383_388.out _).trans (hHeld.1)))), ((cell_far (p := ⟨gb388, _, none⟩) NB383_388.out _).trans (((cell_far (p := ⟨gb388, _, none⟩) NB383_388.out _).trans (hHeld.2.1)))), ((cell_far (p := ⟨gb388, _, none⟩) NB384_388.out _).trans (((cell_far (p := ⟨gb388, _, none⟩) NB384_388.out _).trans (hHeld.2.2.1)))), ((cell_far (p := ⟨gb388, _, none⟩) NB384_388.out _).trans (((cell_far (p := ⟨gb388, _, none⟩) NB384_388.out _).trans (hHeld.2.2.2))))⟩ (fun hHeld => ?_)
    clear hK K
    refine done_ (by kernel_rfl) ?_
    have hnb17 := NB388_383.out
    have hnc17 := NB383_388.out
    have hnb18 := NB388_384.out
    have hnc18 := NB384_388.out
    have hnb19 := NB388_385.out
    have hnc19 := NB385_388.out
    have hcz20_0 : w14.cell? ⟨gb388, 0, none⟩ = some (.int .i64 0) := (blk_cell BK388.out 0).trans rfl
    have hcz20_1 : w14.cell? ⟨gb388, 1, none⟩ = some (.int .i64 0) := (blk_cell BK388.out 1).trans rfl
    have hfz20_0 := blk_frozen BK388.out 0
    have hfz20_1 := blk_frozen BK388.out 1
    have hnb21 := NB385_383.out
    have hnc21 := NB383_385.out
    have hnb22 := NB385_384.out
    have hnc22 := NB384_385.out
    have hcz23_0 : w14.cell? ⟨gb385, 0, none⟩ = some (.int .i64 0) := (blk_cell BK385.out 0).trans rfl
    have hcz23_1 : w14.cell? ⟨gb385, 1, none⟩ = some (.int .i64 0) := (blk_cell BK385.out 1).trans rfl
    have hfz23_0 := blk_frozen BK385.out 0
    have hfz23_1 := blk_frozen BK385.out 1
    try go_wp2
    refine bodyPost_ret (results_cell_row rfl _ _ gb385 27 #[.int .i64 (wrap64 (-t386)), .int .i64 t387] (0, 0) _ rfl (by (with_reducible repeat (first | refine blk_drewN ?_ _ | refine blk_drew ?_ | refine blk_alloc ?_ _)); refine blk_put (cs := #[.int .i64 (wrap64 (-t386)), .int .i64 0]) ?_ 1 _ rfl; (with_reducible repeat (first | refine blk_drewN ?_ _ | refine blk_drew ?_ | refine blk_alloc ?_ _)); refine blk_put (cs := #[.int .i64 0, .int .i64 0]) ?_ 0 _ rfl; (with_reducible repeat (first | refine blk_drewN ?_ _ | refine blk_drew ?_ | refine blk_alloc ?_ _)); refine blk_far ?_ NB385_388.out _; (with_reducible repeat (first | refine blk_drewN ?_ _ | refine blk_drew ?_ | refine blk_alloc ?_ _)); refine blk_far ?_ NB385_388.out _; (with_reducible repeat (first | refine blk_drewN ?_ _ | refine blk_drew ?_ | refine blk_alloc ?_ _)); refine blk_far ?_ NB385_388.out _; (with_reducible repeat (first | refine blk_drewN ?_ _ | refine blk_drew ?_ | refine blk_alloc ?_ _)); exact BK385.out) Tryz.underlying27 rfl (by kernel_rfl)) rfl ?_
    exact ⟨by first | rfl | (simp [errW_none, errW_some] <;> rfl) | (simp [*, errW_none, errW_some] <;> rfl), by repeat (first | (with_reducible first | exact HB.out | apply below_alloc | apply pw_below_drewN | apply below_drew1 | refine below_set ?_ GE383.out | refine below_set ?_ GE384.out | refine below_set ?_ GE385.out | refine below_set ?_ GE388.out) | exact HB.out)⟩
  · replace c6 := Bool.eq_false_iff.mpr c6
    subst c6
    have H1 : (some (t386, t387)) = some (r1, r2) := by rw [if_neg (show ¬ (false = true) by decide)] at H; exact H
    clear H
    have H := H1
    clear H1
    simp only [Option.some.injEq, Prod.mk.injEq] at H
    obtain ⟨rfl, rfl⟩ := H
    go_enter Tryz.func126, Tryz.ntmps126
    try go_wp2_with (first | ((with_reducible refine gate_dst (N := 4) rfl ?_); refine box_event ?hg (N := 4) ?hd (cs := #[.int .u64 a1_0, .int .u64 a1_1]) (t := 154) ?hr ?_; (case hd => rfl); (case hg => rfl); (case hr => first | (go_simp; done) | (go_simp; rfl)); intro gb383 hg w24 hbox hb; have n0_ := Aside0.mk (below_step (by repeat (first | (with_reducible first | exact HB.out | apply below_alloc | apply pw_below_drewN | apply below_drew1) | exact HB.out)) hb); have n1_ := Aside0.mk (hbox); have n2_ := Aside0.mk ((by rw [hg]; exact (below_size (by repeat (first | (with_reducible first | exact HB.out | apply below_alloc | apply pw_below_drewN | apply below_drew1) | exact HB.out))) : w.heap.size ≤ gb383)); have n3_ := Aside0.mk ((by rw [hg]; exact (below_size (by repeat (first | (with_reducible first | exact HB.out | apply below_alloc | apply pw_below_drewN | apply below_drew1) | exact HB.out))) : w.heap.size ≤ gb383)); clear HB; have HB := n0_; have BK383 := n1_; have GW383 := n2_; have GE383 := n3_; clear n0_ n1_ n2_ n3_; clear hb hbox hg) | ((with_reducible refine gate_dst (N := 5) rfl ?_); refine box_event ?hg (N := 5) ?hd (cs := #[.int .u64 a2_0, .int .u64 a2_1]) (t := 154) ?hr ?_; (case hd => rfl); (case hg => rfl); (case hr => first | (go_simp; done) | (go_simp; rfl)); intro gb384 hg w25 hbox hb; have n0_ := Aside0.mk (blk_below (g := gb383) (o := .cells #[.int .u64 a1_0, .int .u64 a1_1] 154 (0, 0)) (by (with_reducible repeat (first | refine blk_drewN ?_ _ | refine blk_drew ?_ | refine blk_alloc ?_ _)); exact BK383.out) hb); have n1_ := Aside0.mk (below_step (by repeat (first | (with_reducible first | exact HB.out | apply below_alloc | apply pw_below_drewN | apply below_drew1 | refine below_set ?_ GE383.out) | exact HB.out)) hb); have n2_ := Aside0.mk (hbox); have n3_ := Aside0.mk ((by rw [hg]; exact (below_size (by repeat (first | (with_reducible first | exact HB.out | apply below_alloc | apply pw_below_drewN | apply below_drew1 | refine below_set ?_ GE383.out) | exact HB.out))) : w.heap.size ≤ gb384)); have n4_ := Aside0.mk ((by rw [hg]; exact (below_size (by repeat (first | (with_reducible first | exact HB.out | apply below_alloc | apply pw_below_drewN | apply below_drew1 | refine below_set ?_ GE383.out) | exact HB.out))) : w.heap.size ≤ gb384)); have n5_ := Aside0.mk ((by rw [hg]; exact Nat.ne_of_lt (blk_lt (g := gb383) (o := .cells #[.int .u64 a1_0, .int .u64 a1_1] 154 (0, 0)) (by (with_reducible repeat (first | refine blk_drewN ?_ _ | refine blk_drew ?_ | refine blk_alloc ?_ _)); exact BK383.out)) : gb383 ≠ gb384)); have n6_ := Aside0.mk ((by rw [hg]; exact Nat.ne_of_gt (blk_lt (g := gb383) (o := .cells #[.int .u64 a1_0, .int .u64 a1_1] 154 (0, 0)) (by (with_reducible repeat (first | refine blk_drewN ?_ _ | refine blk_drew ?_ | refine blk_alloc ?_ _)); exact BK383.out)) : gb384 ≠ gb383)); clear BK383; clear HB; have BK383 := n0_; have HB := n1_; have BK384 := n2_; have GW384 := n3_; have GE384 := n4_; have NB383_384 := n5_; have NB384_383 := n6_; clear n0_ n1_ n2_ n3_ n4_ n5_ n6_; clear hb hbox hg) | ((with_reducible refine gate_dst (N := 6) rfl ?_); refine box_event ?hg (N := 6) ?hd (cs := #[.int .i64 0, .int .i64 0]) (t := 27) ?hr ?_; (case hd => rfl); (case hg => rfl); (case hr => first | (go_simp; done) | (go_simp; rfl)); intro gb385 hg w26 hbox hb; have n0_ := Aside0.mk (blk_below (g := gb383) (o := .cells #[.int .u64 a1_0, .int .u64 a1_1] 154 (0, 0)) (by (with_reducible repeat (first | refine blk_drewN ?_ _ | refine blk_drew ?_ | refine blk_alloc ?_ _)); exact BK383.out) hb); have n1_ := Aside0.mk (blk_below (g := gb384) (o := .cells #[.int .u64 a2_0, .int .u64 a2_1] 154 (0, 0)) (by (with_reducible repeat (first | refine blk_drewN ?_ _ | refine blk_drew ?_ | refine blk_alloc ?_ _)); exact BK384.out) hb); have n2_ := Aside0.mk (below_step (by repeat (first | (with_reducible first | exact HB.out | apply below_alloc | apply pw_below_drewN | apply below_drew1 | refine below_set ?_ GE383.out | refine below_set ?_ GE384.out) | exact HB.out)) hb); have n3_ := Aside0.mk (hbox); have n4_ := Aside0.mk ((by rw [hg]; exact (below_size (by repeat (first | (with_reducible first | exact HB.out | apply below_alloc | apply pw_below_drewN | apply below_drew1 | refine below_set ?_ GE383.out | refine below_set ?_ GE384.out) | exact HB.out))) : w.heap.size ≤ gb385)); have n5_ := Aside0.mk ((by rw [hg]; exact (below_size (by repeat (first | (with_reducible first | exact HB.out | apply below_alloc | apply pw_below_drewN | apply below_drew1 | refine below_set ?_ GE383.out | refine below_set ?_ GE384.out) | exact HB.out))) : w.heap.size ≤ gb385)); have n6_ := Aside0.mk ((by rw [hg]; exact Nat.ne_of_lt (blk_lt (g := gb383) (o := .cells #[.int .u64 a1_0, .int .u64 a1_1] 154 (0, 0)) (by (with_reducible repeat (first | refine blk_drewN ?_ _ | refine blk_drew ?_ | refine blk_alloc ?_ _)); exact BK383.out)) : gb383 ≠ gb385)); have n7_ := Aside0.mk ((by rw [hg]; exact Nat.ne_of_gt (blk_lt (g := gb383) (o := .cells #[.int .u64 a1_0, .int .u64 a1_1] 154 (0, 0)) (by (with_reducible repeat (first | refine blk_drewN ?_ _ | refine blk_drew ?_ | refine blk_alloc ?_ _)); exact BK383.out)) : gb385 ≠ gb383)); have n8_ := Aside0.mk ((by rw [hg]; exact Nat.ne_of_lt (blk_lt (g := gb384) (o := .cells #[.int .u64 a2_0, .int .u64 a2_1] 154 (0, 0)) (by (with_reducible repeat (first | refine blk_drewN ?_ _ | refine blk_drew ?_ | refine blk_alloc ?_ _)); exact BK384.out)) : gb384 ≠ gb385)); have n9_ := Aside0.mk ((by rw [hg]; exact Nat.ne_of_gt (blk_lt (g := gb384) (o := .cells #[.int .u64 a2_0, .int .u64 a2_1] 154 (0, 0)) (by (with_reducible repeat (first | refine blk_drewN ?_ _ | refine blk_drew ?_ | refine blk_alloc ?_ _)); exact BK384.out)) : gb385 ≠ gb384)); clear BK383; clear BK384; clear HB; have BK383 := n0_; have BK384 := n1_; have HB := n2_; have BK385 := n3_; have GW385 := n4_; have GE385 := n5_; have NB383_385 := n6_; have NB385_383 := n7_; have NB384_385 := n8_; have NB385_384 := n9_; clear n0_ n1_ n2_ n3_ n4_ n5_ n6_ n7_ n8_ n9_; clear hb hbox hg))
    have n0_ := Aside0.mk (blk_drew BK383.out)
    have n1_ := Aside0.mk (blk_drew BK384.out)
    have n2_ := Aside0.mk (blk_drew BK385.out)
    have n3_ := Aside0.mk (below_drew1 HB.out)
    clear BK383
    clear BK384
    clear BK385
    clear HB
    have BK383 := n0_
    have BK384 := n1_
    have BK385 := n2_
    have HB := n3_
    clear n0_ n1_ n2_ n3_
    refine start_ (n := 7) (S := fun w' => w'.cell? ⟨gb383, 0, none⟩ = some (.int .u64 a1_0) ∧ w'.cell? ⟨gb383, 1, none⟩ = some (.int .u64 a1_1) ∧ w'.cell? ⟨gb384, 0, none⟩ = some (.int .u64 a2_0) ∧ w'.cell? ⟨gb384, 1, none⟩ = some (.int .u64 a2_1)) (ds := []) #[false, false, false, false, false, false, false] (by kernel_rfl) rfl rfl ⟨(blk_cell BK383.out 0).trans rfl, (blk_cell BK383.out 1).trans rfl, (blk_cell BK384.out 0).trans rfl, (blk_cell BK384.out 1).trans rfl⟩ (fun hHeld => ?_)
    generalize w26.drew = w27 at BK383 BK384 BK385 HB hHeld ⊢
    refine take_ (i := 0) (N := some 8) (v := ?_) (a' := ?_) #[true, false, false, false, false, false, false] rfl rfl (by kernel_rfl) (fun _ _ _ h => h) (Or.inl ⟨by rfl, ?_⟩) hHeld ?_ ?_
    rotate_left
    · rintro w' ⟨s0, s1, s2, s3⟩
      go_simp
      with_reducible rfl
    rotate_left
    · simp only [Act.put, List.setIfInBounds_toArray, List.set_cons_zero, List.set_cons_succ, i64_w, i32_w]
      rfl
    refine take_ (i := 2) (N := some 10) (v := ?_) (a' := ?_) #[true, false, true, false, false, false, false] rfl rfl (by kernel_rfl) (fun _ _ _ h => h) (Or.inl ⟨by rfl, ?_⟩) hHeld ?_ ?_
    rotate_left
    · rintro w' ⟨s0, s1, s2, s3⟩
      go_simp
      with_reducible rfl
    rotate_left
    · simp only [Act.put, List.setIfInBounds_toArray, List.set_cons_zero, List.set_cons_succ, i64_w, i32_w]
      rfl
    refine join_ (σ := Nat) 1 #[true, true, true, true, true, true, false] (fun s_ => [(9, .int .i64 t386), (11, .int .i64 t387), (7, .pointer (some ⟨s_, 0, none⟩)), (12, .agg #[.int .i64 t386, .int .i64 t387])]) (fun s_ w' => (w'.cell? ⟨gb383, 0, none⟩ = some (.int .u64 a1_0) ∧ w'.cell? ⟨gb383, 1, none⟩ = some (.int .u64 a1_1) ∧ w'.cell? ⟨gb384, 0, none⟩ = some (.int .u64 a2_0) ∧ w'.cell? ⟨gb384, 1, none⟩ = some (.int .u64 a2_1)) ∧ (w'.heap[gb383]? = some (.cells #[.int .u64 a1_0, .int .u64 a1_1] 154 (0, 0))) ∧ (w'.heap[gb384]? = some (.cells #[.int .u64 a2_0, .int .u64 a2_1] 154 (0, 0))) ∧ (w'.heap[gb385]? = some (.cells #[.int .i64 0, .int .i64 0] 27 (0, 0))) ∧ (w'.heap[s_]? = some (.cells #[.int .i64 0, .int .i64 0] 27 (0, 0))) ∧ (w.heap.size ≤ s_) ∧ (w.heap.size ≤ s_) ∧ (gb383 ≠ s_) ∧ (s_ ≠ gb383) ∧ (gb384 ≠ s_) ∧ (s_ ≠ gb384) ∧ (gb385 ≠ s_) ∧ (s_ ≠ gb385) ∧ (Below w.heap.size w w')) ?_ ?_
    rotate_left
    · intro hCont
      refine two_ (i := 1) (j := 5) (Ni := some 9) (Nj := some 7) #[true, true, true, false, false, false, false] #[true, false, true, false, false, true, false] rfl rfl rfl rfl (by kernel_rfl) (by decide) (by decide) (fun K hK => ?_) (fun K hK => ?_)
      · skip
        refine goes_ Tryz.func141 (by kernel_rfl) rfl #[.agg #[.int .u64 a1_0, .int .u64 a1_1]] (by rfl) rfl rfl (by (try simp only [List.map_toArray, List.map_cons, List.map_nil]); first | done | rfl | (simp only [List.length_drop, List.length_take]; rfl)) ?_
        with_reducible refine (ratio_wide_fit.calls a1_0 a1_1 t386 _ A4.out).mono ?_
        rintro e w28 ⟨rfl, hb⟩
        refine ⟨_, rfl, ?_⟩
        have n0_ := Aside0.mk (blk_below (g := gb383) (o := .cells #[.int .u64 a1_0, .int .u64 a1_1] 154 (0, 0)) (by (with_reducible repeat (first | refine blk_drewN ?_ _ | refine blk_drew ?_ | refine blk_alloc ?_ _)); exact BK383.out) hb)
        have n1_ := Aside0.mk (blk_below (g := gb384) (o := .cells #[.int .u64 a2_0, .int .u64 a2_1] 154 (0, 0)) (by (with_reducible repeat (first | refine blk_drewN ?_ _ | refine blk_drew ?_ | refine blk_alloc ?_ _)); exact BK384.out) hb)
        have n2_ := Aside0.mk (blk_below (g := gb385) (o := .cells #[.int .i64 0, .int .i64 0] 27 (0, 0)) (by (with_reducible repeat (first | refine blk_drewN ?_ _ | refine blk_drew ?_ | refine blk_alloc ?_ _)); exact BK385.out) hb)
        have n3_ := Aside0.mk (below_step (by repeat (first | (with_reducible first | exact HB.out | apply below_alloc | apply pw_below_drewN | apply below_drew1 | refine below_set ?_ GE383.out | refine below_set ?_ GE384.out | refine below_set ?_ GE385.out) | exact HB.out)) hb)
        clear BK383
        clear BK384
        clear BK385
        clear HB
        have BK383 := n0_
        have BK384 := n1_
        have BK385 := n2_
        have HB := n3_
        clear n0_ n1_ n2_ n3_
        (try clear hb)
        (try clear hb2)
        (try clear hk)
        (try clear hi)
        refine hK.out _ _ ⟨(blk_cell BK383.out 0).trans rfl, (blk_cell BK383.out 1).trans rfl, (blk_cell BK384.out 0).trans rfl, (blk_cell BK384.out 1).trans rfl⟩ (fun hHeld => ?_)
        clear hK K
        refine norm_ (a' := ?_) ?_ ?_
        rotate_left
        · show Act.put _ (some 9) _ = _
          simp only [Act.put, List.setIfInBounds_toArray, List.set_cons_zero, List.set_cons_succ, i64_w, i32_w]
          rfl
        refine two_ (i := 3) (j := 5) (Ni := some 11) (Nj := some 7) #[true, true, true, true, false, false, false] #[true, true, true, false, false, true, false] rfl rfl rfl rfl (by kernel_rfl) (by decide) (by decide) (fun K hK => ?_) (fun K hK => ?_)
        · skip
          refine goes_ Tryz.func141 (by kernel_rfl) rfl #[.agg #[.int .u64 a2_0, .int .u64 a2_1]] (by rfl) rfl rfl (by (try simp only [List.map_toArray, List.map_cons, List.map_nil]); first | done | rfl | (simp only [List.length_drop, List.length_take]; rfl)) ?_
          with_reducible refine (ratio_wide_fit.calls a2_0 a2_1 t387 _ A5.out).mono ?_
          rintro e w29 ⟨rfl, hb⟩
          refine ⟨_, rfl, ?_⟩
          have n0_ := Aside0.mk (blk_below (g := gb383) (o := .cells #[.int .u64 a1_0, .int .u64 a1_1] 154 (0, 0)) (by (with_reducible repeat (first | refine blk_drewN ?_ _ | refine blk_drew ?_ | refine blk_alloc ?_ _)); exact BK383.out) hb)
          have n1_ := Aside0.mk (blk_below (g := gb384) (o := .cells #[.int .u64 a2_0, .int .u64 a2_1] 154 (0, 0)) (by (with_reducible repeat (first | refine blk_drewN ?_ _ | refine blk_drew ?_ | refine blk_alloc ?_ _)); exact BK384.out) hb)
          have n2_ := Aside0.mk (blk_below (g := gb385) (o := .cells #[.int .i64 0, .int .i64 0] 27 (0, 0)) (by (with_reducible repeat (first | refine blk_drewN ?_ _ | refine blk_drew ?_ | refine blk_alloc ?_ _)); exact BK385.out) hb)
          have n3_ := Aside0.mk (below_step (by repeat (first | (with_reducible first | exact HB.out | apply below_alloc | apply pw_below_drewN | apply below_drew1 | refine below_set ?_ GE383.out | refine below_set ?_ GE384.out | refine below_set ?_ GE385.out) | exact HB.out)) hb)
          clear BK383
          clear BK384
          clear BK385
          clear HB
          have BK383 := n0_
          have BK384 := n1_
          have BK385 := n2_
          have HB := n3_
          clear n0_ n1_ n2_ n3_
          (try clear hb)
          (try clear hb2)
          (try clear hk)
          (try clear hi)
          refine hK.out _ _ ⟨(blk_cell BK383.out 0).trans rfl, (blk_cell BK383.out 1).trans rfl, (blk_cell BK384.out 0).trans rfl, (blk_cell BK384.out 1).trans rfl⟩ (fun hHeld => ?_)
          clear hK K
          refine norm_ (a' := ?_) ?_ ?_
          rotate_left
          · show Act.put _ (some 11) _ = _
            simp only [Act.put, List.setIfInBounds_toArray, List.set_cons_zero, List.set_cons_succ, i64_w, i32_w]
            rfl
          refine pure_ (i := 4) (N := some 12) (v := ?_) (a' := ?_) #[true, true, true, true, true, false, false] rfl rfl (by kernel_rfl) (fun _ _ _ h => h) (Or.inl ⟨by rfl, ?_⟩) ?_ ?_
          rotate_left
          · intro w'
            go_simp
            with_reducible rfl
          rotate_left
          · simp only [Act.put, List.setIfInBounds_toArray, List.set_cons_zero, List.set_cons_succ, i64_w, i32_w]
            rfl
          refine one_ (i := 5) (N := some 7) #[true, true, true, true, true, true, false] rfl rfl (by kernel_rfl) (by decide) (fun K hK => ?_)
          refine box_step ?hg (N := 7) ?hd (cs := #[.int .i64 0, .int .i64 0]) (t := 27) ?hr ?_; (case hd => rfl); (case hg => rfl); (case hr => first | (go_simp; done) | (go_simp; rfl))
          intro gb388 hg w30 hbox hb
          have n0_ := Aside0.mk (blk_below (g := gb383) (o := .cells #[.int .u64 a1_0, .int .u64 a1_1] 154 (0, 0)) (by (with_reducible repeat (first | refine blk_drewN ?_ _ | refine blk_drew ?_ | refine blk_alloc ?_ _)); exact BK383.out) hb)
          have n1_ := Aside0.mk (blk_below (g := gb384) (o := .cells #[.int .u64 a2_0, .int .u64 a2_1] 154 (0, 0)) (by (with_reducible repeat (first | refine blk_drewN ?_ _ | refine blk_drew ?_ | refine blk_alloc ?_ _)); exact BK384.out) hb)
          have n2_ := Aside0.mk (blk_below (g := gb385) (o := .cells #[.int .i64 0, .int .i64 0] 27 (0, 0)) (by (with_reducible repeat (first | refine blk_drewN ?_ _ | refine blk_drew ?_ | refine blk_alloc ?_ _)); exact BK385.out) hb)
          have n3_ := Aside0.mk (below_step (by repeat (first | (with_reducible first | exact HB.out | apply below_alloc | apply pw_below_drewN | apply below_drew1 | refine below_set ?_ GE383.out | refine below_set ?_ GE384.out | refine below_set ?_ GE385.out) | exact HB.out)) hb)
          have n4_ := Aside0.mk (hbox)
          have n5_ := Aside0.mk ((by rw [hg]; exact (below_size (by repeat (first | (with_reducible first | exact HB.out | apply below_alloc | apply pw_below_drewN | apply below_drew1 | refine below_set ?_ GE383.out | refine below_set ?_ GE384.out | refine below_set ?_ GE385.out) | exact HB.out))) : w.heap.size ≤ gb388))
          have n6_ := Aside0.mk ((by rw [hg]; exact (below_size (by repeat (first | (with_reducible first | exact HB.out | apply below_alloc | apply pw_below_drewN | apply below_drew1 | refine below_set ?_ GE383.out | refine below_set ?_ GE384.out | refine below_set ?_ GE385.out) | exact HB.out))) : w.heap.size ≤ gb388))
          have n7_ := Aside0.mk ((by rw [hg]; exact Nat.ne_of_lt (blk_lt (g := gb383) (o := .cells #[.int .u64 a1_0, .int .u64 a1_1] 154 (0, 0)) (by (with_reducible repeat (first | refine blk_drewN ?_ _ | refine blk_drew ?_ | refine blk_alloc ?_ _)); exact BK383.out)) : gb383 ≠ gb388))
          have n8_ := Aside0.mk ((by rw [hg]; exact Nat.ne_of_gt (blk_lt (g := gb383) (o := .cells #[.int .u64 a1_0, .int .u64 a1_1] 154 (0, 0)) (by (with_reducible repeat (first | refine blk_drewN ?_ _ | refine blk_drew ?_ | refine blk_alloc ?_ _)); exact BK383.out)) : gb388 ≠ gb383))
          have n9_ := Aside0.mk ((by rw [hg]; exact Nat.ne_of_lt (blk_lt (g := gb384) (o := .cells #[.int .u64 a2_0, .int .u64 a2_1] 154 (0, 0)) (by (with_reducible repeat (first | refine blk_drewN ?_ _ | refine blk_drew ?_ | refine blk_alloc ?_ _)); exact BK384.out)) : gb384 ≠ gb388))
          have n10_ := Aside0.mk ((by rw [hg]; exact Nat.ne_of_gt (blk_lt (g := gb384) (o := .cells #[.int .u64 a2_0, .int .u64 a2_1] 154 (0, 0)) (by (with_reducible repeat (first | refine blk_drewN ?_ _ | refine blk_drew ?_ | refine blk_alloc ?_ _)); exact BK384.out)) : gb388 ≠ gb384))
          have n11_ := Aside0.mk ((by rw [hg]; exact Nat.ne_of_lt (blk_lt (g := gb385) (o := .cells #[.int .i64 0, .int .i64 0] 27 (0, 0)) (by (with_reducible repeat (first | refine blk_drewN ?_ _ | refine blk_drew ?_ | refine blk_alloc ?_ _)); exact BK385.out)) : gb385 ≠ gb388))
          have n12_ := Aside0.mk ((by rw [hg]; exact Nat.ne_of_gt (blk_lt (g := gb385) (o := .cells #[.int .i64 0, .int .i64 0] 27 (0, 0)) (by (with_reducible repeat (first | refine blk_drewN ?_ _ | refine blk_drew ?_ | refine blk_alloc ?_ _)); exact BK385.out)) : gb388 ≠ gb385))
          clear BK383
          clear BK384
          clear BK385
          clear HB
          have BK383 := n0_
          have BK384 := n1_
          have BK385 := n2_
          have HB := n3_
          have BK388 := n4_
          have GW388 := n5_
          have GE388 := n6_
          have NB383_388 := n7_
          have NB388_383 := n8_
          have NB384_388 := n9_
          have NB388_384 := n10_
          have NB385_388 := n11_
          have NB388_385 := n12_
          clear n0_ n1_ n2_ n3_ n4_ n5_ n6_ n7_ n8_ n9_ n10_ n11_ n12_
          clear hb hbox hg
          refine hK.out _ _ ⟨(blk_cell BK383.out 0).trans rfl, (blk_cell BK383.out 1).trans rfl, (blk_cell BK384.out 0).trans rfl, (blk_cell BK384.out 1).trans rfl⟩ (fun hHeld => ?_)
          clear hK K
          refine norm_ (a' := ?_) ?_ ?_
          rotate_left
          · show Act.put _ (some 7) _ = _
            simp only [Act.put, List.setIfInBounds_toArray, List.set_cons_zero, List.set_cons_succ, i64_w, i32_w]
            rfl
          exact norm_ (by simp only [putAll, Act.put, List.setIfInBounds_toArray, List.set_cons_zero, List.set_cons_succ]) (hCont (gb388) _ ⟨hHeld, (by (with_reducible repeat (first | refine blk_drewN ?_ _ | refine blk_drew ?_ | refine blk_alloc ?_ _)); exact BK383.out), (by (with_reducible repeat (first | refine blk_drewN ?_ _ | refine blk_drew ?_ | refine blk_alloc ?_ _)); exact BK384.out), (by (with_reducible repeat (first | refine blk_drewN ?_ _ | refine blk_drew ?_ | refine blk_alloc ?_ _)); exact BK385.out), (by (with_reducible repeat (first | refine blk_drewN ?_ _ | refine blk_drew ?_ | refine blk_alloc ?_ _)); exact BK388.out), GW388.out, GE388.out, NB383_388.out, NB388_383.out, NB384_388.out, NB388_384.out, NB385_388.out, NB388_385.out, (by repeat (first | (with_reducible first | exact HB.out | apply below_alloc | apply pw_below_drewN | apply below_drew1 | refine below_set ?_ GE383.out | refine below_set ?_ GE384.out | refine below_set ?_ GE385.out | refine below_set ?_ GE388.out) | exact HB.out))⟩)
        · skip
          refine box_step ?hg (N := 7) ?hd (cs := #[.int .i64 0, .int .i64 0]) (t := 27) ?hr ?_; (case hd => rfl); (case hg => rfl); (case hr => first | (go_simp; done) | (go_simp; rfl))
          intro gb388 hg w29 hbox hb
          have n0_ := Aside0.mk (blk_below (g := gb383) (o := .cells #[.int .u64 a1_0, .int .u64 a1_1] 154 (0, 0)) (by (with_reducible repeat (first | refine blk_drewN ?_ _ | refine blk_drew ?_ | refine blk_alloc ?_ _)); exact BK383.out) hb)
          have n1_ := Aside0.mk (blk_below (g := gb384) (o := .cells #[.int .u64 a2_0, .int .u64 a2_1] 154 (0, 0)) (by (with_reducible repeat (first | refine blk_drewN ?_ _ | refine blk_drew ?_ | refine blk_alloc ?_ _)); exact BK384.out) hb)
          have n2_ := Aside0.mk (blk_below (g := gb385) (o := .cells #[.int .i64 0, .int .i64 0] 27 (0, 0)) (by (with_reducible repeat (first | refine blk_drewN ?_ _ | refine blk_drew ?_ | refine blk_alloc ?_ _)); exact BK385.out) hb)
          have n3_ := Aside0.mk (below_step (by repeat (first | (with_reducible first | exact HB.out | apply below_alloc | apply pw_below_drewN | apply below_drew1 | refine below_set ?_ GE383.out | refine below_set ?_ GE384.out | refine below_set ?_ GE385.out) | exact HB.out)) hb)
          have n4_ := Aside0.mk (hbox)
          have n5_ := Aside0.mk ((by rw [hg]; exact (below_size (by repeat (first | (with_reducible first | exact HB.out | apply below_alloc | apply pw_below_drewN | apply below_drew1 | refine below_set ?_ GE383.out | refine below_set ?_ GE384.out | refine below_set ?_ GE385.out) | exact HB.out))) : w.heap.size ≤ gb388))
          have n6_ := Aside0.mk ((by rw [hg]; exact (below_size (by repeat (first | (with_reducible first | exact HB.out | apply below_alloc | apply pw_below_drewN | apply below_drew1 | refine below_set ?_ GE383.out | refine below_set ?_ GE384.out | refine below_set ?_ GE385.out) | exact HB.out))) : w.heap.size ≤ gb388))
          have n7_ := Aside0.mk ((by rw [hg]; exact Nat.ne_of_lt (blk_lt (g := gb383) (o := .cells #[.int .u64 a1_0, .int .u64 a1_1] 154 (0, 0)) (by (with_reducible repeat (first | refine blk_drewN ?_ _ | refine blk_drew ?_ | refine blk_alloc ?_ _)); exact BK383.out)) : gb383 ≠ gb388))
          have n8_ := Aside0.mk ((by rw [hg]; exact Nat.ne_of_gt (blk_lt (g := gb383) (o := .cells #[.int .u64 a1_0, .int .u64 a1_1] 154 (0, 0)) (by (with_reducible repeat (first | refine blk_drewN ?_ _ | refine blk_drew ?_ | refine blk_alloc ?_ _)); exact BK383.out)) : gb388 ≠ gb383))
          have n9_ := Aside0.mk ((by rw [hg]; exact Nat.ne_of_lt (blk_lt (g := gb384) (o := .cells #[.int .u64 a2_0, .int .u64 a2_1] 154 (0, 0)) (by (with_reducible repeat (first | refine blk_drewN ?_ _ | refine blk_drew ?_ | refine blk_alloc ?_ _)); exact BK384.out)) : gb384 ≠ gb388))
          have n10_ := Aside0.mk ((by rw [hg]; exact Nat.ne_of_gt (blk_lt (g := gb384) (o := .cells #[.int .u64 a2_0, .int .u64 a2_1] 154 (0, 0)) (by (with_reducible repeat (first | refine blk_drewN ?_ _ | refine blk_drew ?_ | refine blk_alloc ?_ _)); exact BK384.out)) : gb388 ≠ gb384))
          have n11_ := Aside0.mk ((by rw [hg]; exact Nat.ne_of_lt (blk_lt (g := gb385) (o := .cells #[.int .i64 0, .int .i64 0] 27 (0, 0)) (by (with_reducible repeat (first | refine blk_drewN ?_ _ | refine blk_drew ?_ | refine blk_alloc ?_ _)); exact BK385.out)) : gb385 ≠ gb388))
          have n12_ := Aside0.mk ((by rw [hg]; exact Nat.ne_of_gt (blk_lt (g := gb385) (o := .cells #[.int .i64 0, .int .i64 0] 27 (0, 0)) (by (with_reducible repeat (first | refine blk_drewN ?_ _ | refine blk_drew ?_ | refine blk_alloc ?_ _)); exact BK385.out)) : gb388 ≠ gb385))
          clear BK383
          clear BK384
          clear BK385
          clear HB
          have BK383 := n0_
          have BK384 := n1_
          have BK385 := n2_
          have HB := n3_
          have BK388 := n4_
          have GW388 := n5_
          have GE388 := n6_
          have NB383_388 := n7_
          have NB388_383 := n8_
          have NB384_388 := n9_
          have NB388_384 := n10_
          have NB385_388 := n11_
          have NB388_385 := n12_
          clear n0_ n1_ n2_ n3_ n4_ n5_ n6_ n7_ n8_ n9_ n10_ n11_ n12_
          clear hb hbox hg
          refine hK.out _ _ ⟨(blk_cell BK383.out 0).trans rfl, (blk_cell BK383.out 1).trans rfl, (blk_cell BK384.out 0).trans rfl, (blk_cell BK384.out 1).trans rfl⟩ (fun hHeld => ?_)
          clear hK K
          refine norm_ (a' := ?_) ?_ ?_
          rotate_left
          · show Act.put _ (some 7) _ = _
            simp only [Act.put, List.setIfInBounds_toArray, List.set_cons_zero, List.set_cons_succ, i64_w, i32_w]
            rfl
          refine one_ (i := 3) (N := some 11) #[true, true, true, true, false, true, false] rfl rfl (by kernel_rfl) (by decide) (fun K hK => ?_)
          refine goes_ Tryz.func141 (by kernel_rfl) rfl #[.agg #[.int .u64 a2_0, .int .u64 a2_1]] (by rfl) rfl rfl (by (try simp only [List.map_toArray, List.map_cons, List.map_nil]); first | done | rfl | (simp only [List.length_drop, List.length_take]; rfl)) ?_
          with_reducible refine (ratio_wide_fit.calls a2_0 a2_1 t387 _ A5.out).mono ?_
          rintro e w30 ⟨rfl, hb⟩
          refine ⟨_, rfl, ?_⟩
          have n0_ := Aside0.mk (blk_below (g := gb383) (o := .cells #[.int .u64 a1_0, .int .u64 a1_1] 154 (0, 0)) (by (with_reducible repeat (first | refine blk_drewN ?_ _ | refine blk_drew ?_ | refine blk_alloc ?_ _)); exact BK383.out) hb)
          have n1_ := Aside0.mk (blk_below (g := gb384) (o := .cells #[.int .u64 a2_0, .int .u64 a2_1] 154 (0, 0)) (by (with_reducible repeat (first | refine blk_drewN ?_ _ | refine blk_drew ?_ | refine blk_alloc ?_ _)); exact BK384.out) hb)
          have n2_ := Aside0.mk (blk_below (g := gb385) (o := .cells #[.int .i64 0, .int .i64 0] 27 (0, 0)) (by (with_reducible repeat (first | refine blk_drewN ?_ _ | refine blk_drew ?_ | refine blk_alloc ?_ _)); exact BK385.out) hb)
          have n3_ := Aside0.mk (blk_below (g := gb388) (o := .cells #[.int .i64 0, .int .i64 0] 27 (0, 0)) (by (with_reducible repeat (first | refine blk_drewN ?_ _ | refine blk_drew ?_ | refine blk_alloc ?_ _)); exact BK388.out) hb)
          have n4_ := Aside0.mk (below_step (by repeat (first | (with_reducible first | exact HB.out | apply below_alloc | apply pw_below_drewN | apply below_drew1 | refine below_set ?_ GE383.out | refine below_set ?_ GE384.out | refine below_set ?_ GE385.out | refine below_set ?_ GE388.out) | exact HB.out)) hb)
          clear BK383
          clear BK384
          clear BK385
          clear BK388
          clear HB
          have BK383 := n0_
          have BK384 := n1_
          have BK385 := n2_
          have BK388 := n3_
          have HB := n4_
          clear n0_ n1_ n2_ n3_ n4_
          (try clear hb)
          (try clear hb2)
          (try clear hk)
          (try clear hi)
          refine hK.out _ _ ⟨(blk_cell BK383.out 0).trans rfl, (blk_cell BK383.out 1).trans rfl, (blk_cell BK384.out 0).trans rfl, (blk_cell BK384.out 1).trans rfl⟩ (fun hHeld => ?_)
          clear hK K
          refine norm_ (a' := ?_) ?_ ?_
          rotate_left
          · show Act.put _ (some 11) _ = _
            simp only [Act.put, List.setIfInBounds_toArray, List.set_cons_zero, List.set_cons_succ, i64_w, i32_w]
            rfl
          refine pure_ (i := 4) (N := some 12) (v := ?_) (a' := ?_) #[true, true, true, true, true, true, false] rfl rfl (by kernel_rfl) (fun _ _ _ h => h) (Or.inl ⟨by rfl, ?_⟩) ?_ ?_
          rotate_left
          · intro w'
            go_simp
            with_reducible rfl
          rotate_left
          · simp only [Act.put, List.setIfInBounds_toArray, List.set_cons_zero, List.set_cons_succ, i64_w, i32_w]
            rfl
          exact norm_ (by simp only [putAll, Act.put, List.setIfInBounds_toArray, List.set_cons_zero, List.set_cons_succ]) (hCont (gb388) _ ⟨hHeld, (by (with_reducible repeat (first | refine blk_drewN ?_ _ | refine blk_drew ?_ | refine blk_alloc ?_ _)); exact BK383.out), (by (with_reducible repeat (first | refine blk_drewN ?_ _ | refine blk_drew ?_ | refine blk_alloc ?_ _)); exact BK384.out), (by (with_reducible repeat (first | refine blk_drewN ?_ _ | refine blk_drew ?_ | refine blk_alloc ?_ _)); exact BK385.out), (by (with_reducible repeat (first | refine blk_drewN ?_ _ | refine blk_drew ?_ | refine blk_alloc ?_ _)); exact BK388.out), GW388.out, GE388.out, NB383_388.out, NB388_383.out, NB384_388.out, NB388_384.out, NB385_388.out, NB388_385.out, (by repeat (first | (with_reducible first | exact HB.out | apply below_alloc | apply pw_below_drewN | apply below_drew1 | refine below_set ?_ GE383.out | refine below_set ?_ GE384.out | refine below_set ?_ GE385.out | refine below_set ?_ GE388.out) | exact HB.out))⟩)
      · skip
        refine box_step ?hg (N := 7) ?hd (cs := #[.int .i64 0, .int .i64 0]) (t := 27) ?hr ?_; (case hd => rfl); (case hg => rfl); (case hr => first | (go_simp; done) | (go_simp; rfl))
        intro gb388 hg w28 hbox hb
        have n0_ := Aside0.mk (blk_below (g := gb383) (o := .cells #[.int .u64 a1_0, .int .u64 a1_1] 154 (0, 0)) (by (with_reducible repeat (first | refine blk_drewN ?_ _ | refine blk_drew ?_ | refine blk_alloc ?_ _)); exact BK383.out) hb)
        have n1_ := Aside0.mk (blk_below (g := gb384) (o := .cells #[.int .u64 a2_0, .int .u64 a2_1] 154 (0, 0)) (by (with_reducible repeat (first | refine blk_drewN ?_ _ | refine blk_drew ?_ | refine blk_alloc ?_ _)); exact BK384.out) hb)
        have n2_ := Aside0.mk (blk_below (g := gb385) (o := .cells #[.int .i64 0, .int .i64 0] 27 (0, 0)) (by (with_reducible repeat (first | refine blk_drewN ?_ _ | refine blk_drew ?_ | refine blk_alloc ?_ _)); exact BK385.out) hb)
        have n3_ := Aside0.mk (below_step (by repeat (first | (with_reducible first | exact HB.out | apply below_alloc | apply pw_below_drewN | apply below_drew1 | refine below_set ?_ GE383.out | refine below_set ?_ GE384.out | refine below_set ?_ GE385.out) | exact HB.out)) hb)
        have n4_ := Aside0.mk (hbox)
        have n5_ := Aside0.mk ((by rw [hg]; exact (below_size (by repeat (first | (with_reducible first | exact HB.out | apply below_alloc | apply pw_below_drewN | apply below_drew1 | refine below_set ?_ GE383.out | refine below_set ?_ GE384.out | refine below_set ?_ GE385.out) | exact HB.out))) : w.heap.size ≤ gb388))
        have n6_ := Aside0.mk ((by rw [hg]; exact (below_size (by repeat (first | (with_reducible first | exact HB.out | apply below_alloc | apply pw_below_drewN | apply below_drew1 | refine below_set ?_ GE383.out | refine below_set ?_ GE384.out | refine below_set ?_ GE385.out) | exact HB.out))) : w.heap.size ≤ gb388))
        have n7_ := Aside0.mk ((by rw [hg]; exact Nat.ne_of_lt (blk_lt (g := gb383) (o := .cells #[.int .u64 a1_0, .int .u64 a1_1] 154 (0, 0)) (by (with_reducible repeat (first | refine blk_drewN ?_ _ | refine blk_drew ?_ | refine blk_alloc ?_ _)); exact BK383.out)) : gb383 ≠ gb388))
        have n8_ := Aside0.mk ((by rw [hg]; exact Nat.ne_of_gt (blk_lt (g := gb383) (o := .cells #[.int .u64 a1_0, .int .u64 a1_1] 154 (0, 0)) (by (with_reducible repeat (first | refine blk_drewN ?_ _ | refine blk_drew ?_ | refine blk_alloc ?_ _)); exact BK383.out)) : gb388 ≠ gb383))
        have n9_ := Aside0.mk ((by rw [hg]; exact Nat.ne_of_lt (blk_lt (g := gb384) (o := .cells #[.int .u64 a2_0, .int .u64 a2_1] 154 (0, 0)) (by (with_reducible repeat (first | refine blk_drewN ?_ _ | refine blk_drew ?_ | refine blk_alloc ?_ _)); exact BK384.out)) : gb384 ≠ gb388))
        have n10_ := Aside0.mk ((by rw [hg]; exact Nat.ne_of_gt (blk_lt (g := gb384) (o := .cells #[.int .u64 a2_0, .int .u64 a2_1] 154 (0, 0)) (by (with_reducible repeat (first | refine blk_drewN ?_ _ | refine blk_drew ?_ | refine blk_alloc ?_ _)); exact BK384.out)) : gb388 ≠ gb384))
        have n11_ := Aside0.mk ((by rw [hg]; exact Nat.ne_of_lt (blk_lt (g := gb385) (o := .cells #[.int .i64 0, .int .i64 0] 27 (0, 0)) (by (with_reducible repeat (first | refine blk_drewN ?_ _ | refine blk_drew ?_ | refine blk_alloc ?_ _)); exact BK385.out)) : gb385 ≠ gb388))
        have n12_ := Aside0.mk ((by rw [hg]; exact Nat.ne_of_gt (blk_lt (g := gb385) (o := .cells #[.int .i64 0, .int .i64 0] 27 (0, 0)) (by (with_reducible repeat (first | refine blk_drewN ?_ _ | refine blk_drew ?_ | refine blk_alloc ?_ _)); exact BK385.out)) : gb388 ≠ gb385))
        clear BK383
        clear BK384
        clear BK385
        clear HB
        have BK383 := n0_
        have BK384 := n1_
        have BK385 := n2_
        have HB := n3_
        have BK388 := n4_
        have GW388 := n5_
        have GE388 := n6_
        have NB383_388 := n7_
        have NB388_383 := n8_
        have NB384_388 := n9_
        have NB388_384 := n10_
        have NB385_388 := n11_
        have NB388_385 := n12_
        clear n0_ n1_ n2_ n3_ n4_ n5_ n6_ n7_ n8_ n9_ n10_ n11_ n12_
        clear hb hbox hg
        refine hK.out _ _ ⟨(blk_cell BK383.out 0).trans rfl, (blk_cell BK383.out 1).trans rfl, (blk_cell BK384.out 0).trans rfl, (blk_cell BK384.out 1).trans rfl⟩ (fun hHeld => ?_)
        clear hK K
        refine norm_ (a' := ?_) ?_ ?_
        rotate_left
        · show Act.put _ (some 7) _ = _
          simp only [Act.put, List.setIfInBounds_toArray, List.set_cons_zero, List.set_cons_succ, i64_w, i32_w]
          rfl
        refine one_ (i := 1) (N := some 9) #[true, true, true, false, false, true, false] rfl rfl (by kernel_rfl) (by decide) (fun K hK => ?_)
        refine goes_ Tryz.func141 (by kernel_rfl) rfl #[.agg #[.int .u64 a1_0, .int .u64 a1_1]] (by rfl) rfl rfl (by (try simp only [List.map_toArray, List.map_cons, List.map_nil]); first | done | rfl | (simp only [List.length_drop, List.length_take]; rfl)) ?_
        with_reducible refine (ratio_wide_fit.calls a1_0 a1_1 t386 _ A4.out).mono ?_
        rintro e w29 ⟨rfl, hb⟩
        refine ⟨_, rfl, ?_⟩
        have n0_ := Aside0.mk (blk_below (g := gb383) (o := .cells #[.int .u64 a1_0, .int .u64 a1_1] 154 (0, 0)) (by (with_reducible repeat (first | refine blk_drewN ?_ _ | refine blk_drew ?_ | refine blk_alloc ?_ _)); exact BK383.out) hb)
        have n1_ := Aside0.mk (blk_below (g := gb384) (o := .cells #[.int .u64 a2_0, .int .u64 a2_1] 154 (0, 0)) (by (with_reducible repeat (first | refine blk_drewN ?_ _ | refine blk_drew ?_ | refine blk_alloc ?_ _)); exact BK384.out) hb)
        have n2_ := Aside0.mk (blk_below (g := gb385) (o := .cells #[.int .i64 0, .int .i64 0] 27 (0, 0)) (by (with_reducible repeat (first | refine blk_drewN ?_ _ | refine blk_drew ?_ | refine blk_alloc ?_ _)); exact BK385.out) hb)
        have n3_ := Aside0.mk (blk_below (g := gb388) (o := .cells #[.int .i64 0, .int .i64 0] 27 (0, 0)) (by (with_reducible repeat (first | refine blk_drewN ?_ _ | refine blk_drew ?_ | refine blk_alloc ?_ _)); exact BK388.out) hb)
        have n4_ := Aside0.mk (below_step (by repeat (first | (with_reducible first | exact HB.out | apply below_alloc | apply pw_below_drewN | apply below_drew1 | refine below_set ?_ GE383.out | refine below_set ?_ GE384.out | refine below_set ?_ GE385.out | refine below_set ?_ GE388.out) | exact HB.out)) hb)
        clear BK383
        clear BK384
        clear BK385
        clear BK388
        clear HB
        have BK383 := n0_
        have BK384 := n1_
        have BK385 := n2_
        have BK388 := n3_
        have HB := n4_
        clear n0_ n1_ n2_ n3_ n4_
        (try clear hb)
        (try clear hb2)
        (try clear hk)
        (try clear hi)
        refine hK.out _ _ ⟨(blk_cell BK383.out 0).trans rfl, (blk_cell BK383.out 1).trans rfl, (blk_cell BK384.out 0).trans rfl, (blk_cell BK384.out 1).trans rfl⟩ (fun hHeld => ?_)
        clear hK K
        refine norm_ (a' := ?_) ?_ ?_
        rotate_left
        · show Act.put _ (some 9) _ = _
          simp only [Act.put, List.setIfInBounds_toArray, List.set_cons_zero, List.set_cons_succ, i64_w, i32_w]
          rfl
        refine one_ (i := 3) (N := some 11) #[true, true, true, true, false, true, false] rfl rfl (by kernel_rfl) (by decide) (fun K hK => ?_)
        refine goes_ Tryz.func141 (by kernel_rfl) rfl #[.agg #[.int .u64 a2_0, .int .u64 a2_1]] (by rfl) rfl rfl (by (try simp only [List.map_toArray, List.map_cons, List.map_nil]); first | done | rfl | (simp only [List.length_drop, List.length_take]; rfl)) ?_
        with_reducible refine (ratio_wide_fit.calls a2_0 a2_1 t387 _ A5.out).mono ?_
        rintro e w30 ⟨rfl, hb⟩
        refine ⟨_, rfl, ?_⟩
        have n0_ := Aside0.mk (blk_below (g := gb383) (o := .cells #[.int .u64 a1_0, .int .u64 a1_1] 154 (0, 0)) (by (with_reducible repeat (first | refine blk_drewN ?_ _ | refine blk_drew ?_ | refine blk_alloc ?_ _)); exact BK383.out) hb)
        have n1_ := Aside0.mk (blk_below (g := gb384) (o := .cells #[.int .u64 a2_0, .int .u64 a2_1] 154 (0, 0)) (by (with_reducible repeat (first | refine blk_drewN ?_ _ | refine blk_drew ?_ | refine blk_alloc ?_ _)); exact BK384.out) hb)
        have n2_ := Aside0.mk (blk_below (g := gb385) (o := .cells #[.int .i64 0, .int .i64 0] 27 (0, 0)) (by (with_reducible repeat (first | refine blk_drewN ?_ _ | refine blk_drew ?_ | refine blk_alloc ?_ _)); exact BK385.out) hb)
        have n3_ := Aside0.mk (blk_below (g := gb388) (o := .cells #[.int .i64 0, .int .i64 0] 27 (0, 0)) (by (with_reducible repeat (first | refine blk_drewN ?_ _ | refine blk_drew ?_ | refine blk_alloc ?_ _)); exact BK388.out) hb)
        have n4_ := Aside0.mk (below_step (by repeat (first | (with_reducible first | exact HB.out | apply below_alloc | apply pw_below_drewN | apply below_drew1 | refine below_set ?_ GE383.out | refine below_set ?_ GE384.out | refine below_set ?_ GE385.out | refine below_set ?_ GE388.out) | exact HB.out)) hb)
        clear BK383
        clear BK384
        clear BK385
        clear BK388
        clear HB
        have BK383 := n0_
        have BK384 := n1_
        have BK385 := n2_
        have BK388 := n3_
        have HB := n4_
        clear n0_ n1_ n2_ n3_ n4_
        (try clear hb)
        (try clear hb2)
        (try clear hk)
        (try clear hi)
        refine hK.out _ _ ⟨(blk_cell BK383.out 0).trans rfl, (blk_cell BK383.out 1).trans rfl, (blk_cell BK384.out 0).trans rfl, (blk_cell BK384.out 1).trans rfl⟩ (fun hHeld => ?_)
        clear hK K
        refine norm_ (a' := ?_) ?_ ?_
        rotate_left
        · show Act.put _ (some 11) _ = _
          simp only [Act.put, List.setIfInBounds_toArray, List.set_cons_zero, List.set_cons_succ, i64_w, i32_w]
          rfl
        refine pure_ (i := 4) (N := some 12) (v := ?_) (a' := ?_) #[true, true, true, true, true, true, false] rfl rfl (by kernel_rfl) (fun _ _ _ h => h) (Or.inl ⟨by rfl, ?_⟩) ?_ ?_
        rotate_left
        · intro w'
          go_simp
          with_reducible rfl
        rotate_left
        · simp only [Act.put, List.setIfInBounds_toArray, List.set_cons_zero, List.set_cons_succ, i64_w, i32_w]
          rfl
        exact norm_ (by simp only [putAll, Act.put, List.setIfInBounds_toArray, List.set_cons_zero, List.set_cons_succ]) (hCont (gb388) _ ⟨hHeld, (by (with_reducible repeat (first | refine blk_drewN ?_ _ | refine blk_drew ?_ | refine blk_alloc ?_ _)); exact BK383.out), (by (with_reducible repeat (first | refine blk_drewN ?_ _ | refine blk_drew ?_ | refine blk_alloc ?_ _)); exact BK384.out), (by (with_reducible repeat (first | refine blk_drewN ?_ _ | refine blk_drew ?_ | refine blk_alloc ?_ _)); exact BK385.out), (by (with_reducible repeat (first | refine blk_drewN ?_ _ | refine blk_drew ?_ | refine blk_alloc ?_ _)); exact BK388.out), GW388.out, GE388.out, NB383_388.out, NB388_383.out, NB384_388.out, NB388_384.out, NB385_388.out, NB388_385.out, (by repeat (first | (with_reducible first | exact HB.out | apply below_alloc | apply pw_below_drewN | apply below_drew1 | refine below_set ?_ GE383.out | refine below_set ?_ GE384.out | refine below_set ?_ GE385.out | refine below_set ?_ GE388.out) | exact HB.out))⟩)
    rintro gb388 w31 ⟨hS_, h0_, h1_, h2_, h3_, h4_, h5_, h6_, h7_, h8_, h9_, h10_, h11_, h12_⟩
    have n0_ : Aside0 (w31.heap[gb383]? = some (.cells #[.int .u64 a1_0, .int .u64 a1_1] 154 (0, 0))) := ⟨h0_⟩
    have n1_ : Aside0 (w31.heap[gb384]? = some (.cells #[.int .u64 a2_0, .int .u64 a2_1] 154 (0, 0))) := ⟨h1_⟩
    have n2_ : Aside0 (w31.heap[gb385]? = some (.cells #[.int .i64 0, .int .i64 0] 27 (0, 0))) := ⟨h2_⟩
    have n3_ : Aside0 (w31.heap[gb388]? = some (.cells #[.int .i64 0, .int .i64 0] 27 (0, 0))) := ⟨h3_⟩
    have n4_ : Aside0 (w.heap.size ≤ gb388) := ⟨h4_⟩
    have n5_ : Aside0 (w.heap.size ≤ gb388) := ⟨h5_⟩
    have n6_ : Aside0 (gb383 ≠ gb388) := ⟨h6_⟩
    have n7_ : Aside0 (gb388 ≠ gb383) := ⟨h7_⟩
    have n8_ : Aside0 (gb384 ≠ gb388) := ⟨h8_⟩
    have n9_ : Aside0 (gb388 ≠ gb384) := ⟨h9_⟩
    have n10_ : Aside0 (gb385 ≠ gb388) := ⟨h10_⟩
    have n11_ : Aside0 (gb388 ≠ gb385) := ⟨h11_⟩
    have n12_ : Aside0 (Below w.heap.size w w31) := ⟨h12_⟩
    clear BK383
    clear BK384
    clear BK385
    clear HB
    clear h0_ h1_ h2_ h3_ h4_ h5_ h6_ h7_ h8_ h9_ h10_ h11_ h12_
    have BK383 := n0_
    have BK384 := n1_
    have BK385 := n2_
    have BK388 := n3_
    have GW388 := n4_
    have GE388 := n5_
    have NB383_388 := n6_
    have NB388_383 := n7_
    have NB384_388 := n8_
    have NB388_384 := n9_
    have NB385_388 := n10_
    have NB388_385 := n11_
    have HB := n12_
    clear n0_ n1_ n2_ n3_ n4_ n5_ n6_ n7_ n8_ n9_ n10_ n11_ n12_
    have hHeld : w31.cell? ⟨gb383, 0, none⟩ = some (.int .u64 a1_0) ∧ w31.cell? ⟨gb383, 1, none⟩ = some (.int .u64 a1_1) ∧ w31.cell? ⟨gb384, 0, none⟩ = some (.int .u64 a2_0) ∧ w31.cell? ⟨gb384, 1, none⟩ = some (.int .u64 a2_1) := hS_
    refine norm_ (a' := ?_) ?_ ?_
    rotate_left
    · simp only [putAll, Act.put, List.setIfInBounds_toArray, List.set_cons_zero, List.set_cons_succ]
      rfl
    refine one_ (i := 6) (N := none) #[true, true, true, true, true, true, true] rfl rfl (by kernel_rfl) (by decide) (fun K hK => ?_)
    have hs32 : w31.cell? ⟨gb388, 0, none⟩ = some (.int .i64 0) := (blk_cell BK388.out 0).trans rfl
    have hfs32 := blk_frozen BK388.out 0
    have hns32_0 := NB383_388.out
    have hns32_1 := NB384_388.out
    have hns32_2 := NB385_388.out
    have hms32_0 := NB388_383.out
    have hms32_1 := NB388_384.out
    have hms32_2 := NB388_385.out
    have hs33 : w31.cell? ⟨gb388, 1, none⟩ = some (.int .i64 0) := (blk_cell BK388.out 1).trans rfl
    have hfs33 := blk_frozen BK388.out 1
    have hns33_0 := NB383_388.out
    have hns33_1 := NB384_388.out
    have hns33_2 := NB385_388.out
    have hms33_0 := NB388_383.out
    have hms33_1 := NB388_384.out
    have hms33_2 := NB388_385.out
    refine skip_ (w1 := ?_) (by rfl) rfl ?_ ?_
    rotate_left
    · go_simp
      rfl
    refine hK.out _ _ ⟨((cell_far (p := ⟨gb388, _, none⟩) NB383_388.out _).trans (((cell_far (p := ⟨gb388, _, none⟩) NB383_388.out _).trans (hHeld.1)))), ((cell_far (p := ⟨gb388, _, none⟩) NB383_388.out _).trans (((cell_far (p := ⟨gb388, _, none⟩) NB383_388.out _).trans (hHeld.2.1)))), ((cell_far (p := ⟨gb388, _, none⟩) NB384_388.out _).trans (((cell_far (p := ⟨gb388, _, none⟩) NB384_388.out _).trans (hHeld.2.2.1)))), ((cell_far (p := ⟨gb388, _, none⟩) NB384_388.out _).trans (((cell_far (p := ⟨gb388, _, none⟩) NB384_388.out _).trans (hHeld.2.2.2))))⟩ (fun hHeld => ?_)
    clear hK K
    refine done_ (by kernel_rfl) ?_
    have hnb34 := NB388_383.out
    have hnc34 := NB383_388.out
    have hnb35 := NB388_384.out
    have hnc35 := NB384_388.out
    have hnb36 := NB388_385.out
    have hnc36 := NB385_388.out
    have hcz37_0 : w31.cell? ⟨gb388, 0, none⟩ = some (.int .i64 0) := (blk_cell BK388.out 0).trans rfl
    have hcz37_1 : w31.cell? ⟨gb388, 1, none⟩ = some (.int .i64 0) := (blk_cell BK388.out 1).trans rfl
    have hfz37_0 := blk_frozen BK388.out 0
    have hfz37_1 := blk_frozen BK388.out 1
    have hnb38 := NB385_383.out
    have hnc38 := NB383_385.out
    have hnb39 := NB385_384.out
    have hnc39 := NB384_385.out
    have hcz40_0 : w31.cell? ⟨gb385, 0, none⟩ = some (.int .i64 0) := (blk_cell BK385.out 0).trans rfl
    have hcz40_1 : w31.cell? ⟨gb385, 1, none⟩ = some (.int .i64 0) := (blk_cell BK385.out 1).trans rfl
    have hfz40_0 := blk_frozen BK385.out 0
    have hfz40_1 := blk_frozen BK385.out 1
    try go_wp2
    refine bodyPost_ret (results_cell_row rfl _ _ gb385 27 #[.int .i64 t386, .int .i64 t387] (0, 0) _ rfl (by (with_reducible repeat (first | refine blk_drewN ?_ _ | refine blk_drew ?_ | refine blk_alloc ?_ _)); refine blk_put (cs := #[.int .i64 t386, .int .i64 0]) ?_ 1 _ rfl; (with_reducible repeat (first | refine blk_drewN ?_ _ | refine blk_drew ?_ | refine blk_alloc ?_ _)); refine blk_put (cs := #[.int .i64 0, .int .i64 0]) ?_ 0 _ rfl; (with_reducible repeat (first | refine blk_drewN ?_ _ | refine blk_drew ?_ | refine blk_alloc ?_ _)); refine blk_far ?_ NB385_388.out _; (with_reducible repeat (first | refine blk_drewN ?_ _ | refine blk_drew ?_ | refine blk_alloc ?_ _)); refine blk_far ?_ NB385_388.out _; (with_reducible repeat (first | refine blk_drewN ?_ _ | refine blk_drew ?_ | refine blk_alloc ?_ _)); exact BK385.out) Tryz.underlying27 rfl (by kernel_rfl)) rfl ?_
    exact ⟨by first | rfl | (simp [errW_none, errW_some] <;> rfl) | (simp [*, errW_none, errW_some] <;> rfl), by repeat (first | (with_reducible first | exact HB.out | apply below_alloc | apply pw_below_drewN | apply below_drew1 | refine below_set ?_ GE383.out | refine below_set ?_ GE384.out | refine below_set ?_ GE385.out | refine below_set ?_ GE388.out) | exact HB.out)⟩
end Go.Proofs.YteokilkcchdeiaaGreatDoor.Q
end
section
namespace Go.Proofs.YteokilkcchdeiaaGreatDoor.Q
open Go.RowKit Go.Proofs.YteokilkcchdeiaaGreatDoorW.PrintWords Go.Proofs.YteokilkcchdeiaaGreatDoorW.PrintLast Go.Proofs.YteokilkcchdeiaaGreatDoorW.PrintMore
attribute [local go_sem] max2_int min2_int max_two min_two max_three min_three max_four min_four   -- for this text's walks alone
set_option linter.unusedVariables false
set_option linter.unusedSimpArgs false
def ratio_divisor.l0 : Nat → Int → Int → Option (Int)
  | 0, _, _ => none
  | k + 1, x0, x1 => if x1 = 0 then (some x0) else (ratio_divisor.l0 k x1 (Int.tmod x0 x1))
def ratio_divisor.f (k : Nat) (a0 : Int) (a1 : Int) : Option (Int) := ratio_divisor.l0 k a0 a1
theorem ratio_divisor.mono_l : ∀ k, (∀ y0 y1, LeO (ratio_divisor.l0 k y0 y1) (ratio_divisor.l0 (k + 1) y0 y1))
  | 0 => fun _ _ r h => by simp [ratio_divisor.l0] at h
  | k + 1 => by
    have ih0 := ratio_divisor.mono_l k
    · intro y0 y1
      unfold ratio_divisor.l0
      repeat' first
      | (with_reducible exact ih0 _ _)
      | (with_reducible exact LeO.refl _)
      | (with_reducible exact LeO.none _)
      | (with_reducible refine LeO.ite ?_ ?_)
      | (with_reducible refine LeO.bind ?_ (fun _ => ?_))
      | exact ih0 _ _
      | exact LeO.none _
      | refine LeO.ite ?_ ?_
      | refine LeO.bind ?_ (fun _ => ?_)
theorem ratio_divisor.mono : ∀ a0 a1 k, LeO (ratio_divisor.f k a0 a1) (ratio_divisor.f (k + 1) a0 a1) := by
  intro a0 a1 k
  have ih0 := ratio_divisor.mono_l k
  unfold ratio_divisor.f
  repeat' first
      | (with_reducible exact ih0 _ _)
      | (with_reducible exact LeO.refl _)
      | (with_reducible exact LeO.none _)
      | (with_reducible refine LeO.ite ?_ ?_)
      | (with_reducible refine LeO.bind ?_ (fun _ => ?_))
      | exact ih0 _ _
      | exact LeO.none _
      | refine LeO.ite ?_ ?_
      | refine LeO.bind ?_ (fun _ => ?_)
set_option maxHeartbeats 8000000 in
set_option maxRecDepth 100000 in
theorem ratio_divisor.calls (k : Nat) (a0 : Int) (a1 : Int) (r : Int) (w : World) (h : ratio_divisor.f k a0 a1 = some r) :
    Calls Tryz.prog 37 #[.int .u64 a0, .int .u64 a1] w fun e w' => e = .returned (.int .u64 r) ∧ Drawn0 w w' := by
  have H : (ratio_divisor.l0 k a0 a1) = some r := h
  clear h
  have H' := Aside0.mk H
  clear H
  go_enter Tryz.func37, Tryz.ntmps37
  go_wp2
  repeat (go_quiet (fail); try go_wp2)
  go_loopg [0, 1] k (fun kq v0 v1 w' => ∃ (x0_1 : Int) (x1_1 : Int), v0 = .int .u64 x0_1 ∧ v1 = .int .u64 x1_1 ∧ Aside0 (ratio_divisor.l0 kq x0_1 x1_1 = some r) ∧ Aside0 (kq ≤ k) ∧ Drawn0 w w')
  case atStart => exact ⟨(a0), (a1), (by first | rfl | (simp; done) | (simp [*]; done)), (by first | rfl | (simp; done) | (simp [*]; done)), H', ⟨Nat.le_refl _⟩, by repeat (first | exact Drawn0.refl _ | apply Drawn0.step)⟩
  case round =>
    clear H'
    try clear p2
    obtain ⟨x0_1, x1_1, rfl, rfl, HA, HK1, ⟨m1, rfl⟩⟩ := hrel
    cases gk with
    | zero => exact absurd HA.out (by simp [ratio_divisor.l0])
    | succ k1 =>
      have H := HA.out
      clear HA
      simp only [ratio_divisor.l0] at H
      by_cases c3 : x1_1 = 0
      · rw [if_pos c3] at H
        have c3b0 : (x1_1 == 0) = true := beq_iff_eq.mpr c3
        have c3b1 : (x1_1 != 0) = false := bne_eq_false_iff_eq.mpr c3
        clear c3
        obtain rfl := Option.some.inj H
        go_wp2
        repeat (go_quiet (fail); try go_wp2)
        go_ret
        exact ⟨by first | rfl | (simp; done) | (simp [*]; done), by repeat (first | exact Drawn0.refl _ | apply Drawn0.step)⟩
      · rw [if_neg c3] at H
        have c3b0 : (x1_1 == 0) = false := beq_eq_false_iff_ne.mpr c3
        have c3b1 : (x1_1 != 0) = true := bne_iff_ne.mpr c3
        have H' := Aside0.mk H
        clear H
        go_wp2
        repeat (go_quiet (fail); try go_wp2)
        go_roundg k1
        case measure => have := HK1.out; omega
        case rel => exact ⟨(x1_1), (Int.tmod x0_1 x1_1), (by first | rfl | (simp; done) | (simp [*]; done)), (by first | rfl | (simp; done) | (simp [*]; done)), H', ⟨by have := HK1.out; omega⟩, by repeat (first | exact Drawn0.refl _ | apply Drawn0.step)⟩
end Go.Proofs.YteokilkcchdeiaaGreatDoor.Q
end
section
namespace Go.Proofs.YteokilkcchdeiaaGreatDoor.Q
open Go.RowKit Go.Proofs.YteokilkcchdeiaaGreatDoorW.PrintWords Go.Proofs.YteokilkcchdeiaaGreatDoorW.PrintLast Go.Proofs.YteokilkcchdeiaaGreatDoorW.PrintMore
attribute [local go_sem] max2_int min2_int max_two min_two max_three min_three max_four min_four   -- for this text's walks alone
set_option linter.unusedVariables false
set_option linter.unusedSimpArgs false
def ratio_magnitude.f (a0 : Int) : Option (Int) := if a0 < 0 then (some (IntKind.u64.wrap (-(IntKind.u64.wrap (a0))))) else (some (IntKind.u64.wrap (a0)))
set_option maxHeartbeats 8000000 in
set_option maxRecDepth 100000 in
theorem ratio_magnitude.calls (a0 : Int) (r : Int) (w : World) (h : ratio_magnitude.f a0 = some r) :
    Calls Tryz.prog 38 #[.int .i64 a0] w fun e w' => e = .returned (.int .u64 r) ∧ Drawn0 w w' := by
  have H : (if a0 < 0 then (some (IntKind.u64.wrap (-(IntKind.u64.wrap (a0))))) else (some (IntKind.u64.wrap (a0)))) = some r := h
  clear h
  by_cases c2 : a0 < 0
  · rw [if_pos c2] at H
    have c2b0 : decide (a0 < 0) = true := decide_eq_true c2
    clear c2
    obtain rfl := Option.some.inj H
    go_enter Tryz.func38, Tryz.ntmps38
    go_wp2
    go_ret
    exact ⟨by first | rfl | (simp; done) | (simp [*]; done), by repeat (first | exact Drawn0.refl _ | apply Drawn0.step)⟩
  · rw [if_neg c2] at H
    have c2b0 : decide (a0 < 0) = false := decide_eq_false c2
    clear c2
    obtain rfl := Option.some.inj H
    go_enter Tryz.func38, Tryz.ntmps38
    go_wp2
    go_ret
    exact ⟨by first | rfl | (simp; done) | (simp [*]; done), by repeat (first | exact Drawn0.refl _ | apply Drawn0.step)⟩
end Go.Proofs.YteokilkcchdeiaaGreatDoor.Q
end
section
namespace Go.Proofs.YteokilkcchdeiaaGreatDoor.X
open Go.RowKit Go.Proofs.YteokilkcchdeiaaGreatDoor Go.Proofs.YteokilkcchdeiaaGreatDoorW.PrintWords Go.Proofs.YteokilkcchdeiaaGreatDoorW.PrintLast Go.Proofs.YteokilkcchdeiaaGreatDoorW.PrintMore Go.Proofs.YteokilkcchdeiaaGreatDoor.Q
set_option linter.unusedVariables false
theorem divisor_gcd (b : Nat) : ∀ (a k : Nat), b < k → ratio_divisor.l0 k a b = some ((Nat.gcd a b : Nat) : Int) := by
  induction b using Nat.strongRecOn with
  | _ b ih =>
    intro a k hk
    obtain ⟨k, rfl⟩ : ∃ m, k = m + 1 := ⟨k - 1, by omega⟩
    simp only [ratio_divisor.l0]
    by_cases hb : b = 0
    · subst hb; simp
    · have h1 : ¬ ((b : Int) = 0) := by omega
      have h2 : (Int.tmod (a : Int) (b : Int)) = ((a % b : Nat) : Int) := by
        rw [Int.tmod_eq_emod_of_nonneg (by omega)]; rfl
      have h3 := ih (a % b) (Nat.mod_lt _ (by omega)) b k (by have := Nat.mod_lt a (show 0 < b by omega); omega)
      simp only [h1, if_false, h2]
      rw [h3, Nat.gcd_comm a b, Nat.gcd_rec b a, Nat.gcd_comm]
theorem magnitude_pos (n : Int) (h : 0 ≤ n) (h2 : n ≤ 1152921504606846976) : ratio_magnitude.f n = some n := by
  unfold ratio_magnitude.f
  rw [if_neg (by omega)]
  congr 1
  simp [IntKind.wrap, IntKind.bits]
  omega
def G (a b : Int) : Int := ((Nat.gcd a.toNat b.toNat : Nat) : Int)
theorem G_pos (a b : Int) (hb : 1 ≤ b) : 1 ≤ G a b ∧ G a b ≤ b := by
  unfold G
  have h1 := Nat.gcd_pos_of_pos_right a.toNat (show 0 < b.toNat by omega)
  have h2 := Nat.gcd_le_right a.toNat (show 0 < b.toNat by omega)
  omega
theorem divisor_any (a b : Int) (ha : 0 ≤ a) (hb : 1 ≤ b) (w : World) :
    Calls Tryz.prog 37 #[.int .u64 a, .int .u64 b] w fun e w' => e = .returned (.int .u64 (G a b)) ∧ Drawn0 w w' := by
  refine ratio_divisor.calls (b.toNat + 1) a b (G a b) w ?_
  have h := divisor_gcd b.toNat a.toNat (b.toNat + 1) (by omega)
  rw [show ((a.toNat : Nat) : Int) = a by omega, show ((b.toNat : Nat) : Int) = b by omega] at h
  exact h
theorem magnitude_any (n : Int) (h : 0 ≤ n) (h2 : n ≤ 1152921504606846976) (w : World) :
    Calls Tryz.prog 38 #[.int .i64 n] w fun e w' => e = .returned (.int .u64 n) ∧ Drawn0 w w' := ratio_magnitude.calls n n w (magnitude_pos n h h2)
theorem signed_any (x y : Int) (hx : 0 ≤ x) (hx2 : x ≤ 1152921504606846976) (hy : 0 ≤ y) (hy2 : y ≤ 1152921504606846976) (w : World) :
    Calls Tryz.prog 126 #[.bool false, .agg #[.int .u64 0, .int .u64 x], .agg #[.int .u64 0, .int .u64 y]] w fun e w' => e = .returned (.agg #[.int .i64 x, .int .i64 y]) ∧ Below w.heap.size w w' := by
  refine ratio_signed.calls false 0 x 0 y x y w ?_
  unfold ratio_signed.f ratio_wide_fit.f
  rw [if_pos ⟨rfl, hx, hx2⟩, if_pos ⟨rfl, hy, hy2⟩]
  rfl
set_option maxHeartbeats 1000000 in
set_option maxRecDepth 100000 in
theorem make1_any (p q : Nat) (num den : Int) (h0 : 0 ≤ num) (h1 : num ≤ 1152921504606846976) (h2 : 1 ≤ den) (h3 : den ≤ 1152921504606846976) (w : World)
    (hp : w.cell? ⟨p, 0, none⟩ = some (.int .i64 num)) (hq : w.cell? ⟨q, 0, none⟩ = some (.int .i64 den)) :
    Calls Tryz.prog 125 #[.pointer (some ⟨p, 0, none⟩), .pointer (some ⟨q, 0, none⟩)] w fun e w' => e = .returned (.agg #[.int .i64 (num / G num den), .int .i64 (den / G num den)]) ∧ Below w.heap.size w w' := by
  have hu := Tryz.underlying27
  obtain ⟨hg1, hg2⟩ := G_pos num den h2
  have HD := fun W => divisor_any num den h0 h2 W
  have HM1 := fun W => magnitude_any num h0 h1 W
  have HM2 := fun W => magnitude_any den (by omega) h3 W
  have hd1 : decide (num < 0) = false := decide_eq_false (by omega)
  have hd2 : decide (den < 0) = false := decide_eq_false (by omega)
  have q1 : num / G num den ≤ 1152921504606846976 := Int.le_trans (Int.ediv_le_self _ h0) h1
  have q2 : den / G num den ≤ 1152921504606846976 := Int.le_trans (Int.ediv_le_self _ (by omega)) h3
  have HS := fun W => signed_any (num / G num den) (den / G num den) (Int.ediv_nonneg h0 (by omega)) q1 (Int.ediv_nonneg (by omega) (by omega)) q2 W
  have e1 : IntKind.u64.wrap (num.tdiv (G num den)) = num / G num den := by
    rw [Int.tdiv_eq_ediv_of_nonneg h0]
    have := Int.ediv_nonneg h0 (show 0 ≤ G num den by omega)
    simp [IntKind.wrap, IntKind.bits]
    omega
  have e2 : IntKind.u64.wrap (den.tdiv (G num den)) = den / G num den := by
    rw [Int.tdiv_eq_ediv_of_nonneg (by omega)]
    have := Int.ediv_nonneg (show 0 ≤ den by omega) (show 0 ≤ G num den by omega)
    simp [IntKind.wrap, IntKind.bits]
    omega
  generalize G num den = g at *
  have E1 := Aside0.mk e1
  have E2 := Aside0.mk e2
  clear e1 e2
  have hg0 : ¬ g = 0 := by omega
  clear q1 q2 h1 h3
  have hz : (g == 0) = false := beq_eq_false_iff_ne.2 (by omega)
  go_enter Tryz.func125, Tryz.ntmps125
  have hps : p < w.heap.size := World.block_lt_of_cell? w ⟨p, 0, none⟩ hp
  have hqs : q < w.heap.size := World.block_lt_of_cell? w ⟨q, 0, none⟩ hq
  go_wp2_with (first | ((with_reducible refine gate_dst (N := 2) rfl ?_); refine box_event ?hg (N := 2) ?hd (cs := #[.int .i64 0, .int .i64 0]) (t := 27) ?hr ?_; (case hd => rfl); (case hg => rfl); (case hr => first | (go_simp; done) | (go_simp; rfl)); intro g1 hg1 w3 hbox hb; have HX := Aside0.mk hbox; have HB := Aside0.mk hb; have HG := Aside0.mk hg1; have hp3 := (hb.cell (p := ⟨p, 0, none⟩) hps).trans hp; have hq3 := (hb.cell (p := ⟨q, 0, none⟩) hqs).trans hq; clear hbox hb hg1 hp hq))
  refine (HM1 _).mono ?_
  rintro e w1 ⟨rfl, ⟨n1, rfl⟩⟩
  go_wp2_with fail
  refine (HM2 _).mono ?_
  rintro e w1 ⟨rfl, ⟨n2, rfl⟩⟩
  go_wp2_with fail
  refine (HD _).mono ?_
  rintro e w1 ⟨rfl, ⟨n3, rfl⟩⟩
  go_wp2_with fail
  have hpN : (w3.drewN (n1 + n2 + n3)).cell? ⟨p, 0, none⟩ = some (.int .i64 num) := hp3
  have hqN : (w3.drewN (n1 + n2 + n3)).cell? ⟨q, 0, none⟩ = some (.int .i64 den) := hq3
  have HXN := Aside0.mk (show (w3.drewN (n1 + n2 + n3)).heap[g1]? = _ from HX.out)
  have HBN := Aside0.mk (pw_below_drewN HB.out (n1 + n2 + n3))
  clear hp3 hq3 HX HB
  generalize w3.drewN (n1 + n2 + n3) = W at *
  go_still_tail 13, (by kernel_rfl)
  change wpList _ _ _ _ _ W.drew
  have HX2 := Aside0.mk (show W.drew.heap[g1]? = _ from HXN.out)
  have HB2 := Aside0.mk (below_drew1 HBN.out)
  clear hpN hqN HXN HBN
  generalize W.drew = W2 at *
  have hsz : g1 < W2.heap.size := blk_lt HX2.out
  go_wp2_with fail
  rw [E1.out, E2.out]
  refine (HS _).mono ?_
  rintro e w5 ⟨rfl, hb5⟩
  have HX5 := Aside0.mk (blk_below HX2.out hb5)
  have HB5 := Aside0.mk (below_step HB2.out hb5)
  clear hb5
  have z0 : w5.cell? ⟨g1, 0, none⟩ = some (.int .i64 0) := (blk_cell HX5.out 0).trans rfl
  have z1 : w5.cell? ⟨g1, 1, none⟩ = some (.int .i64 0) := (blk_cell HX5.out 1).trans rfl
  have y0 := blk_frozen HX5.out 0
  have y1 := blk_frozen HX5.out 1
  go_wp2
  refine bodyPost_ret (results_cell_row rfl _ _ g1 27 #[.int .i64 (num / g), .int .i64 (den / g)] (0, 0) _ rfl (blk_put (blk_put HX5.out 0 _ rfl) 1 _ rfl) Tryz.underlying27 rfl (by kernel_rfl)) rfl ?_
  exact ⟨rfl, (HB5.out.setCell (by have h_ := HG.out; show _ ≤ g1; omega) _).setCell (by have h_ := HG.out; show _ ≤ g1; omega) _⟩
theorem attempt1_idle (p q : Addr) (w : World) :
    CallsD Tryz.prog 140 #[.pointer (some p), .pointer (some q)] .returning w fun e u' w' => e = .returned (.tuple #[]) ∧ u' = .returning ∧ w' = w := by
  refine callsD_of_wpS Tryz.func140 rfl fun c₀ cs hu => ?_
  apply wpS_seq
  apply wpS_region
  simp [wpOpsS, go_sem, recoverD, hu, Tryz.ntmps140, Exit.thenS]
  refine wpS_cond (t := false) (by simp [Act.eval, Array.replicate]) ?_
  simp only [Bool.false_eq_true, if_false]
  refine wpS_of_wp (wp_skip ?_)
  cases c₀
  simp_all [bodyPostS, results, Tryz.results140]
set_option maxHeartbeats 1000000 in
set_option maxRecDepth 100000 in
theorem attempt_any (p q : Nat) (num den : Int) (h0 : 0 ≤ num) (h1 : num ≤ 1152921504606846976) (h2 : 1 ≤ den) (h3 : den ≤ 1152921504606846976) (w : World)
    (hp : w.cell? ⟨p, 0, none⟩ = some (.int .i64 num)) (hq : w.cell? ⟨q, 0, none⟩ = some (.int .i64 den)) :
    Calls Tryz.prog 124 #[.func (.func 125) #[] #[.pointer (some ⟨p, 0, none⟩), .pointer (some ⟨q, 0, none⟩)]] w fun e w' => e = .returned (.tuple #[.agg #[.int .i64 (num / G num den), .int .i64 (den / G num den)], .int .i64 0]) ∧ Below w.heap.size w w' := by
  have hu := Tryz.underlying27
  have hmf : ∀ (fn : Fn) (first cap : Array Value) (w : World), (Instr.makeFunc fn first cap).run Tryz.prog w = .ok (.func fn first cap) w := fun _ _ _ _ => rfl
  have HM := fun W hp hq => make1_any p q num den h0 h1 h2 h3 W hp hq
  have hps : p < w.heap.size := World.block_lt_of_cell? w ⟨p, 0, none⟩ hp
  have hqs : q < w.heap.size := World.block_lt_of_cell? w ⟨q, 0, none⟩ hq
  generalize num / G num den = x at *
  generalize den / G num den = y at *
  clear h0 h1 h2 h3
  go_enter_defers Tryz.func124, Tryz.ntmps124
  go_wp2_with fail
  have hb0 : Below w.heap.size w ((w.alloc (.cells #[.int .i64 0, .int .i64 0] 27)).alloc (.cells #[.int .i64 0] 22)) := ((Below.refl _ w).alloc (Nat.le_refl _) _).alloc (by simp) _
  refine (HM _ ((hb0.cell (p := ⟨p, 0, none⟩) hps).trans hp) ((hb0.cell (p := ⟨q, 0, none⟩) hqs).trans hq)).mono ?_
  rintro e w5 ⟨rfl, hb5⟩
  rw [World.size_alloc, World.size_alloc] at hb5
  have c0 : w5.cell? ⟨w.heap.size, 0, none⟩ = some (.int .i64 0) := (hb5.cell (p := ⟨w.heap.size, 0, none⟩) (by show w.heap.size < _; omega)).trans (by go_simp)
  have c1 : w5.cell? ⟨w.heap.size, 1, none⟩ = some (.int .i64 0) := (hb5.cell (p := ⟨w.heap.size, 1, none⟩) (by show w.heap.size < _; omega)).trans (by go_simp)
  have c2 : w5.cell? ⟨w.heap.size + 1, 0, none⟩ = some (.int .i64 0) := (hb5.cell (p := ⟨w.heap.size + 1, 0, none⟩) (by show w.heap.size + 1 < _; omega)).trans (by go_simp)
  have f0 : w5.frozen? ⟨w.heap.size, 0, none⟩ = false := (hb5.frozen (p := ⟨w.heap.size, 0, none⟩) (by show w.heap.size < _; omega)).trans (by go_simp)
  have f1 : w5.frozen? ⟨w.heap.size, 1, none⟩ = false := (hb5.frozen (p := ⟨w.heap.size, 1, none⟩) (by show w.heap.size < _; omega)).trans (by go_simp)
  have f2 : w5.frozen? ⟨w.heap.size + 1, 0, none⟩ = false := (hb5.frozen (p := ⟨w.heap.size + 1, 0, none⟩) (by show w.heap.size + 1 < _; omega)).trans (by go_simp)
  have hsz : w.heap.size + 1 < w5.heap.size := by have := hb5.size; simp at this; omega
  have HB5 := Aside0.mk (hb0.trans (hb5.mono (by omega)))
  have HX0 : Aside0 (w5.heap[w.heap.size]? = some (.cells #[.int .i64 0, .int .i64 0] 27 (0, 0))) := ⟨(hb5.block w.heap.size (by omega)).trans (blk_alloc (blk_new w _) _)⟩
  have HX1 : Aside0 (w5.heap[w.heap.size + 1]? = some (.cells #[.int .i64 0] 22 (0, 0))) := ⟨((hb5.block (w.heap.size + 1) (by omega)).trans (by have h_ := heap_alloc_new (w.alloc (.cells #[.int .i64 0, .int .i64 0] 27)) (.cells #[.int .i64 0] 22); rw [World.size_alloc] at h_; exact h_))⟩
  clear hb5 hb0 hp hq
  have hx0 : w5.heap[w.heap.size]? = some (.cells #[.int .i64 0, .int .i64 0] 27 (0, 0)) := HX0.out
  have hx1 : w5.heap[w.heap.size + 1]? = some (.cells #[.int .i64 0] 22 (0, 0)) := HX1.out
  have hw2 := blk_put (blk_put (blk_put (blk_put hx0 0 (.int .i64 x) rfl) 1 (.int .i64 y) rfl) 0 (.int .i64 x) rfl) 1 (.int .i64 y) rfl
  have hw3 : (((((w5.setCell ⟨w.heap.size, 0, none⟩ (.int .i64 x)).setCell ⟨w.heap.size, 1, none⟩ (.int .i64 y)).setCell ⟨w.heap.size, 0, none⟩ (.int .i64 x)).setCell ⟨w.heap.size, 1, none⟩ (.int .i64 y)).setCell ⟨w.heap.size + 1, 0, none⟩ (.int .i64 0)).heap[w.heap.size]? = some (.cells #[.int .i64 x, .int .i64 y] 27 (0, 0)) :=
    (Below.heap_setCell _ ⟨w.heap.size + 1, 0, none⟩ _ w.heap.size (by simp)).trans hw2
  have hk : (((w5.setCell ⟨w.heap.size, 0, none⟩ (.int .i64 x)).setCell ⟨w.heap.size, 1, none⟩ (.int .i64 y)).setCell ⟨w.heap.size, 0, none⟩ (.int .i64 x)).setCell ⟨w.heap.size, 1, none⟩ (.int .i64 y) = (((w5.setCell ⟨w.heap.size, 0, none⟩ (.int .i64 x)).setCell ⟨w.heap.size, 1, none⟩ (.int .i64 y)).setCell ⟨w.heap.size, 0, none⟩ (.int .i64 x)).setCell ⟨w.heap.size, 1, none⟩ (.int .i64 y) := rfl
  have hw4 : (((((w5.setCell ⟨w.heap.size, 0, none⟩ (.int .i64 x)).setCell ⟨w.heap.size, 1, none⟩ (.int .i64 y)).setCell ⟨w.heap.size, 0, none⟩ (.int .i64 x)).setCell ⟨w.heap.size, 1, none⟩ (.int .i64 y)).setCell ⟨w.heap.size + 1, 0, none⟩ (.int .i64 0)).heap[w.heap.size + 1]? = some (.cells #[.int .i64 0] 22 (0, 0)) := by
    refine blk_put (cs := #[.int .i64 0]) ?_ 0 _ rfl
    rw [Below.heap_setCell _ _ _ _ (by simp), Below.heap_setCell _ _ _ _ (by simp), Below.heap_setCell _ _ _ _ (by simp), Below.heap_setCell _ _ _ _ (by simp)]
    exact hx1
  have hb4 : Below w.heap.size w (((((w5.setCell ⟨w.heap.size, 0, none⟩ (.int .i64 x)).setCell ⟨w.heap.size, 1, none⟩ (.int .i64 y)).setCell ⟨w.heap.size, 0, none⟩ (.int .i64 x)).setCell ⟨w.heap.size, 1, none⟩ (.int .i64 y)).setCell ⟨w.heap.size + 1, 0, none⟩ (.int .i64 0)) :=
    ((((HB5.out.setCell (Nat.le_refl _) _).setCell (Nat.le_refl _) _).setCell (Nat.le_refl _) _).setCell (Nat.le_refl _) _).setCell (by show _ ≤ w.heap.size + 1; omega) _
  clear hx0 hx1 HX0 HX1 hw2 hk
  have HW3 := Aside0.mk hw3
  have HW4 := Aside0.mk hw4
  have HB4 := Aside0.mk hb4
  clear hw3 hw4 hb4
  go_wp2
  generalize (((((w5.setCell ⟨w.heap.size, 0, none⟩ (.int .i64 x)).setCell ⟨w.heap.size, 1, none⟩ (.int .i64 y)).setCell ⟨w.heap.size, 0, none⟩ (.int .i64 x)).setCell ⟨w.heap.size, 1, none⟩ (.int .i64 y)).setCell ⟨w.heap.size + 1, 0, none⟩ (.int .i64 0)) = W at *
  refine leaves_cons (f := 140) (args := #[.pointer (some ⟨w.heap.size, 0, none⟩), .pointer (some ⟨w.heap.size + 1, 0, none⟩)]) (by simp) (by simp [go_sem]) ?_
  refine (attempt1_idle ⟨w.heap.size, 0, none⟩ ⟨w.heap.size + 1, 0, none⟩ W).mono ?_
  rintro e u' w'' ⟨rfl, rfl, rfl⟩
  have k0 : w''.cell? ⟨w.heap.size, 0, none⟩ = some (.int .i64 x) := (blk_cell HW3.out 0).trans rfl
  have k1 : w''.cell? ⟨w.heap.size, 1, none⟩ = some (.int .i64 y) := (blk_cell HW3.out 1).trans rfl
  have k2 : w''.cell? ⟨w.heap.size + 1, 0, none⟩ = some (.int .i64 0) := (blk_cell HW4.out 0).trans rfl
  simp [Leaves, settle, results, Tryz.results124, go_sem, asAddr, Tryz.underlying22]
  simp [k0, k1, k2, go_sem, HB4.out]
def ratio_Make.f (num den : Int) : Option (Int × Int × Int) := if 0 ≤ num ∧ num ≤ 1152921504606846976 ∧ 1 ≤ den ∧ den ≤ 1152921504606846976 then some (num / G num den, den / G num den, 0) else none
set_option maxHeartbeats 1000000 in
set_option maxRecDepth 100000 in
theorem ratio_Make.calls (a0 a1 : Int) (r1 r2 r3 : Int) (w : World) (h : ratio_Make.f a0 a1 = some (r1, r2, r3)) :
    Calls Tryz.prog 103 #[.int .i64 a0, .int .i64 a1] w fun e w' => e = .returned (.tuple #[.agg #[.int .i64 r1, .int .i64 r2], .int .i64 r3]) ∧ Below w.heap.size w w' := by
  unfold ratio_Make.f at h
  split at h
  · rename_i hc
    obtain ⟨h0, h1, h2, h3⟩ := hc
    have h := Option.some.inj h
    simp only [Prod.mk.injEq] at h
    obtain ⟨rfl, rfl, rfl⟩ := h
    have hu := Tryz.underlying27
    have hmf : ∀ (fn : Fn) (first cap : Array Value) (w : World), (Instr.makeFunc fn first cap).run Tryz.prog w = .ok (.func fn first cap) w := fun _ _ _ _ => rfl
    have HA := fun p q W hp hq => attempt_any p q a0 a1 h0 h1 h2 h3 W hp hq
    have hz : (a1 == 0) = false := beq_eq_false_iff_ne.2 (by omega)
    generalize a0 / G a0 a1 = x at *
    generalize a1 / G a0 a1 = y at *
    clear h0 h1 h2 h3
    have hb0 : Below w.heap.size w (((w.alloc (.cells #[.int .i64 a0] 3)).alloc (.cells #[.int .i64 a1] 3)).alloc (.cells #[.int .i64 0, .int .i64 0] 27)) := (((Below.refl _ w).alloc (Nat.le_refl _) _).alloc (by simp) _).alloc (by simp; omega) _
    have HB0 := Aside0.mk hb0
    clear hb0
    go_enter Tryz.func103, Tryz.ntmps103
    go_wp2_with fail
    refine (HA w.heap.size (w.heap.size + 1) _ (by go_simp) (by go_simp)).mono ?_
    rintro e w5 ⟨rfl, hb5⟩
    have HX0 : Aside0 (w5.heap[w.heap.size + 2]? = some (.cells #[.int .i64 0, .int .i64 0] 27 (0, 0))) := ⟨(hb5.block (w.heap.size + 2) (by simp)).trans (by
      have h_ := heap_alloc_new ((w.alloc (.cells #[.int .i64 a0] 3)).alloc (.cells #[.int .i64 a1] 3)) (.cells #[.int .i64 0, .int .i64 0] 27)
      rw [World.size_alloc, World.size_alloc] at h_
      exact h_)⟩
    have HB5 := Aside0.mk (below_step HB0.out hb5)
    clear hb5
    have c0 : w5.cell? ⟨w.heap.size + 2, 0, none⟩ = some (.int .i64 0) := (blk_cell HX0.out 0).trans rfl
    have c1 : w5.cell? ⟨w.heap.size + 2, 1, none⟩ = some (.int .i64 0) := (blk_cell HX0.out 1).trans rfl
    have y0 := blk_frozen HX0.out 0
    have y1 := blk_frozen HX0.out 1
    go_wp2
    refine bodyPost_ret (results_ct rfl _ _ (w.heap.size + 2) 27 #[.int .i64 x, .int .i64 y] (0, 0) _ rfl (blk_put (blk_put HX0.out 0 _ rfl) 1 _ rfl) Tryz.underlying27 rfl (by kernel_rfl)) rfl ?_
    exact ⟨rfl, (HB5.out.setCell (by show _ ≤ w.heap.size + 2; omega) _).setCell (by show _ ≤ w.heap.size + 2; omega) _⟩
  · cases h
end Go.Proofs.YteokilkcchdeiaaGreatDoor.X
end
section
namespace Go.Proofs.YteokilkcchdeiaaGreatDoor.Q
open Go.RowKit Go.Proofs.YteokilkcchdeiaaGreatDoorW.PrintWords Go.Proofs.YteokilkcchdeiaaGreatDoorW.PrintLast Go.Proofs.YteokilkcchdeiaaGreatDoorW.PrintMore
attribute [local go_sem] max2_int min2_int max_two min_two max_three min_three max_four min_four   -- for this text's walks alone
set_option linter.unusedVariables false
set_option linter.unusedSimpArgs false
def lexer_power.l0 : Nat → Int → Int → Int → Option (Int)
  | 0, _, _, _ => none
  | k + 1, x3, x4, x5 => if x5 < x4 then (lexer_power.l0 k (wrap64 (x3 * 10)) x4 (wrap64 (x5 + 1))) else (some x3)
def lexer_power.f (k : Nat) (a0 : Int) : Option (Int) := lexer_power.l0 k 1 a0 0
set_option maxHeartbeats 8000000 in
set_option maxRecDepth 100000 in
theorem lexer_power.calls (k : Nat) (a0 : Int) (r : Int) (w : World) (h : lexer_power.f k a0 = some r) :
    Calls Tryz.prog 104 #[.int .i64 a0] w fun e w' => e = .returned (.int .i64 r) ∧ Drawn0 w w' := by
  have H : (lexer_power.l0 k 1 a0 0) = some r := h
  clear h
  have H' := Aside0.mk H
  clear H
  go_enter Tryz.func104, Tryz.ntmps104
  go_wp2
  go_loopg [3, 5] k (fun kq v3 v5 w' => ∃ (x3_1 : Int) (x5_1 : Int), v3 = .int .i64 x3_1 ∧ v5 = .int .i64 x5_1 ∧ Aside0 (lexer_power.l0 kq x3_1 a0 x5_1 = some r) ∧ Aside0 (kq ≤ k) ∧ Drawn0 w w')
  case atStart => exact ⟨(1), (0), (by first | rfl | (simp; done) | (simp [*]; done)), (by first | rfl | (simp; done) | (simp [*]; done)), H', ⟨Nat.le_refl _⟩, by repeat (first | exact Drawn0.refl _ | apply Drawn0.step)⟩
  case round =>
    clear H'
    try clear c1
    obtain ⟨x3_1, x5_1, rfl, rfl, HA, HK1, ⟨m1, rfl⟩⟩ := hrel
    cases gk with
    | zero => exact absurd HA.out (by simp [lexer_power.l0])
    | succ k1 =>
      have H := HA.out
      clear HA
      simp only [lexer_power.l0] at H
      by_cases c2 : x5_1 < a0
      · rw [if_pos c2] at H
        have c2b0 : decide (x5_1 < a0) = true := decide_eq_true c2
        clear c2
        have H' := Aside0.mk H
        clear H
        go_wp2
        go_roundg k1
        case measure => have := HK1.out; omega
        case rel => exact ⟨(wrap64 (x3_1 * 10)), (wrap64 (x5_1 + 1)), (by first | rfl | (simp; done) | (simp [*]; done)), (by first | rfl | (simp; done) | (simp [*]; done)), H', ⟨by have := HK1.out; omega⟩, by repeat (first | exact Drawn0.refl _ | apply Drawn0.step)⟩
      · rw [if_neg c2] at H
        have c2b0 : decide (x5_1 < a0) = false := decide_eq_false c2
        clear c2
        obtain rfl := Option.some.inj H
        go_wp2
        go_ret
        exact ⟨by first | rfl | (simp; done) | (simp [*]; done), by repeat (first | exact Drawn0.refl _ | apply Drawn0.step)⟩
end Go.Proofs.YteokilkcchdeiaaGreatDoor.Q
end
