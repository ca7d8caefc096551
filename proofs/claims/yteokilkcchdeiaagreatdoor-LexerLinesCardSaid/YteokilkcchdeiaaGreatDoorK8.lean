/- What the proofs of the lexer's laws share, part 8 of 8. -/
import Derived.Test.YteokilkcchdeiaaGreatDoorK4
import Derived.Test.YteokilkcchdeiaaGreatDoorK3
import Derived.Test.YteokilkcchdeiaaGreatDoorK7
section
namespace Go.Proofs.YteokilkcchdeiaaGreatDoor.Q
open Go.Proofs.YteokilkcchdeiaaGreatDoor
open Go.Proofs.YteokilkcchdeiaaGreatDoor.X
open Go.RowKit Go.Proofs.YteokilkcchdeiaaGreatDoorW.PrintWords Go.Proofs.YteokilkcchdeiaaGreatDoorW.PrintLast Go.Proofs.YteokilkcchdeiaaGreatDoorW.PrintMore
attribute [local go_sem] max2_int min2_int max_two min_two max_three min_three max_four min_four   -- for this text's walks alone
set_option linter.unusedVariables false
set_option linter.unusedSimpArgs false

attribute [local go_sem high] eqA29
/-! ### lookoutlaw42_awake: function 11 -/
def lookoutlaw42_awake.f (k : Nat)  : Option (Bool) := (lexer_Tokens.f (⟨#[114, 97, 116, 101, 40, 120, 91, 49, 104, 51, 48, 109, 93, 41, 32, 62, 32, 48, 46, 53, 32, 35, 32, 104, 97, 108, 102]⟩ : ByteArray)).bind fun bt114 => ((lexer_Duration.f 90500).bind fun bt119 => (if bt114.2.2 = 0 then (if bt119.2 = 0 then (if (bt114.1.length : Int) = 10 then (if 4 < (bt114.1.length : Int) then (if (((rd_T29 bt114.1 4).f0) == 3 && ((((rd_T29 bt114.1 4).f1).toList) == ([49, 104, 51, 48, 109] : List UInt8) && ((((rd_T29 bt114.1 4).f2.f0) == 5400000 && (((rd_T29 bt114.1 4).f2.f1) == 1)) && (((rd_T29 bt114.1 4).f3) == 7)))) = true then (if 8 < (bt114.1.length : Int) then (if (((rd_T29 bt114.1 8).f0) == 2 && ((((rd_T29 bt114.1 8).f1).toList) == ([48, 46, 53] : List UInt8) && ((((rd_T29 bt114.1 8).f2.f0) == 1 && (((rd_T29 bt114.1 8).f2.f1) == 2)) && (((rd_T29 bt114.1 8).f3) == 17)))) = true then (if 9 < (bt114.1.length : Int) then (if (((rd_T29 bt114.1 9).f0) == 0 && ((((rd_T29 bt114.1 9).f1).toList) == ([] : List UInt8) && ((((rd_T29 bt114.1 9).f2.f0) == 0 && (((rd_T29 bt114.1 9).f2.f1) == 0)) && (((rd_T29 bt114.1 9).f3) == 27)))) = true then ((lexer_Number.f k 9 10).bind fun t124 => (if t124.toList = ([48, 46, 57] : List UInt8) then ((lexer_Number.f k (-1) 3).bind fun t125 => (if t125.toList = ([45, 49, 47, 51] : List UInt8) then (some (bt119.1.toList == ([49, 109, 51, 48, 115, 53, 48, 48, 109, 115] : List UInt8))) else (some false))) else (some false))) else (some false)) else (none)) else (some false)) else (none)) else (some false)) else (none)) else (some false)) else (some false)) else (some false)))
theorem lookoutlaw42_awake.mono : ∀ k, LeO (lookoutlaw42_awake.f k ) (lookoutlaw42_awake.f (k + 1) ) := by
  intro  k
  unfold lookoutlaw42_awake.f
  repeat' first
      | (with_reducible exact lexer_Number.mono _ _ _)
      | (with_reducible exact LeO.refl _)
      | (with_reducible exact LeO.none _)
      | (with_reducible refine LeO.ite ?_ ?_)
      | (with_reducible refine LeO.bind ?_ (fun _ => ?_))
      | exact lexer_Number.mono _ _ _
      | exact LeO.none _
      | refine LeO.ite ?_ ?_
      | refine LeO.bind ?_ (fun _ => ?_)
set_option maxHeartbeats 8000000 in
set_option maxRecDepth 100000 in
theorem lookoutlaw42_awake.calls (k : Nat)  (r : Bool) (w : World) (hT : Tabs w) (h : lookoutlaw42_awake.f k  = some r) :
    Calls Tryz.prog 11 #[] w fun e w' => e = .returned (.bool r) ∧ Below w.heap.size w w' := by
  have hu29 := Tryz.underlying29
  have hu27 := Tryz.underlying27
  have HT := Aside0.mk hT
  clear hT
  have HB := Aside0.mk (Below.refl w.heap.size w)
  have H : ((lexer_Tokens.f (⟨#[114, 97, 116, 101, 40, 120, 91, 49, 104, 51, 48, 109, 93, 41, 32, 62, 32, 48, 46, 53, 32, 35, 32, 104, 97, 108, 102]⟩ : ByteArray)).bind fun bt114 => ((lexer_Duration.f 90500).bind fun bt119 => (if bt114.2.2 = 0 then (if bt119.2 = 0 then (if (bt114.1.length : Int) = 10 then (if 4 < (bt114.1.length : Int) then (if (((rd_T29 bt114.1 4).f0) == 3 && ((((rd_T29 bt114.1 4).f1).toList) == ([49, 104, 51, 48, 109] : List UInt8) && ((((rd_T29 bt114.1 4).f2.f0) == 5400000 && (((rd_T29 bt114.1 4).f2.f1) == 1)) && (((rd_T29 bt114.1 4).f3) == 7)))) = true then (if 8 < (bt114.1.length : Int) then (if (((rd_T29 bt114.1 8).f0) == 2 && ((((rd_T29 bt114.1 8).f1).toList) == ([48, 46, 53] : List UInt8) && ((((rd_T29 bt114.1 8).f2.f0) == 1 && (((rd_T29 bt114.1 8).f2.f1) == 2)) && (((rd_T29 bt114.1 8).f3) == 17)))) = true then (if 9 < (bt114.1.length : Int) then (if (((rd_T29 bt114.1 9).f0) == 0 && ((((rd_T29 bt114.1 9).f1).toList) == ([] : List UInt8) && ((((rd_T29 bt114.1 9).f2.f0) == 0 && (((rd_T29 bt114.1 9).f2.f1) == 0)) && (((rd_T29 bt114.1 9).f3) == 27)))) = true then ((lexer_Number.f k 9 10).bind fun t124 => (if t124.toList = ([48, 46, 57] : List UInt8) then ((lexer_Number.f k (-1) 3).bind fun t125 => (if t125.toList = ([45, 49, 47, 51] : List UInt8) then (some (bt119.1.toList == ([49, 109, 51, 48, 115, 53, 48, 48, 109, 115] : List UInt8))) else (some false))) else (some false))) else (some false)) else (none)) else (some false)) else (none)) else (some false)) else (none)) else (some false)) else (some false)) else (some false)))) = some r := h
  clear h
  replace H := Option.bind_eq_some_iff.mp H
  obtain ⟨⟨t114, t115, t116⟩, A10, H⟩ := H
  replace H : ((lexer_Duration.f 90500).bind fun bt119 => (if t116 = 0 then (if bt119.2 = 0 then (if (t114.length : Int) = 10 then (if 4 < (t114.length : Int) then (if (((rd_T29 t114 4).f0) == 3 && ((((rd_T29 t114 4).f1).toList) == ([49, 104, 51, 48, 109] : List UInt8) && ((((rd_T29 t114 4).f2.f0) == 5400000 && (((rd_T29 t114 4).f2.f1) == 1)) && (((rd_T29 t114 4).f3) == 7)))) = true then (if 8 < (t114.length : Int) then (if (((rd_T29 t114 8).f0) == 2 && ((((rd_T29 t114 8).f1).toList) == ([48, 46, 53] : List UInt8) && ((((rd_T29 t114 8).f2.f0) == 1 && (((rd_T29 t114 8).f2.f1) == 2)) && (((rd_T29 t114 8).f3) == 17)))) = true then (if 9 < (t114.length : Int) then (if (((rd_T29 t114 9).f0) == 0 && ((((rd_T29 t114 9).f1).toList) == ([] : List UInt8) && ((((rd_T29 t114 9).f2.f0) == 0 && (((rd_T29 t114 9).f2.f1) == 0)) && (((rd_T29 t114 9).f3) == 27)))) = true then ((lexer_Number.f k 9 10).bind fun t124 => (if t124.toList = ([48, 46, 57] : List UInt8) then ((lexer_Number.f k (-1) 3).bind fun t125 => (if t125.toList = ([45, 49, 47, 51] : List UInt8) then (some (bt119.1.toList == ([49, 109, 51, 48, 115, 53, 48, 48, 109, 115] : List UInt8))) else (some false))) else (some false))) else (some false)) else (none)) else (some false)) else (none)) else (some false)) else (none)) else (some false)) else (some false)) else (some false))) = some r := H
  have A1 := Aside0.mk A10
  clear A10
  replace H := Option.bind_eq_some_iff.mp H
  obtain ⟨⟨t119, t120⟩, A20, H⟩ := H
  replace H : (if t116 = 0 then (if t120 = 0 then (if (t114.length : Int) = 10 then (if 4 < (t114.length : Int) then (if (((rd_T29 t114 4).f0) == 3 && ((((rd_T29 t114 4).f1).toList) == ([49, 104, 51, 48, 109] : List UInt8) && ((((rd_T29 t114 4).f2.f0) == 5400000 && (((rd_T29 t114 4).f2.f1) == 1)) && (((rd_T29 t114 4).f3) == 7)))) = true then (if 8 < (t114.length : Int) then (if (((rd_T29 t114 8).f0) == 2 && ((((rd_T29 t114 8).f1).toList) == ([48, 46, 53] : List UInt8) && ((((rd_T29 t114 8).f2.f0) == 1 && (((rd_T29 t114 8).f2.f1) == 2)) && (((rd_T29 t114 8).f3) == 17)))) = true then (if 9 < (t114.length : Int) then (if (((rd_T29 t114 9).f0) == 0 && ((((rd_T29 t114 9).f1).toList) == ([] : List UInt8) && ((((rd_T29 t114 9).f2.f0) == 0 && (((rd_T29 t114 9).f2.f1) == 0)) && (((rd_T29 t114 9).f3) == 27)))) = true then ((lexer_Number.f k 9 10).bind fun t124 => (if t124.toList = ([48, 46, 57] : List UInt8) then ((lexer_Number.f k (-1) 3).bind fun t125 => (if t125.toList = ([45, 49, 47, 51] : List UInt8) then (some (t119.toList == ([49, 109, 51, 48, 115, 53, 48, 48, 109, 115] : List UInt8))) else (some false))) else (some false))) else (some false)) else (none)) else (some false)) else (none)) else (some false)) else (none)) else (some false)) else (some false)) else (some false)) = some r := H
  have A2 := Aside0.mk A20
  clear A20
  by_cases c3 : t116 = 0
  · rw [if_pos c3] at H
    have c3b0 : (t116 == 0) = true := beq_iff_eq.mpr c3
    have c3b1 : (t116 != 0) = false := bne_eq_false_iff_eq.mpr c3
    clear c3
    by_cases c4 : t120 = 0
    · rw [if_pos c4] at H
      have c4b0 : (t120 == 0) = true := beq_iff_eq.mpr c4
      have c4b1 : (t120 != 0) = false := bne_eq_false_iff_eq.mpr c4
      clear c4
      by_cases c5 : (t114.length : Int) = 10
      · rw [if_pos c5] at H
        have c5b0 : ((t114.length : Int) == 10) = true := beq_iff_eq.mpr c5
        have c5b1 : ((t114.length : Int) != 10) = false := bne_eq_false_iff_eq.mpr c5
        clear c5
        by_cases c6 : 4 < (t114.length : Int)
        · rw [if_pos c6] at H
          have c6b0 : decide (4 < (t114.length : Int)) = true := decide_eq_true c6
          have c6b1 : decide (4 < t114.length) = true := decide_eq_true (by omega)
          clear c6
          by_cases c7 : (((rd_T29 t114 4).f0) == 3 && ((((rd_T29 t114 4).f1).toList) == ([49, 104, 51, 48, 109] : List UInt8) && ((((rd_T29 t114 4).f2.f0) == 5400000 && (((rd_T29 t114 4).f2.f1) == 1)) && (((rd_T29 t114 4).f3) == 7)))) = true
          · rw [if_pos c7] at H
            have c7b0 : (((rd_T29 t114 4).f0) == 3 && ((((rd_T29 t114 4).f1).toList) == ([49, 104, 51, 48, 109] : List UInt8) && ((((rd_T29 t114 4).f2.f0) == 5400000 && (((rd_T29 t114 4).f2.f1) == 1)) && (((rd_T29 t114 4).f3) == 7)))) = true := c7
            (try (have c7b1 : decide (((rd_T29 t114 4).f0) = 3 && ((((rd_T29 t114 4).f1).toList) == ([49, 104, 51, 48, 109] : List UInt8) && ((((rd_T29 t114 4).f2.f0) == 5400000 && (((rd_T29 t114 4).f2.f1) == 1)) && (((rd_T29 t114 4).f3) == 7)))) = true := by simpa using c7))
            (try (have c7b2 : (((rd_T29 t114 4).f0) == 3 && ((((rd_T29 t114 4).f1).toList) == ([49, 104, 51, 48, 109] : List UInt8) && ((((rd_T29 t114 4).f2.f0) == 5400000 && (((rd_T29 t114 4).f2.f1) == 1)) && (((rd_T29 t114 4).f3) == 7)))) = true := by simpa using c7))
            clear c7
            by_cases c8 : 8 < (t114.length : Int)
            · rw [if_pos c8] at H
              have c8b0 : decide (8 < (t114.length : Int)) = true := decide_eq_true c8
              have c8b1 : decide (8 < t114.length) = true := decide_eq_true (by omega)
              clear c8
              by_cases c9 : (((rd_T29 t114 8).f0) == 2 && ((((rd_T29 t114 8).f1).toList) == ([48, 46, 53] : List UInt8) && ((((rd_T29 t114 8).f2.f0) == 1 && (((rd_T29 t114 8).f2.f1) == 2)) && (((rd_T29 t114 8).f3) == 17)))) = true
              · rw [if_pos c9] at H
                have c9b0 : (((rd_T29 t114 8).f0) == 2 && ((((rd_T29 t114 8).f1).toList) == ([48, 46, 53] : List UInt8) && ((((rd_T29 t114 8).f2.f0) == 1 && (((rd_T29 t114 8).f2.f1) == 2)) && (((rd_T29 t114 8).f3) == 17)))) = true := c9
                (try (have c9b1 : decide (((rd_T29 t114 8).f0) = 2 && ((((rd_T29 t114 8).f1).toList) == ([48, 46, 53] : List UInt8) && ((((rd_T29 t114 8).f2.f0) == 1 && (((rd_T29 t114 8).f2.f1) == 2)) && (((rd_T29 t114 8).f3) == 17)))) = true := by simpa using c9))
                (try (have c9b2 : (((rd_T29 t114 8).f0) == 2 && ((((rd_T29 t114 8).f1).toList) == ([48, 46, 53] : List UInt8) && ((((rd_T29 t114 8).f2.f0) == 1 && (((rd_T29 t114 8).f2.f1) == 2)) && (((rd_T29 t114 8).f3) == 17)))) = true := by simpa using c9))
                clear c9
                by_cases c10 : 9 < (t114.length : Int)
                · rw [if_pos c10] at H
                  have c10b0 : decide (9 < (t114.length : Int)) = true := decide_eq_true c10
                  have c10b1 : decide (9 < t114.length) = true := decide_eq_true (by omega)
                  clear c10
                  by_cases c11 : (((rd_T29 t114 9).f0) == 0 && ((((rd_T29 t114 9).f1).toList) == ([] : List UInt8) && ((((rd_T29 t114 9).f2.f0) == 0 && (((rd_T29 t114 9).f2.f1) == 0)) && (((rd_T29 t114 9).f3) == 27)))) = true
                  · rw [if_pos c11] at H
                    have c11b0 : (((rd_T29 t114 9).f0) == 0 && ((((rd_T29 t114 9).f1).toList) == ([] : List UInt8) && ((((rd_T29 t114 9).f2.f0) == 0 && (((rd_T29 t114 9).f2.f1) == 0)) && (((rd_T29 t114 9).f3) == 27)))) = true := c11
                    (try (have c11b1 : decide (((rd_T29 t114 9).f0) = 0 && ((((rd_T29 t114 9).f1).toList) == ([] : List UInt8) && ((((rd_T29 t114 9).f2.f0) == 0 && (((rd_T29 t114 9).f2.f1) == 0)) && (((rd_T29 t114 9).f3) == 27)))) = true := by simpa using c11))
                    (try (have c11b2 : (((rd_T29 t114 9).f0) == 0 && ((((rd_T29 t114 9).f1).toList) == ([] : List UInt8) && ((((rd_T29 t114 9).f2.f0) == 0 && (((rd_T29 t114 9).f2.f1) == 0)) && (((rd_T29 t114 9).f3) == 27)))) = true := by simpa using c11))
                    have c11b9 := c11b0; simp only [Bool.and_eq_true, beq_iff_eq] at c11b9
                    clear c11
                    replace H := Option.bind_eq_some_iff.mp H
                    obtain ⟨t124, A120, H⟩ := H
                    replace H : (if t124.toList = ([48, 46, 57] : List UInt8) then ((lexer_Number.f k (-1) 3).bind fun t125 => (if t125.toList = ([45, 49, 47, 51] : List UInt8) then (some (t119.toList == ([49, 109, 51, 48, 115, 53, 48, 48, 109, 115] : List UInt8))) else (some false))) else (some false)) = some r := H
                    have A12 := Aside0.mk A120
                    clear A120
                    by_cases c13 : t124.toList = ([48, 46, 57] : List UInt8)
                    · rw [if_pos c13] at H
                      have c13b0 : (t124.toList == ([48, 46, 57] : List UInt8)) = true := beq_iff_eq.mpr c13
                      have c13b1 : (t124.toList != ([48, 46, 57] : List UInt8)) = false := bne_eq_false_iff_eq.mpr c13
                      clear c13
                      replace H := Option.bind_eq_some_iff.mp H
                      obtain ⟨t125, A140, H⟩ := H
                      replace H : (if t125.toList = ([45, 49, 47, 51] : List UInt8) then (some (t119.toList == ([49, 109, 51, 48, 115, 53, 48, 48, 109, 115] : List UInt8))) else (some false)) = some r := H
                      have A14 := Aside0.mk A140
                      clear A140
                      by_cases c15 : t125.toList = ([45, 49, 47, 51] : List UInt8)
                      · rw [if_pos c15] at H
                        have c15b0 : (t125.toList == ([45, 49, 47, 51] : List UInt8)) = true := beq_iff_eq.mpr c15
                        have c15b1 : (t125.toList != ([45, 49, 47, 51] : List UInt8)) = false := bne_eq_false_iff_eq.mpr c15
                        clear c15
                        obtain rfl := Option.some.inj H
                        go_enter Tryz.func11, Tryz.ntmps11
                        go_wp2_with (first | ((with_reducible refine gate_callee (f := 17) rfl ?_); refine goesL_ (some 7) rfl rfl Tryz.func17 (by kernel_rfl) rfl #[.string (⟨#[114, 97, 116, 101, 40, 120, 91, 49, 104, 51, 48, 109, 93, 41, 32, 62, 32, 48, 46, 53, 32, 35, 32, 104, 97, 108, 102]⟩ : ByteArray)] rfl (by (try simp only [List.map_toArray, List.map_cons, List.map_nil]); first | done | rfl | (simp only [List.length_drop, List.length_take]; rfl)) ?_; (with_reducible refine (lexer_Tokens.calls (⟨#[114, 97, 116, 101, 40, 120, 91, 49, 104, 51, 48, 109, 93, 41, 32, 62, 32, 48, 46, 53, 32, 35, 32, 104, 97, 108, 102]⟩ : ByteArray) t114 t115 t116 _ ?side1 A1.out).mono ?_); (case side1 => exact Tabs.below HT.out (by repeat (first | (with_reducible first | exact HB.out | apply below_alloc | apply pw_below_drewN | apply below_drew1) | exact HB.out))); rintro e w16 ⟨v117, rfl, ho0, hb⟩; refine ⟨_, rfl, ?_⟩; have n0_ := Aside0.mk (Kd.R_lower ho0 (below_size (by repeat (first | (with_reducible first | exact HB.out | apply below_alloc | apply pw_below_drewN | apply below_drew1) | exact HB.out)))); have n1_ := Aside0.mk (below_step (by repeat (first | (with_reducible first | exact HB.out | apply below_alloc | apply pw_below_drewN | apply below_drew1) | exact HB.out)) hb); clear HB; have HO118 := n0_; have HB := n1_; clear n0_ n1_; (try clear hb); (try clear hb2); (try clear hk); (try clear hi); (try clear ho0)) | ((with_reducible refine gate_callee (f := 10) rfl ?_); refine goesL_ (some 12) rfl rfl Tryz.func10 (by kernel_rfl) rfl #[.int .i64 90500] rfl (by (try simp only [List.map_toArray, List.map_cons, List.map_nil]); first | done | rfl | (simp only [List.length_drop, List.length_take]; rfl)) ?_; (with_reducible refine (lexer_Duration.calls 90500 t119 t120 _ ?side1 A2.out).mono ?_); (case side1 => exact Tabs.below HT.out (by repeat (first | (with_reducible first | exact HB.out | apply below_alloc | apply pw_below_drewN | apply below_drew1) | exact HB.out))); rintro e w17 ⟨rfl, hb⟩; refine ⟨_, rfl, ?_⟩; have n0_ := Aside0.mk (Kd.R_below (by (with_reducible repeat (first | apply Kd.R_alloc | apply Kd.R_drewN | apply Kd.R_drew)); exact HO118.out) hb); have n1_ := Aside0.mk (below_step (by repeat (first | (with_reducible first | exact HB.out | apply below_alloc | apply pw_below_drewN | apply below_drew1) | exact HB.out)) hb); clear HO118; clear HB; have HO118 := n0_; have HB := n1_; clear n0_ n1_; (try clear hb); (try clear hb2); (try clear hk); (try clear hi); obtain ⟨Ao18, co18, eo18⟩ := Kd.R_slice HO118.out; subst eo18; have p121 : 0 ≤ (4 : Int) := (by omega); have q121 : 4 < (t114.length : Int) := of_decide_eq_true (by first | (with_reducible assumption) | assumption); obtain ⟨ad121, e121, hx121_0, hx121_1, hx121_2, hx121_3, hx121_4⟩ := at_T29 (Kd.R_reads' HO118.out).2.2 4 p121 q121; cases e121; (try simp only [show (4 : Int).toNat = 4 from rfl, Nat.reduceMul, Nat.reduceEqDiff, Go.Addr.add, ↓reduceIte] at hx121_0); (try simp only [show (4 : Int).toNat = 4 from rfl, Nat.reduceMul, Nat.reduceEqDiff, Go.Addr.add, ↓reduceIte] at hx121_1); (try simp only [show (4 : Int).toNat = 4 from rfl, Nat.reduceMul, Nat.reduceEqDiff, Go.Addr.add, ↓reduceIte] at hx121_2); (try simp only [show (4 : Int).toNat = 4 from rfl, Nat.reduceMul, Nat.reduceEqDiff, Go.Addr.add, ↓reduceIte] at hx121_3); (try simp only [show (4 : Int).toNat = 4 from rfl, Nat.reduceMul, Nat.reduceEqDiff, Go.Addr.add, ↓reduceIte] at hx121_4); have qi121 : (4 < t114.length) = True := eq_true (by omega); (try rw [show ((4 : Int)).toNat = 4 from rfl] at hx121_0); (try rw [show 4 * 5 = 20 from rfl] at hx121_0); (try rw [show ((4 : Int)).toNat = 4 from rfl] at hx121_1); (try rw [show 4 * 5 = 20 from rfl] at hx121_1); (try rw [show ((4 : Int)).toNat = 4 from rfl] at hx121_2); (try rw [show 4 * 5 = 20 from rfl] at hx121_2); (try rw [show ((4 : Int)).toNat = 4 from rfl] at hx121_3); (try rw [show 4 * 5 = 20 from rfl] at hx121_3); (try rw [show ((4 : Int)).toNat = 4 from rfl] at hx121_4); (try rw [show 4 * 5 = 20 from rfl] at hx121_4); replace p121 := eq_true p121; replace q121 := eq_true q121; have p122 : 0 ≤ (8 : Int) := (by omega); have q122 : 8 < (t114.length : Int) := of_decide_eq_true (by first | (with_reducible assumption) | assumption); obtain ⟨ad122, e122, hx122_0, hx122_1, hx122_2, hx122_3, hx122_4⟩ := at_T29 (Kd.R_reads' HO118.out).2.2 8 p122 q122; obtain rfl : ad121 = ad122 := (by injection e122); (try simp only [show (8 : Int).toNat = 8 from rfl, Nat.reduceMul, Nat.reduceEqDiff, Go.Addr.add, ↓reduceIte] at hx122_0); (try simp only [show (8 : Int).toNat = 8 from rfl, Nat.reduceMul, Nat.reduceEqDiff, Go.Addr.add, ↓reduceIte] at hx122_1); (try simp only [show (8 : Int).toNat = 8 from rfl, Nat.reduceMul, Nat.reduceEqDiff, Go.Addr.add, ↓reduceIte] at hx122_2); (try simp only [show (8 : Int).toNat = 8 from rfl, Nat.reduceMul, Nat.reduceEqDiff, Go.Addr.add, ↓reduceIte] at hx122_3); (try simp only [show (8 : Int).toNat = 8 from rfl, Nat.reduceMul, Nat.reduceEqDiff, Go.Addr.add, ↓reduceIte] at hx122_4); have qi122 : (8 < t114.length) = True := eq_true (by omega); (try rw [show ((8 : Int)).toNat = 8 from rfl] at hx122_0); (try rw [show 8 * 5 = 40 from rfl] at hx122_0); (try rw [show ((8 : Int)).toNat = 8 from rfl] at hx122_1); (try rw [show 8 * 5 = 40 from rfl] at hx122_1); (try rw [show ((8 : Int)).toNat = 8 from rfl] at hx122_2); (try rw [show 8 * 5 = 40 from rfl] at hx122_2); (try rw [show ((8 : Int)).toNat = 8 from rfl] at hx122_3); (try rw [show 8 * 5 = 40 from rfl] at hx122_3); (try rw [show ((8 : Int)).toNat = 8 from rfl] at hx122_4); (try rw [show 8 * 5 = 40 from rfl] at hx122_4); replace p122 := eq_true p122; replace q122 := eq_true q122; have p123 : 0 ≤ (9 : Int) := (by omega); have q123 : 9 < (t114.length : Int) := of_decide_eq_true (by first | (with_reducible assumption) | assumption); obtain ⟨ad123, e123, hx123_0, hx123_1, hx123_2, hx123_3, hx123_4⟩ := at_T29 (Kd.R_reads' HO118.out).2.2 9 p123 q123; obtain rfl : ad121 = ad123 := (by injection e123); (try simp only [show (9 : Int).toNat = 9 from rfl, Nat.reduceMul, Nat.reduceEqDiff, Go.Addr.add, ↓reduceIte] at hx123_0); (try simp only [show (9 : Int).toNat = 9 from rfl, Nat.reduceMul, Nat.reduceEqDiff, Go.Addr.add, ↓reduceIte] at hx123_1); (try simp only [show (9 : Int).toNat = 9 from rfl, Nat.reduceMul, Nat.reduceEqDiff, Go.Addr.add, ↓reduceIte] at hx123_2); (try simp only [show (9 : Int).toNat = 9 from rfl, Nat.reduceMul, Nat.reduceEqDiff, Go.Addr.add, ↓reduceIte] at hx123_3); (try simp only [show (9 : Int).toNat = 9 from rfl, Nat.reduceMul, Nat.reduceEqDiff, Go.Addr.add, ↓reduceIte] at hx123_4); have qi123 : (9 < t114.length) = True := eq_true (by omega); (try rw [show ((9 : Int)).toNat = 9 from rfl] at hx123_0); (try rw [show 9 * 5 = 45 from rfl] at hx123_0); (try rw [show ((9 : Int)).toNat = 9 from rfl] at hx123_1); (try rw [show 9 * 5 = 45 from rfl] at hx123_1); (try rw [show ((9 : Int)).toNat = 9 from rfl] at hx123_2); (try rw [show 9 * 5 = 45 from rfl] at hx123_2); (try rw [show ((9 : Int)).toNat = 9 from rfl] at hx123_3); (try rw [show 9 * 5 = 45 from rfl] at hx123_3); (try rw [show ((9 : Int)).toNat = 9 from rfl] at hx123_4); (try rw [show 9 * 5 = 45 from rfl] at hx123_4); replace p123 := eq_true p123; replace q123 := eq_true q123) | (go_at_call 13; (with_reducible refine (lexer_Number.calls k 9 10 t124 _ ?side1 A12.out).mono ?_); (case side1 => exact Tabs.below HT.out (by repeat (first | (with_reducible first | exact HB.out | apply below_alloc | apply pw_below_drewN | apply below_drew1) | exact HB.out))); rintro e w19 ⟨rfl, hb⟩; have n0_ := Aside0.mk (Kd.R_below (by (with_reducible repeat (first | apply Kd.R_alloc | apply Kd.R_drewN | apply Kd.R_drew)); exact HO118.out) hb); have n1_ := Aside0.mk (below_step (by repeat (first | (with_reducible first | exact HB.out | apply below_alloc | apply pw_below_drewN | apply below_drew1) | exact HB.out)) hb); clear HO118; clear HB; have HO118 := n0_; have HB := n1_; clear n0_ n1_; (try clear hb); (try clear hb2); (try clear hk); (try clear hi)) | (go_at_call 13; (with_reducible refine (lexer_Number.calls k (-1) 3 t125 _ ?side1 A14.out).mono ?_); (case side1 => exact Tabs.below HT.out (by repeat (first | (with_reducible first | exact HB.out | apply below_alloc | apply pw_below_drewN | apply below_drew1) | exact HB.out))); rintro e w20 ⟨rfl, hb⟩; have n0_ := Aside0.mk (Kd.R_below (by (with_reducible repeat (first | apply Kd.R_alloc | apply Kd.R_drewN | apply Kd.R_drew)); exact HO118.out) hb); have n1_ := Aside0.mk (below_step (by repeat (first | (with_reducible first | exact HB.out | apply below_alloc | apply pw_below_drewN | apply below_drew1) | exact HB.out)) hb); clear HO118; clear HB; have HO118 := n0_; have HB := n1_; clear n0_ n1_; (try clear hb); (try clear hb2); (try clear hk); (try clear hi)))
                        go_ret
                        exact ⟨by first | rfl | (simp [errW_none, errW_some] <;> rfl) | (simp [*, errW_none, errW_some] <;> rfl), by repeat (first | (with_reducible first | exact HB.out | apply below_alloc | apply pw_below_drewN | apply below_drew1) | exact HB.out)⟩
                      · rw [if_neg c15] at H
                        have c15b0 : (t125.toList == ([45, 49, 47, 51] : List UInt8)) = false := beq_eq_false_iff_ne.mpr c15
                        have c15b1 : (t125.toList != ([45, 49, 47, 51] : List UInt8)) = true := bne_iff_ne.mpr c15
                        obtain rfl := Option.some.inj H
                        go_enter Tryz.func11, Tryz.ntmps11
                        go_wp2_with (first | ((with_reducible refine gate_callee (f := 17) rfl ?_); refine goesL_ (some 7) rfl rfl Tryz.func17 (by kernel_rfl) rfl #[.string (⟨#[114, 97, 116, 101, 40, 120, 91, 49, 104, 51, 48, 109, 93, 41, 32, 62, 32, 48, 46, 53, 32, 35, 32, 104, 97, 108, 102]⟩ : ByteArray)] rfl (by (try simp only [List.map_toArray, List.map_cons, List.map_nil]); first | done | rfl | (simp only [List.length_drop, List.length_take]; rfl)) ?_; (with_reducible refine (lexer_Tokens.calls (⟨#[114, 97, 116, 101, 40, 120, 91, 49, 104, 51, 48, 109, 93, 41, 32, 62, 32, 48, 46, 53, 32, 35, 32, 104, 97, 108, 102]⟩ : ByteArray) t114 t115 t116 _ ?side1 A1.out).mono ?_); (case side1 => exact Tabs.below HT.out (by repeat (first | (with_reducible first | exact HB.out | apply below_alloc | apply pw_below_drewN | apply below_drew1) | exact HB.out))); rintro e w21 ⟨v117, rfl, ho0, hb⟩; refine ⟨_, rfl, ?_⟩; have n0_ := Aside0.mk (Kd.R_lower ho0 (below_size (by repeat (first | (with_reducible first | exact HB.out | apply below_alloc | apply pw_below_drewN | apply below_drew1) | exact HB.out)))); have n1_ := Aside0.mk (below_step (by repeat (first | (with_reducible first | exact HB.out | apply below_alloc | apply pw_below_drewN | apply below_drew1) | exact HB.out)) hb); clear HB; have HO118 := n0_; have HB := n1_; clear n0_ n1_; (try clear hb); (try clear hb2); (try clear hk); (try clear hi); (try clear ho0)) | ((with_reducible refine gate_callee (f := 10) rfl ?_); refine goesL_ (some 12) rfl rfl Tryz.func10 (by kernel_rfl) rfl #[.int .i64 90500] rfl (by (try simp only [List.map_toArray, List.map_cons, List.map_nil]); first | done | rfl | (simp only [List.length_drop, List.length_take]; rfl)) ?_; (with_reducible refine (lexer_Duration.calls 90500 t119 t120 _ ?side1 A2.out).mono ?_); (case side1 => exact Tabs.below HT.out (by repeat (first | (with_reducible first | exact HB.out | apply below_alloc | apply pw_below_drewN | apply below_drew1) | exact HB.out))); rintro e w22 ⟨rfl, hb⟩; refine ⟨_, rfl, ?_⟩; have n0_ := Aside0.mk (Kd.R_below (by (with_reducible repeat (first | apply Kd.R_alloc | apply Kd.R_drewN | apply Kd.R_drew)); exact HO118.out) hb); have n1_ := Aside0.mk (below_step (by repeat (first | (with_reducible first | exact HB.out | apply below_alloc | apply pw_below_drewN | apply below_drew1) | exact HB.out)) hb); clear HO118; clear HB; have HO118 := n0_; have HB := n1_; clear n0_ n1_; (try clear hb); (try clear hb2); (try clear hk); (try clear hi); obtain ⟨Ao23, co23, eo23⟩ := Kd.R_slice HO118.out; subst eo23; have p121 : 0 ≤ (4 : Int) := (by omega); have q121 : 4 < (t114.length : Int) := of_decide_eq_true (by first | (with_reducible assumption) | assumption); obtain ⟨ad121, e121, hx121_0, hx121_1, hx121_2, hx121_3, hx121_4⟩ := at_T29 (Kd.R_reads' HO118.out).2.2 4 p121 q121; cases e121; (try simp only [show (4 : Int).toNat = 4 from rfl, Nat.reduceMul, Nat.reduceEqDiff, Go.Addr.add, ↓reduceIte] at hx121_0); (try simp only [show (4 : Int).toNat = 4 from rfl, Nat.reduceMul, Nat.reduceEqDiff, Go.Addr.add, ↓reduceIte] at hx121_1); (try simp only [show (4 : Int).toNat = 4 from rfl, Nat.reduceMul, Nat.reduceEqDiff, Go.Addr.add, ↓reduceIte] at hx121_2); (try simp only [show (4 : Int).toNat = 4 from rfl, Nat.reduceMul, Nat.reduceEqDiff, Go.Addr.add, ↓reduceIte] at hx121_3); (try simp only [show (4 : Int).toNat = 4 from rfl, Nat.reduceMul, Nat.reduceEqDiff, Go.Addr.add, ↓reduceIte] at hx121_4); have qi121 : (4 < t114.length) = True := eq_true (by omega); (try rw [show ((4 : Int)).toNat = 4 from rfl] at hx121_0); (try rw [show 4 * 5 = 20 from rfl] at hx121_0); (try rw [show ((4 : Int)).toNat = 4 from rfl] at hx121_1); (try rw [show 4 * 5 = 20 from rfl] at hx121_1); (try rw [show ((4 : Int)).toNat = 4 from rfl] at hx121_2); (try rw [show 4 * 5 = 20 from rfl] at hx121_2); (try rw [show ((4 : Int)).toNat = 4 from rfl] at hx121_3); (try rw [show 4 * 5 = 20 from rfl] at hx121_3); (try rw [show ((4 : Int)).toNat = 4 from rfl] at hx121_4); (try rw [show 4 * 5 = 20 from rfl] at hx121_4); replace p121 := eq_true p121; replace q121 := eq_true q121; have p122 : 0 ≤ (8 : Int) := (by omega); have q122 : 8 < (t114.length : Int) := of_decide_eq_true (by first | (with_reducible assumption) | assumption); obtain ⟨ad122, e122, hx122_0, hx122_1, hx122_2, hx122_3, hx122_4⟩ := at_T29 (Kd.R_reads' HO118.out).2.2 8 p122 q122; obtain rfl : ad121 = ad122 := (by injection e122); (try simp only [show (8 : Int).toNat = 8 from rfl, Nat.reduceMul, Nat.reduceEqDiff, Go.Addr.add, ↓reduceIte] at hx122_0); (try simp only [show (8 : Int).toNat = 8 from rfl, Nat.reduceMul, Nat.reduceEqDiff, Go.Addr.add, ↓reduceIte] at hx122_1); (try simp only [show (8 : Int).toNat = 8 from rfl, Nat.reduceMul, Nat.reduceEqDiff, Go.Addr.add, ↓reduceIte] at hx122_2); (try simp only [show (8 : Int).toNat = 8 from rfl, Nat.reduceMul, Nat.reduceEqDiff, Go.Addr.add, ↓reduceIte] at hx122_3); (try simp only [show (8 : Int).toNat = 8 from rfl, Nat.reduceMul, Nat.reduceEqDiff, Go.Addr.add, ↓reduceIte] at hx122_4); have qi122 : (8 < t114.length) = True := eq_true (by omega); (try rw [show ((8 : Int)).toNat = 8 from rfl] at hx122_0); (try rw [show 8 * 5 = 40 from rfl] at hx122_0); (try rw [show ((8 : Int)).toNat = 8 from rfl] at hx122_1); (try rw [show 8 * 5 = 40 from rfl] at hx122_1); (try rw [show ((8 : Int)).toNat = 8 from rfl] at hx122_2); (try rw [show 8 * 5 = 40 from rfl] at hx122_2); (try rw [show ((8 : Int)).toNat = 8 from rfl] at hx122_3); (try rw [show 8 * 5 = 40 from rfl] at hx122_3); (try rw [show ((8 : Int)).toNat = 8 from rfl] at hx122_4); (try rw [show 8 * 5 = 40 from rfl] at hx122_4); replace p122 := eq_true p122; replace q122 := eq_true q122; have p123 : 0 ≤ (9 : Int) := (by omega); have q123 : 9 < (t114.length : Int) := of_decide_eq_true (by first | (with_reducible assumption) | assumption); obtain ⟨ad123, e123, hx123_0, hx123_1, hx123_2, hx123_3, hx123_4⟩ := at_T29 (Kd.R_reads' HO118.out).2.2 9 p123 q123; obtain rfl : ad121 = ad123 := (by injection e123); (try simp only [show (9 : Int).toNat = 9 from rfl, Nat.reduceMul, Nat.reduceEqDiff, Go.Addr.add, ↓reduceIte] at hx123_0); (try simp only [show (9 : Int).toNat = 9 from rfl, Nat.reduceMul, Nat.reduceEqDiff, Go.Addr.add, ↓reduceIte] at hx123_1); (try simp only [show (9 : Int).toNat = 9 from rfl, Nat.reduceMul, Nat.reduceEqDiff, Go.Addr.add, ↓reduceIte] at hx123_2); (try simp only [show (9 : Int).toNat = 9 from rfl, Nat.reduceMul, Nat.reduceEqDiff, Go.Addr.add, ↓reduceIte] at hx123_3); (try simp only [show (9 : Int).toNat = 9 from rfl, Nat.reduceMul, Nat.reduceEqDiff, Go.Addr.add, ↓reduceIte] at hx123_4); have qi123 : (9 < t114.length) = True := eq_true (by omega); (try rw [show ((9 : Int)).toNat = 9 from rfl] at hx123_0); (try rw [show 9 * 5 = 45 from rfl] at hx123_0); (try rw [show ((9 : Int)).toNat = 9 from rfl] at hx123_1); (try rw [show 9 * 5 = 45 from rfl] at hx123_1); (try rw [show ((9 : Int)).toNat = 9 from rfl] at hx123_2); (try rw [show 9 * 5 = 45 from rfl] at hx123_2); (try rw [show ((9 : Int)).toNat = 9 from rfl] at hx123_3); (try rw [show 9 * 5 = 45 from rfl] at hx123_3); (try rw [show ((9 : Int)).toNat = 9 from rfl] at hx123_4); (try rw [show 9 * 5 = 45 from rfl] at hx123_4); replace p123 := eq_true p123; replace q123 := eq_true q123) | (go_at_call 13; (with_reducible refine (lexer_Number.calls k 9 10 t124 _ ?side1 A12.out).mono ?_); (case side1 => exact Tabs.below HT.out (by repeat (first | (with_reducible first | exact HB.out | apply below_alloc | apply pw_below_drewN | apply below_drew1) | exact HB.out))); rintro e w24 ⟨rfl, hb⟩; have n0_ := Aside0.mk (Kd.R_below (by (with_reducible repeat (first | apply Kd.R_alloc | apply Kd.R_drewN | apply Kd.R_drew)); exact HO118.out) hb); have n1_ := Aside0.mk (below_step (by repeat (first | (with_reducible first | exact HB.out | apply below_alloc | apply pw_below_drewN | apply below_drew1) | exact HB.out)) hb); clear HO118; clear HB; have HO118 := n0_; have HB := n1_; clear n0_ n1_; (try clear hb); (try clear hb2); (try clear hk); (try clear hi)) | (go_at_call 13; (with_reducible refine (lexer_Number.calls k (-1) 3 t125 _ ?side1 A14.out).mono ?_); (case side1 => exact Tabs.below HT.out (by repeat (first | (with_reducible first | exact HB.out | apply below_alloc | apply pw_below_drewN | apply below_drew1) | exact HB.out))); rintro e w25 ⟨rfl, hb⟩; have n0_ := Aside0.mk (Kd.R_below (by (with_reducible repeat (first | apply Kd.R_alloc | apply Kd.R_drewN | apply Kd.R_drew)); exact HO118.out) hb); have n1_ := Aside0.mk (below_step (by repeat (first | (with_reducible first | exact HB.out | apply below_alloc | apply pw_below_drewN | apply below_drew1) | exact HB.out)) hb); clear HO118; clear HB; have HO118 := n0_; have HB := n1_; clear n0_ n1_; (try clear hb); (try clear hb2); (try clear hk); (try clear hi)))
                        go_ret
                        exact ⟨by first | rfl | (simp [errW_none, errW_some] <;> rfl) | (simp [*, errW_none, errW_some] <;> rfl), by repeat (first | (with_reducible first | exact HB.out | apply below_alloc | apply pw_below_drewN | apply below_drew1) | exact HB.out)⟩
                    · rw [if_neg c13] at H
                      have c13b0 : (t124.toList == ([48, 46, 57] : List UInt8)) = false := beq_eq_false_iff_ne.mpr c13
                      have c13b1 : (t124.toList != ([48, 46, 57] : List UInt8)) = true := bne_iff_ne.mpr c13
                      obtain rfl := Option.some.inj H
                      go_enter Tryz.func11, Tryz.ntmps11
                      go_wp2_with (first | ((with_reducible refine gate_callee (f := 17) rfl ?_); refine goesL_ (some 7) rfl rfl Tryz.func17 (by kernel_rfl) rfl #[.string (⟨#[114, 97, 116, 101, 40, 120, 91, 49, 104, 51, 48, 109, 93, 41, 32, 62, 32, 48, 46, 53, 32, 35, 32, 104, 97, 108, 102]⟩ : ByteArray)] rfl (by (try simp only [List.map_toArray, List.map_cons, List.map_nil]); first | done | rfl | (simp only [List.length_drop, List.length_take]; rfl)) ?_; (with_reducible refine (lexer_Tokens.calls (⟨#[114, 97, 116, 101, 40, 120, 91, 49, 104, 51, 48, 109, 93, 41, 32, 62, 32, 48, 46, 53, 32, 35, 32, 104, 97, 108, 102]⟩ : ByteArray) t114 t115 t116 _ ?side1 A1.out).mono ?_); (case side1 => exact Tabs.below HT.out (by repeat (first | (with_reducible first | exact HB.out | apply below_alloc | apply pw_below_drewN | apply below_drew1) | exact HB.out))); rintro e w26 ⟨v117, rfl, ho0, hb⟩; refine ⟨_, rfl, ?_⟩; have n0_ := Aside0.mk (Kd.R_lower ho0 (below_size (by repeat (first | (with_reducible first | exact HB.out | apply below_alloc | apply pw_below_drewN | apply below_drew1) | exact HB.out)))); have n1_ := Aside0.mk (below_step (by repeat (first | (with_reducible first | exact HB.out | apply below_alloc | apply pw_below_drewN | apply below_drew1) | exact HB.out)) hb); clear HB; have HO118 := n0_; have HB := n1_; clear n0_ n1_; (try clear hb); (try clear hb2); (try clear hk); (try clear hi); (try clear ho0)) | ((with_reducible refine gate_callee (f := 10) rfl ?_); refine goesL_ (some 12) rfl rfl Tryz.func10 (by kernel_rfl) rfl #[.int .i64 90500] rfl (by (try simp only [List.map_toArray, List.map_cons, List.map_nil]); first | done | rfl | (simp only [List.length_drop, List.length_take]; rfl)) ?_; (with_reducible refine (lexer_Duration.calls 90500 t119 t120 _ ?side1 A2.out).mono ?_); (case side1 => exact Tabs.below HT.out (by repeat (first | (with_reducible first | exact HB.out | apply below_alloc | apply pw_below_drewN | apply below_drew1) | exact HB.out))); rintro e w27 ⟨rfl, hb⟩; refine ⟨_, rfl, ?_⟩; have n0_ := Aside0.mk (Kd.R_below (by (with_reducible repeat (first | apply Kd.R_alloc | apply Kd.R_drewN | apply Kd.R_drew)); exact HO118.out) hb); have n1_ := Aside0.mk (below_step (by repeat (first | (with_reducible first | exact HB.out | apply below_alloc | apply pw_below_drewN | apply below_drew1) | exact HB.out)) hb); clear HO118; clear HB; have HO118 := n0_; have HB := n1_; clear n0_ n1_; (try clear hb); (try clear hb2); (try clear hk); (try clear hi); obtain ⟨Ao28, co28, eo28⟩ := Kd.R_slice HO118.out; subst eo28; have p121 : 0 ≤ (4 : Int) := (by omega); have q121 : 4 < (t114.length : Int) := of_decide_eq_true (by first | (with_reducible assumption) | assumption); obtain ⟨ad121, e121, hx121_0, hx121_1, hx121_2, hx121_3, hx121_4⟩ := at_T29 (Kd.R_reads' HO118.out).2.2 4 p121 q121; cases e121; (try simp only [show (4 : Int).toNat = 4 from rfl, Nat.reduceMul, Nat.reduceEqDiff, Go.Addr.add, ↓reduceIte] at hx121_0); (try simp only [show (4 : Int).toNat = 4 from rfl, Nat.reduceMul, Nat.reduceEqDiff, Go.Addr.add, ↓reduceIte] at hx121_1); (try simp only [show (4 : Int).toNat = 4 from rfl, Nat.reduceMul, Nat.reduceEqDiff, Go.Addr.add, ↓reduceIte] at hx121_2); (try simp only [show (4 : Int).toNat = 4 from rfl, Nat.reduceMul, Nat.reduceEqDiff, Go.Addr.add, ↓reduceIte] at hx121_3); (try simp only [show (4 : Int).toNat = 4 from rfl, Nat.reduceMul, Nat.reduceEqDiff, Go.Addr.add, ↓reduceIte] at hx121_4); have qi121 : (4 < t114.length) = True := eq_true (by omega); (try rw [show ((4 : Int)).toNat = 4 from rfl] at hx121_0); (try rw [show 4 * 5 = 20 from rfl] at hx121_0); (try rw [show ((4 : Int)).toNat = 4 from rfl] at hx121_1); (try rw [show 4 * 5 = 20 from rfl] at hx121_1); (try rw [show ((4 : Int)).toNat = 4 from rfl] at hx121_2); (try rw [show 4 * 5 = 20 from rfl] at hx121_2); (try rw [show ((4 : Int)).toNat = 4 from rfl] at hx121_3); (try rw [show 4 * 5 = 20 from rfl] at hx121_3); (try rw [show ((4 : Int)).toNat = 4 from rfl] at hx121_4); (try rw [show 4 * 5 = 20 from rfl] at hx121_4); replace p121 := eq_true p121; replace q121 := eq_true q121; have p122 : 0 ≤ (8 : Int) := (by omega); have q122 : 8 < (t114.length : Int) := of_decide_eq_true (by first | (with_reducible assumption) | assumption); obtain ⟨ad122, e122, hx122_0, hx122_1, hx122_2, hx122_3, hx122_4⟩ := at_T29 (Kd.R_reads' HO118.out).2.2 8 p122 q122; obtain rfl : ad121 = ad122 := (by injection e122); (try simp only [show (8 : Int).toNat = 8 from rfl, Nat.reduceMul, Nat.reduceEqDiff, Go.Addr.add, ↓reduceIte] at hx122_0); (try simp only [show (8 : Int).toNat = 8 from rfl, Nat.reduceMul, Nat.reduceEqDiff, Go.Addr.add, ↓reduceIte] at hx122_1); (try simp only [show (8 : Int).toNat = 8 from rfl, Nat.reduceMul, Nat.reduceEqDiff, Go.Addr.add, ↓reduceIte] at hx122_2); (try simp only [show (8 : Int).toNat = 8 from rfl, Nat.reduceMul, Nat.reduceEqDiff, Go.Addr.add, ↓reduceIte] at hx122_3); (try simp only [show (8 : Int).toNat = 8 from rfl, Nat.reduceMul, Nat.reduceEqDiff, Go.Addr.add, ↓reduceIte] at hx122_4); have qi122 : (8 < t114.length) = True := eq_true (by omega); (try rw [show ((8 : Int)).toNat = 8 from rfl] at hx122_0); (try rw [show 8 * 5 = 40 from rfl] at hx122_0); (try rw [show ((8 : Int)).toNat = 8 from rfl] at hx122_1); (try rw [show 8 * 5 = 40 from rfl] at hx122_1); (try rw [show ((8 : Int)).toNat = 8 from rfl] at hx122_2); (try rw [show 8 * 5 = 40 from rfl] at hx122_2); (try rw [show ((8 : Int)).toNat = 8 from rfl] at hx122_3); (try rw [show 8 * 5 = 40 from rfl] at hx122_3); (try rw [show ((8 : Int)).toNat = 8 from rfl] at hx122_4); (try rw [show 8 * 5 = 40 from rfl] at hx122_4); replace p122 := eq_true p122; replace q122 := eq_true q122; have p123 : 0 ≤ (9 : Int) := (by omega); have q123 : 9 < (t114.length : Int) := of_decide_eq_true (by first | (with_reducible assumption) | assumption); obtain ⟨ad123, e123, hx123_0, hx123_1, hx123_2, hx123_3, hx123_4⟩ := at_T29 (Kd.R_reads' HO118.out).2.2 9 p123 q123; obtain rfl : ad121 = ad123 := (by injection e123); (try simp only [show (9 : Int).toNat = 9 from rfl, Nat.reduceMul, Nat.reduceEqDiff, Go.Addr.add, ↓reduceIte] at hx123_0); (try simp only [show (9 : Int).toNat = 9 from rfl, Nat.reduceMul, Nat.reduceEqDiff, Go.Addr.add, ↓reduceIte] at hx123_1); (try simp only [show (9 : Int).toNat = 9 from rfl, Nat.reduceMul, Nat.reduceEqDiff, Go.Addr.add, ↓reduceIte] at hx123_2); (try simp only [show (9 : Int).toNat = 9 from rfl, Nat.reduceMul, Nat.reduceEqDiff, Go.Addr.add, ↓reduceIte] at hx123_3); (try simp only [show (9 : Int).toNat = 9 from rfl, Nat.reduceMul, Nat.reduceEqDiff, Go.Addr.add, ↓reduceIte] at hx123_4); have qi123 : (9 < t114.length) = True := eq_true (by omega); (try rw [show ((9 : Int)).toNat = 9 from rfl] at hx123_0); (try rw [show 9 * 5 = 45 from rfl] at hx123_0); (try rw [show ((9 : Int)).toNat = 9 from rfl] at hx123_1); (try rw [show 9 * 5 = 45 from rfl] at hx123_1); (try rw [show ((9 : Int)).toNat = 9 from rfl] at hx123_2); (try rw [show 9 * 5 = 45 from rfl] at hx123_2); (try rw [show ((9 : Int)).toNat = 9 from rfl] at hx123_3); (try rw [show 9 * 5 = 45 from rfl] at hx123_3); (try rw [show ((9 : Int)).toNat = 9 from rfl] at hx123_4); (try rw [show 9 * 5 = 45 from rfl] at hx123_4); replace p123 := eq_true p123; replace q123 := eq_true q123) | (go_at_call 13; (with_reducible refine (lexer_Number.calls k 9 10 t124 _ ?side1 A12.out).mono ?_); (case side1 => exact Tabs.below HT.out (by repeat (first | (with_reducible first | exact HB.out | apply below_alloc | apply pw_below_drewN | apply below_drew1) | exact HB.out))); rintro e w29 ⟨rfl, hb⟩; have n0_ := Aside0.mk (Kd.R_below (by (with_reducible repeat (first | apply Kd.R_alloc | apply Kd.R_drewN | apply Kd.R_drew)); exact HO118.out) hb); have n1_ := Aside0.mk (below_step (by repeat (first | (with_reducible first | exact HB.out | apply below_alloc | apply pw_below_drewN | apply below_drew1) | exact HB.out)) hb); clear HO118; clear HB; have HO118 := n0_; have HB := n1_; clear n0_ n1_; (try clear hb); (try clear hb2); (try clear hk); (try clear hi)))
                      go_ret
                      exact ⟨by first | rfl | (simp [errW_none, errW_some] <;> rfl) | (simp [*, errW_none, errW_some] <;> rfl), by repeat (first | (with_reducible first | exact HB.out | apply below_alloc | apply pw_below_drewN | apply below_drew1) | exact HB.out)⟩
                  · rw [if_neg c11] at H
                    have c11b0 : (((rd_T29 t114 9).f0) == 0 && ((((rd_T29 t114 9).f1).toList) == ([] : List UInt8) && ((((rd_T29 t114 9).f2.f0) == 0 && (((rd_T29 t114 9).f2.f1) == 0)) && (((rd_T29 t114 9).f3) == 27)))) = false := by simpa using c11
                    (try (have c11b1 : decide (((rd_T29 t114 9).f0) = 0 && ((((rd_T29 t114 9).f1).toList) == ([] : List UInt8) && ((((rd_T29 t114 9).f2.f0) == 0 && (((rd_T29 t114 9).f2.f1) == 0)) && (((rd_T29 t114 9).f3) == 27)))) = false := by simpa using c11))
                    (try (have c11b2 : (((rd_T29 t114 9).f0) == 0 && ((((rd_T29 t114 9).f1).toList) == ([] : List UInt8) && ((((rd_T29 t114 9).f2.f0) == 0 && (((rd_T29 t114 9).f2.f1) == 0)) && (((rd_T29 t114 9).f3) == 27)))) = false := by simpa using c11))
                    (try (have c11b3 : ¬ (((rd_T29 t114 9).f0) = 0 && ((((rd_T29 t114 9).f1).toList) == ([] : List UInt8) && ((((rd_T29 t114 9).f2.f0) == 0 && (((rd_T29 t114 9).f2.f1) == 0)) && (((rd_T29 t114 9).f3) == 27)))) := by simpa using c11))
                    have c11b9 := (Bool.eq_false_iff.1 c11b0); simp only [ne_eq, Bool.and_eq_true, beq_iff_eq] at c11b9
                    clear c11
                    obtain rfl := Option.some.inj H
                    go_enter Tryz.func11, Tryz.ntmps11
                    go_wp2_with (first | ((with_reducible refine gate_callee (f := 17) rfl ?_); refine goesL_ (some 7) rfl rfl Tryz.func17 (by kernel_rfl) rfl #[.string (⟨#[114, 97, 116, 101, 40, 120, 91, 49, 104, 51, 48, 109, 93, 41, 32, 62, 32, 48, 46, 53, 32, 35, 32, 104, 97, 108, 102]⟩ : ByteArray)] rfl (by (try simp only [List.map_toArray, List.map_cons, List.map_nil]); first | done | rfl | (simp only [List.length_drop, List.length_take]; rfl)) ?_; (with_reducible refine (lexer_Tokens.calls (⟨#[114, 97, 116, 101, 40, 120, 91, 49, 104, 51, 48, 109, 93, 41, 32, 62, 32, 48, 46, 53, 32, 35, 32, 104, 97, 108, 102]⟩ : ByteArray) t114 t115 t116 _ ?side1 A1.out).mono ?_); (case side1 => exact Tabs.below HT.out (by repeat (first | (with_reducible first | exact HB.out | apply below_alloc | apply pw_below_drewN | apply below_drew1) | exact HB.out))); rintro e w30 ⟨v117, rfl, ho0, hb⟩; refine ⟨_, rfl, ?_⟩; have n0_ := Aside0.mk (Kd.R_lower ho0 (below_size (by repeat (first | (with_reducible first | exact HB.out | apply below_alloc | apply pw_below_drewN | apply below_drew1) | exact HB.out)))); have n1_ := Aside0.mk (below_step (by repeat (first | (with_reducible first | exact HB.out | apply below_alloc | apply pw_below_drewN | apply below_drew1) | exact HB.out)) hb); clear HB; have HO118 := n0_; have HB := n1_; clear n0_ n1_; (try clear hb); (try clear hb2); (try clear hk); (try clear hi); (try clear ho0)) | ((with_reducible refine gate_callee (f := 10) rfl ?_); refine goesL_ (some 12) rfl rfl Tryz.func10 (by kernel_rfl) rfl #[.int .i64 90500] rfl (by (try simp only [List.map_toArray, List.map_cons, List.map_nil]); first | done | rfl | (simp only [List.length_drop, List.length_take]; rfl)) ?_; (with_reducible refine (lexer_Duration.calls 90500 t119 t120 _ ?side1 A2.out).mono ?_); (case side1 => exact Tabs.below HT.out (by repeat (first | (with_reducible first | exact HB.out | apply below_alloc | apply pw_below_drewN | apply below_drew1) | exact HB.out))); rintro e w31 ⟨rfl, hb⟩; refine ⟨_, rfl, ?_⟩; have n0_ := Aside0.mk (Kd.R_below (by (with_reducible repeat (first | apply Kd.R_alloc | apply Kd.R_drewN | apply Kd.R_drew)); exact HO118.out) hb); have n1_ := Aside0.mk (below_step (by repeat (first | (with_reducible first | exact HB.out | apply below_alloc | apply pw_below_drewN | apply below_drew1) | exact HB.out)) hb); clear HO118; clear HB; have HO118 := n0_; have HB := n1_; clear n0_ n1_; (try clear hb); (try clear hb2); (try clear hk); (try clear hi); obtain ⟨Ao32, co32, eo32⟩ := Kd.R_slice HO118.out; subst eo32; have p121 : 0 ≤ (4 : Int) := (by omega); have q121 : 4 < (t114.length : Int) := of_decide_eq_true (by first | (with_reducible assumption) | assumption); obtain ⟨ad121, e121, hx121_0, hx121_1, hx121_2, hx121_3, hx121_4⟩ := at_T29 (Kd.R_reads' HO118.out).2.2 4 p121 q121; cases e121; (try simp only [show (4 : Int).toNat = 4 from rfl, Nat.reduceMul, Nat.reduceEqDiff, Go.Addr.add, ↓reduceIte] at hx121_0); (try simp only [show (4 : Int).toNat = 4 from rfl, Nat.reduceMul, Nat.reduceEqDiff, Go.Addr.add, ↓reduceIte] at hx121_1); (try simp only [show (4 : Int).toNat = 4 from rfl, Nat.reduceMul, Nat.reduceEqDiff, Go.Addr.add, ↓reduceIte] at hx121_2); (try simp only [show (4 : Int).toNat = 4 from rfl, Nat.reduceMul, Nat.reduceEqDiff, Go.Addr.add, ↓reduceIte] at hx121_3); (try simp only [show (4 : Int).toNat = 4 from rfl, Nat.reduceMul, Nat.reduceEqDiff, Go.Addr.add, ↓reduceIte] at hx121_4); have qi121 : (4 < t114.length) = True := eq_true (by omega); (try rw [show ((4 : Int)).toNat = 4 from rfl] at hx121_0); (try rw [show 4 * 5 = 20 from rfl] at hx121_0); (try rw [show ((4 : Int)).toNat = 4 from rfl] at hx121_1); (try rw [show 4 * 5 = 20 from rfl] at hx121_1); (try rw [show ((4 : Int)).toNat = 4 from rfl] at hx121_2); (try rw [show 4 * 5 = 20 from rfl] at hx121_2); (try rw [show ((4 : Int)).toNat = 4 from rfl] at hx121_3); (try rw [show 4 * 5 = 20 from rfl] at hx121_3); (try rw [show ((4 : Int)).toNat = 4 from rfl] at hx121_4); (try rw [show 4 * 5 = 20 from rfl] at hx121_4); replace p121 := eq_true p121; replace q121 := eq_true q121; have p122 : 0 ≤ (8 : Int) := (by omega); have q122 : 8 < (t114.length : Int) := of_decide_eq_true (by first | (with_reducible assumption) | assumption); obtain ⟨ad122, e122, hx122_0, hx122_1, hx122_2, hx122_3, hx122_4⟩ := at_T29 (Kd.R_reads' HO118.out).2.2 8 p122 q122; obtain rfl : ad121 = ad122 := (by injection e122); (try simp only [show (8 : Int).toNat = 8 from rfl, Nat.reduceMul, Nat.reduceEqDiff, Go.Addr.add, ↓reduceIte] at hx122_0); (try simp only [show (8 : Int).toNat = 8 from rfl, Nat.reduceMul, Nat.reduceEqDiff, Go.Addr.add, ↓reduceIte] at hx122_1); (try simp only [show (8 : Int).toNat = 8 from rfl, Nat.reduceMul, Nat.reduceEqDiff, Go.Addr.add, ↓reduceIte] at hx122_2); (try simp only [show (8 : Int).toNat = 8 from rfl, Nat.reduceMul, Nat.reduceEqDiff, Go.Addr.add, ↓reduceIte] at hx122_3); (try simp only [show (8 : Int).toNat = 8 from rfl, Nat.reduceMul, Nat.reduceEqDiff, Go.Addr.add, ↓reduceIte] at hx122_4); have qi122 : (8 < t114.length) = True := eq_true (by omega); (try rw [show ((8 : Int)).toNat = 8 from rfl] at hx122_0); (try rw [show 8 * 5 = 40 from rfl] at hx122_0); (try rw [show ((8 : Int)).toNat = 8 from rfl] at hx122_1); (try rw [show 8 * 5 = 40 from rfl] at hx122_1); (try rw [show ((8 : Int)).toNat = 8 from rfl] at hx122_2); (try rw [show 8 * 5 = 40 from rfl] at hx122_2); (try rw [show ((8 : Int)).toNat = 8 from rfl] at hx122_3); (try rw [show 8 * 5 = 40 from rfl] at hx122_3); (try rw [show ((8 : Int)).toNat = 8 from rfl] at hx122_4); (try rw [show 8 * 5 = 40 from rfl] at hx122_4); replace p122 := eq_true p122; replace q122 := eq_true q122; have p123 : 0 ≤ (9 : Int) := (by omega); have q123 : 9 < (t114.length : Int) := of_decide_eq_true (by first | (with_reducible assumption) | assumption); obtain ⟨ad123, e123, hx123_0, hx123_1, hx123_2, hx123_3, hx123_4⟩ := at_T29 (Kd.R_reads' HO118.out).2.2 9 p123 q123; obtain rfl : ad121 = ad123 := (by injection e123); (try simp only [show (9 : Int).toNat = 9 from rfl, Nat.reduceMul, Nat.reduceEqDiff, Go.Addr.add, ↓reduceIte] at hx123_0); (try simp only [show (9 : Int).toNat = 9 from rfl, Nat.reduceMul, Nat.reduceEqDiff, Go.Addr.add, ↓reduceIte] at hx123_1); (try simp only [show (9 : Int).toNat = 9 from rfl, Nat.reduceMul, Nat.reduceEqDiff, Go.Addr.add, ↓reduceIte] at hx123_2); (try simp only [show (9 : Int).toNat = 9 from rfl, Nat.reduceMul, Nat.reduceEqDiff, Go.Addr.add, ↓reduceIte] at hx123_3); (try simp only [show (9 : Int).toNat = 9 from rfl, Nat.reduceMul, Nat.reduceEqDiff, Go.Addr.add, ↓reduceIte] at hx123_4); have qi123 : (9 < t114.length) = True := eq_true (by omega); (try rw [show ((9 : Int)).toNat = 9 from rfl] at hx123_0); (try rw [show 9 * 5 = 45 from rfl] at hx123_0); (try rw [show ((9 : Int)).toNat = 9 from rfl] at hx123_1); (try rw [show 9 * 5 = 45 from rfl] at hx123_1); (try rw [show ((9 : Int)).toNat = 9 from rfl] at hx123_2); (try rw [show 9 * 5 = 45 from rfl] at hx123_2); (try rw [show ((9 : Int)).toNat = 9 from rfl] at hx123_3); (try rw [show 9 * 5 = 45 from rfl] at hx123_3); (try rw [show ((9 : Int)).toNat = 9 from rfl] at hx123_4); (try rw [show 9 * 5 = 45 from rfl] at hx123_4); replace p123 := eq_true p123; replace q123 := eq_true q123))
                    go_ret
                    exact ⟨by first | rfl | (simp [errW_none, errW_some] <;> rfl) | (simp [*, errW_none, errW_some] <;> rfl), by repeat (first | (with_reducible first | exact HB.out | apply below_alloc | apply pw_below_drewN | apply below_drew1) | exact HB.out)⟩
                · rw [if_neg c10] at H
                  exact absurd H (by simp)
              · rw [if_neg c9] at H
                have c9b0 : (((rd_T29 t114 8).f0) == 2 && ((((rd_T29 t114 8).f1).toList) == ([48, 46, 53] : List UInt8) && ((((rd_T29 t114 8).f2.f0) == 1 && (((rd_T29 t114 8).f2.f1) == 2)) && (((rd_T29 t114 8).f3) == 17)))) = false := by simpa using c9
                (try (have c9b1 : decide (((rd_T29 t114 8).f0) = 2 && ((((rd_T29 t114 8).f1).toList) == ([48, 46, 53] : List UInt8) && ((((rd_T29 t114 8).f2.f0) == 1 && (((rd_T29 t114 8).f2.f1) == 2)) && (((rd_T29 t114 8).f3) == 17)))) = false := by simpa using c9))
                (try (have c9b2 : (((rd_T29 t114 8).f0) == 2 && ((((rd_T29 t114 8).f1).toList) == ([48, 46, 53] : List UInt8) && ((((rd_T29 t114 8).f2.f0) == 1 && (((rd_T29 t114 8).f2.f1) == 2)) && (((rd_T29 t114 8).f3) == 17)))) = false := by simpa using c9))
                (try (have c9b3 : ¬ (((rd_T29 t114 8).f0) = 2 && ((((rd_T29 t114 8).f1).toList) == ([48, 46, 53] : List UInt8) && ((((rd_T29 t114 8).f2.f0) == 1 && (((rd_T29 t114 8).f2.f1) == 2)) && (((rd_T29 t114 8).f3) == 17)))) := by simpa using c9))
                clear c9
                obtain rfl := Option.some.inj H
                go_enter Tryz.func11, Tryz.ntmps11
                go_wp2_with (first | ((with_reducible refine gate_callee (f := 17) rfl ?_); refine goesL_ (some 7) rfl rfl Tryz.func17 (by kernel_rfl) rfl #[.string (⟨#[114, 97, 116, 101, 40, 120, 91, 49, 104, 51, 48, 109, 93, 41, 32, 62, 32, 48, 46, 53, 32, 35, 32, 104, 97, 108, 102]⟩ : ByteArray)] rfl (by (try simp only [List.map_toArray, List.map_cons, List.map_nil]); first | done | rfl | (simp only [List.length_drop, List.length_take]; rfl)) ?_; (with_reducible refine (lexer_Tokens.calls (⟨#[114, 97, 116, 101, 40, 120, 91, 49, 104, 51, 48, 109, 93, 41, 32, 62, 32, 48, 46, 53, 32, 35, 32, 104, 97, 108, 102]⟩ : ByteArray) t114 t115 t116 _ ?side1 A1.out).mono ?_); (case side1 => exact Tabs.below HT.out (by repeat (first | (with_reducible first | exact HB.out | apply below_alloc | apply pw_below_drewN | apply below_drew1) | exact HB.out))); rintro e w33 ⟨v117, rfl, ho0, hb⟩; refine ⟨_, rfl, ?_⟩; have n0_ := Aside0.mk (Kd.R_lower ho0 (below_size (by repeat (first | (with_reducible first | exact HB.out | apply below_alloc | apply pw_below_drewN | apply below_drew1) | exact HB.out)))); have n1_ := Aside0.mk (below_step (by repeat (first | (with_reducible first | exact HB.out | apply below_alloc | apply pw_below_drewN | apply below_drew1) | exact HB.out)) hb); clear HB; have HO118 := n0_; have HB := n1_; clear n0_ n1_; (try clear hb); (try clear hb2); (try clear hk); (try clear hi); (try clear ho0)) | ((with_reducible refine gate_callee (f := 10) rfl ?_); refine goesL_ (some 12) rfl rfl Tryz.func10 (by kernel_rfl) rfl #[.int .i64 90500] rfl (by (try simp only [List.map_toArray, List.map_cons, List.map_nil]); first | done | rfl | (simp only [List.length_drop, List.length_take]; rfl)) ?_; (with_reducible refine (lexer_Duration.calls 90500 t119 t120 _ ?side1 A2.out).mono ?_); (case side1 => exact Tabs.below HT.out (by repeat (first | (with_reducible first | exact HB.out | apply below_alloc | apply pw_below_drewN | apply below_drew1) | exact HB.out))); rintro e w34 ⟨rfl, hb⟩; refine ⟨_, rfl, ?_⟩; have n0_ := Aside0.mk (Kd.R_below (by (with_reducible repeat (first | apply Kd.R_alloc | apply Kd.R_drewN | apply Kd.R_drew)); exact HO118.out) hb); have n1_ := Aside0.mk (below_step (by repeat (first | (with_reducible first | exact HB.out | apply below_alloc | apply pw_below_drewN | apply below_drew1) | exact HB.out)) hb); clear HO118; clear HB; have HO118 := n0_; have HB := n1_; clear n0_ n1_; (try clear hb); (try clear hb2); (try clear hk); (try clear hi); obtain ⟨Ao35, co35, eo35⟩ := Kd.R_slice HO118.out; subst eo35; have p121 : 0 ≤ (4 : Int) := (by omega); have q121 : 4 < (t114.length : Int) := of_decide_eq_true (by first | (with_reducible assumption) | assumption); obtain ⟨ad121, e121, hx121_0, hx121_1, hx121_2, hx121_3, hx121_4⟩ := at_T29 (Kd.R_reads' HO118.out).2.2 4 p121 q121; cases e121; (try simp only [show (4 : Int).toNat = 4 from rfl, Nat.reduceMul, Nat.reduceEqDiff, Go.Addr.add, ↓reduceIte] at hx121_0); (try simp only [show (4 : Int).toNat = 4 from rfl, Nat.reduceMul, Nat.reduceEqDiff, Go.Addr.add, ↓reduceIte] at hx121_1); (try simp only [show (4 : Int).toNat = 4 from rfl, Nat.reduceMul, Nat.reduceEqDiff, Go.Addr.add, ↓reduceIte] at hx121_2); (try simp only [show (4 : Int).toNat = 4 from rfl, Nat.reduceMul, Nat.reduceEqDiff, Go.Addr.add, ↓reduceIte] at hx121_3); (try simp only [show (4 : Int).toNat = 4 from rfl, Nat.reduceMul, Nat.reduceEqDiff, Go.Addr.add, ↓reduceIte] at hx121_4); have qi121 : (4 < t114.length) = True := eq_true (by omega); (try rw [show ((4 : Int)).toNat = 4 from rfl] at hx121_0); (try rw [show 4 * 5 = 20 from rfl] at hx121_0); (try rw [show ((4 : Int)).toNat = 4 from rfl] at hx121_1); (try rw [show 4 * 5 = 20 from rfl] at hx121_1); (try rw [show ((4 : Int)).toNat = 4 from rfl] at hx121_2); (try rw [show 4 * 5 = 20 from rfl] at hx121_2); (try rw [show ((4 : Int)).toNat = 4 from rfl] at hx121_3); (try rw [show 4 * 5 = 20 from rfl] at hx121_3); (try rw [show ((4 : Int)).toNat = 4 from rfl] at hx121_4); (try rw [show 4 * 5 = 20 from rfl] at hx121_4); replace p121 := eq_true p121; replace q121 := eq_true q121; have p122 : 0 ≤ (8 : Int) := (by omega); have q122 : 8 < (t114.length : Int) := of_decide_eq_true (by first | (with_reducible assumption) | assumption); obtain ⟨ad122, e122, hx122_0, hx122_1, hx122_2, hx122_3, hx122_4⟩ := at_T29 (Kd.R_reads' HO118.out).2.2 8 p122 q122; obtain rfl : ad121 = ad122 := (by injection e122); (try simp only [show (8 : Int).toNat = 8 from rfl, Nat.reduceMul, Nat.reduceEqDiff, Go.Addr.add, ↓reduceIte] at hx122_0); (try simp only [show (8 : Int).toNat = 8 from rfl, Nat.reduceMul, Nat.reduceEqDiff, Go.Addr.add, ↓reduceIte] at hx122_1); (try simp only [show (8 : Int).toNat = 8 from rfl, Nat.reduceMul, Nat.reduceEqDiff, Go.Addr.add, ↓reduceIte] at hx122_2); (try simp only [show (8 : Int).toNat = 8 from rfl, Nat.reduceMul, Nat.reduceEqDiff, Go.Addr.add, ↓reduceIte] at hx122_3); (try simp only [show (8 : Int).toNat = 8 from rfl, Nat.reduceMul, Nat.reduceEqDiff, Go.Addr.add, ↓reduceIte] at hx122_4); have qi122 : (8 < t114.length) = True := eq_true (by omega); (try rw [show ((8 : Int)).toNat = 8 from rfl] at hx122_0); (try rw [show 8 * 5 = 40 from rfl] at hx122_0); (try rw [show ((8 : Int)).toNat = 8 from rfl] at hx122_1); (try rw [show 8 * 5 = 40 from rfl] at hx122_1); (try rw [show ((8 : Int)).toNat = 8 from rfl] at hx122_2); (try rw [show 8 * 5 = 40 from rfl] at hx122_2); (try rw [show ((8 : Int)).toNat = 8 from rfl] at hx122_3); (try rw [show 8 * 5 = 40 from rfl] at hx122_3); (try rw [show ((8 : Int)).toNat = 8 from rfl] at hx122_4); (try rw [show 8 * 5 = 40 from rfl] at hx122_4); replace p122 := eq_true p122; replace q122 := eq_true q122))
                go_ret
                exact ⟨by first | rfl | (simp [errW_none, errW_some] <;> rfl) | (simp [*, errW_none, errW_some] <;> rfl), by repeat (first | (with_reducible first | exact HB.out | apply below_alloc | apply pw_below_drewN | apply below_drew1) | exact HB.out)⟩
            · rw [if_neg c8] at H
              exact absurd H (by simp)
          · rw [if_neg c7] at H
            have c7b0 : (((rd_T29 t114 4).f0) == 3 && ((((rd_T29 t114 4).f1).toList) == ([49, 104, 51, 48, 109] : List UInt8) && ((((rd_T29 t114 4).f2.f0) == 5400000 && (((rd_T29 t114 4).f2.f1) == 1)) && (((rd_T29 t114 4).f3) == 7)))) = false := by simpa using c7
            (try (have c7b1 : decide (((rd_T29 t114 4).f0) = 3 && ((((rd_T29 t114 4).f1).toList) == ([49, 104, 51, 48, 109] : List UInt8) && ((((rd_T29 t114 4).f2.f0) == 5400000 && (((rd_T29 t114 4).f2.f1) == 1)) && (((rd_T29 t114 4).f3) == 7)))) = false := by simpa using c7))
            (try (have c7b2 : (((rd_T29 t114 4).f0) == 3 && ((((rd_T29 t114 4).f1).toList) == ([49, 104, 51, 48, 109] : List UInt8) && ((((rd_T29 t114 4).f2.f0) == 5400000 && (((rd_T29 t114 4).f2.f1) == 1)) && (((rd_T29 t114 4).f3) == 7)))) = false := by simpa using c7))
            (try (have c7b3 : ¬ (((rd_T29 t114 4).f0) = 3 && ((((rd_T29 t114 4).f1).toList) == ([49, 104, 51, 48, 109] : List UInt8) && ((((rd_T29 t114 4).f2.f0) == 5400000 && (((rd_T29 t114 4).f2.f1) == 1)) && (((rd_T29 t114 4).f3) == 7)))) := by simpa using c7))
            clear c7
            obtain rfl := Option.some.inj H
            go_enter Tryz.func11, Tryz.ntmps11
            go_wp2_with (first | ((with_reducible refine gate_callee (f := 17) rfl ?_); refine goesL_ (some 7) rfl rfl Tryz.func17 (by kernel_rfl) rfl #[.string (⟨#[114, 97, 116, 101, 40, 120, 91, 49, 104, 51, 48, 109, 93, 41, 32, 62, 32, 48, 46, 53, 32, 35, 32, 104, 97, 108, 102]⟩ : ByteArray)] rfl (by (try simp only [List.map_toArray, List.map_cons, List.map_nil]); first | done | rfl | (simp only [List.length_drop, List.length_take]; rfl)) ?_; (with_reducible refine (lexer_Tokens.calls (⟨#[114, 97, 116, 101, 40, 120, 91, 49, 104, 51, 48, 109, 93, 41, 32, 62, 32, 48, 46, 53, 32, 35, 32, 104, 97, 108, 102]⟩ : ByteArray) t114 t115 t116 _ ?side1 A1.out).mono ?_); (case side1 => exact Tabs.below HT.out (by repeat (first | (with_reducible first | exact HB.out | apply below_alloc | apply pw_below_drewN | apply below_drew1) | exact HB.out))); rintro e w36 ⟨v117, rfl, ho0, hb⟩; refine ⟨_, rfl, ?_⟩; have n0_ := Aside0.mk (Kd.R_lower ho0 (below_size (by repeat (first | (with_reducible first | exact HB.out | apply below_alloc | apply pw_below_drewN | apply below_drew1) | exact HB.out)))); have n1_ := Aside0.mk (below_step (by repeat (first | (with_reducible first | exact HB.out | apply below_alloc | apply pw_below_drewN | apply below_drew1) | exact HB.out)) hb); clear HB; have HO118 := n0_; have HB := n1_; clear n0_ n1_; (try clear hb); (try clear hb2); (try clear hk); (try clear hi); (try clear ho0)) | ((with_reducible refine gate_callee (f := 10) rfl ?_); refine goesL_ (some 12) rfl rfl Tryz.func10 (by kernel_rfl) rfl #[.int .i64 90500] rfl (by (try simp only [List.map_toArray, List.map_cons, List.map_nil]); first | done | rfl | (simp only [List.length_drop, List.length_take]; rfl)) ?_; (with_reducible refine (lexer_Duration.calls 90500 t119 t120 _ ?side1 A2.out).mono ?_); (case side1 => exact Tabs.below HT.out (by repeat (first | (with_reducible first | exact HB.out | apply below_alloc | apply pw_below_drewN | apply below_drew1) | exact HB.out))); rintro e w37 ⟨rfl, hb⟩; refine ⟨_, rfl, ?_⟩; have n0_ := Aside0.mk (Kd.R_below (by (with_reducible repeat (first | apply Kd.R_alloc | apply Kd.R_drewN | apply Kd.R_drew)); exact HO118.out) hb); have n1_ := Aside0.mk (below_step (by repeat (first | (with_reducible first | exact HB.out | apply below_alloc | apply pw_below_drewN | apply below_drew1) | exact HB.out)) hb); clear HO118; clear HB; have HO118 := n0_; have HB := n1_; clear n0_ n1_; (try clear hb); (try clear hb2); (try clear hk); (try clear hi); obtain ⟨Ao38, co38, eo38⟩ := Kd.R_slice HO118.out; subst eo38; have p121 : 0 ≤ (4 : Int) := (by omega); have q121 : 4 < (t114.length : Int) := of_decide_eq_true (by first | (with_reducible assumption) | assumption); obtain ⟨ad121, e121, hx121_0, hx121_1, hx121_2, hx121_3, hx121_4⟩ := at_T29 (Kd.R_reads' HO118.out).2.2 4 p121 q121; cases e121; (try simp only [show (4 : Int).toNat = 4 from rfl, Nat.reduceMul, Nat.reduceEqDiff, Go.Addr.add, ↓reduceIte] at hx121_0); (try simp only [show (4 : Int).toNat = 4 from rfl, Nat.reduceMul, Nat.reduceEqDiff, Go.Addr.add, ↓reduceIte] at hx121_1); (try simp only [show (4 : Int).toNat = 4 from rfl, Nat.reduceMul, Nat.reduceEqDiff, Go.Addr.add, ↓reduceIte] at hx121_2); (try simp only [show (4 : Int).toNat = 4 from rfl, Nat.reduceMul, Nat.reduceEqDiff, Go.Addr.add, ↓reduceIte] at hx121_3); (try simp only [show (4 : Int).toNat = 4 from rfl, Nat.reduceMul, Nat.reduceEqDiff, Go.Addr.add, ↓reduceIte] at hx121_4); have qi121 : (4 < t114.length) = True := eq_true (by omega); (try rw [show ((4 : Int)).toNat = 4 from rfl] at hx121_0); (try rw [show 4 * 5 = 20 from rfl] at hx121_0); (try rw [show ((4 : Int)).toNat = 4 from rfl] at hx121_1); (try rw [show 4 * 5 = 20 from rfl] at hx121_1); (try rw [show ((4 : Int)).toNat = 4 from rfl] at hx121_2); (try rw [show 4 * 5 = 20 from rfl] at hx121_2); (try rw [show ((4 : Int)).toNat = 4 from rfl] at hx121_3); (try rw [show 4 * 5 = 20 from rfl] at hx121_3); (try rw [show ((4 : Int)).toNat = 4 from rfl] at hx121_4); (try rw [show 4 * 5 = 20 from rfl] at hx121_4); replace p121 := eq_true p121; replace q121 := eq_true q121))
            go_ret
            exact ⟨by first | rfl | (simp [errW_none, errW_some] <;> rfl) | (simp [*, errW_none, errW_some] <;> rfl), by repeat (first | (with_reducible first | exact HB.out | apply below_alloc | apply pw_below_drewN | apply below_drew1) | exact HB.out)⟩
        · rw [if_neg c6] at H
          exact absurd H (by simp)
      · rw [if_neg c5] at H
        have c5b0 : ((t114.length : Int) == 10) = false := beq_eq_false_iff_ne.mpr c5
        have c5b1 : ((t114.length : Int) != 10) = true := bne_iff_ne.mpr c5
        obtain rfl := Option.some.inj H
        go_enter Tryz.func11, Tryz.ntmps11
        go_wp2_with (first | ((with_reducible refine gate_callee (f := 17) rfl ?_); refine goesL_ (some 7) rfl rfl Tryz.func17 (by kernel_rfl) rfl #[.string (⟨#[114, 97, 116, 101, 40, 120, 91, 49, 104, 51, 48, 109, 93, 41, 32, 62, 32, 48, 46, 53, 32, 35, 32, 104, 97, 108, 102]⟩ : ByteArray)] rfl (by (try simp only [List.map_toArray, List.map_cons, List.map_nil]); first | done | rfl | (simp only [List.length_drop, List.length_take]; rfl)) ?_; (with_reducible refine (lexer_Tokens.calls (⟨#[114, 97, 116, 101, 40, 120, 91, 49, 104, 51, 48, 109, 93, 41, 32, 62, 32, 48, 46, 53, 32, 35, 32, 104, 97, 108, 102]⟩ : ByteArray) t114 t115 t116 _ ?side1 A1.out).mono ?_); (case side1 => exact Tabs.below HT.out (by repeat (first | (with_reducible first | exact HB.out | apply below_alloc | apply pw_below_drewN | apply below_drew1) | exact HB.out))); rintro e w39 ⟨v117, rfl, ho0, hb⟩; refine ⟨_, rfl, ?_⟩; have n0_ := Aside0.mk (Kd.R_lower ho0 (below_size (by repeat (first | (with_reducible first | exact HB.out | apply below_alloc | apply pw_below_drewN | apply below_drew1) | exact HB.out)))); have n1_ := Aside0.mk (below_step (by repeat (first | (with_reducible first | exact HB.out | apply below_alloc | apply pw_below_drewN | apply below_drew1) | exact HB.out)) hb); clear HB; have HO118 := n0_; have HB := n1_; clear n0_ n1_; (try clear hb); (try clear hb2); (try clear hk); (try clear hi); (try clear ho0)) | ((with_reducible refine gate_callee (f := 10) rfl ?_); refine goesL_ (some 12) rfl rfl Tryz.func10 (by kernel_rfl) rfl #[.int .i64 90500] rfl (by (try simp only [List.map_toArray, List.map_cons, List.map_nil]); first | done | rfl | (simp only [List.length_drop, List.length_take]; rfl)) ?_; (with_reducible refine (lexer_Duration.calls 90500 t119 t120 _ ?side1 A2.out).mono ?_); (case side1 => exact Tabs.below HT.out (by repeat (first | (with_reducible first | exact HB.out | apply below_alloc | apply pw_below_drewN | apply below_drew1) | exact HB.out))); rintro e w40 ⟨rfl, hb⟩; refine ⟨_, rfl, ?_⟩; have n0_ := Aside0.mk (Kd.R_below (by (with_reducible repeat (first | apply Kd.R_alloc | apply Kd.R_drewN | apply Kd.R_drew)); exact HO118.out) hb); have n1_ := Aside0.mk (below_step (by repeat (first | (with_reducible first | exact HB.out | apply below_alloc | apply pw_below_drewN | apply below_drew1) | exact HB.out)) hb); clear HO118; clear HB; have HO118 := n0_; have HB := n1_; clear n0_ n1_; (try clear hb); (try clear hb2); (try clear hk); (try clear hi); obtain ⟨Ao41, co41, eo41⟩ := Kd.R_slice HO118.out; subst eo41))
        go_ret
        exact ⟨by first | rfl | (simp [errW_none, errW_some] <;> rfl) | (simp [*, errW_none, errW_some] <;> rfl), by repeat (first | (with_reducible first | exact HB.out | apply below_alloc | apply pw_below_drewN | apply below_drew1) | exact HB.out)⟩
    · rw [if_neg c4] at H
      have c4b0 : (t120 == 0) = false := beq_eq_false_iff_ne.mpr c4
      have c4b1 : (t120 != 0) = true := bne_iff_ne.mpr c4
      obtain rfl := Option.some.inj H
      go_enter Tryz.func11, Tryz.ntmps11
      go_wp2_with (first | ((with_reducible refine gate_callee (f := 17) rfl ?_); refine goesL_ (some 7) rfl rfl Tryz.func17 (by kernel_rfl) rfl #[.string (⟨#[114, 97, 116, 101, 40, 120, 91, 49, 104, 51, 48, 109, 93, 41, 32, 62, 32, 48, 46, 53, 32, 35, 32, 104, 97, 108, 102]⟩ : ByteArray)] rfl (by (try simp only [List.map_toArray, List.map_cons, List.map_nil]); first | done | rfl | (simp only [List.length_drop, List.length_take]; rfl)) ?_; (with_reducible refine (lexer_Tokens.calls (⟨#[114, 97, 116, 101, 40, 120, 91, 49, 104, 51, 48, 109, 93, 41, 32, 62, 32, 48, 46, 53, 32, 35, 32, 104, 97, 108, 102]⟩ : ByteArray) t114 t115 t116 _ ?side1 A1.out).mono ?_); (case side1 => exact Tabs.below HT.out (by repeat (first | (with_reducible first | exact HB.out | apply below_alloc | apply pw_below_drewN | apply below_drew1) | exact HB.out))); rintro e w42 ⟨v117, rfl, ho0, hb⟩; refine ⟨_, rfl, ?_⟩; have n0_ := Aside0.mk (Kd.R_lower ho0 (below_size (by repeat (first | (with_reducible first | exact HB.out | apply below_alloc | apply pw_below_drewN | apply below_drew1) | exact HB.out)))); have n1_ := Aside0.mk (below_step (by repeat (first | (with_reducible first | exact HB.out | apply below_alloc | apply pw_below_drewN | apply below_drew1) | exact HB.out)) hb); clear HB; have HO118 := n0_; have HB := n1_; clear n0_ n1_; (try clear hb); (try clear hb2); (try clear hk); (try clear hi); (try clear ho0)) | ((with_reducible refine gate_callee (f := 10) rfl ?_); refine goesL_ (some 12) rfl rfl Tryz.func10 (by kernel_rfl) rfl #[.int .i64 90500] rfl (by (try simp only [List.map_toArray, List.map_cons, List.map_nil]); first | done | rfl | (simp only [List.length_drop, List.length_take]; rfl)) ?_; (with_reducible refine (lexer_Duration.calls 90500 t119 t120 _ ?side1 A2.out).mono ?_); (case side1 => exact Tabs.below HT.out (by repeat (first | (with_reducible first | exact HB.out | apply below_alloc | apply pw_below_drewN | apply below_drew1) | exact HB.out))); rintro e w43 ⟨rfl, hb⟩; refine ⟨_, rfl, ?_⟩; have n0_ := Aside0.mk (Kd.R_below (by (with_reducible repeat (first | apply Kd.R_alloc | apply Kd.R_drewN | apply Kd.R_drew)); exact HO118.out) hb); have n1_ := Aside0.mk (below_step (by repeat (first | (with_reducible first | exact HB.out | apply below_alloc | apply pw_below_drewN | apply below_drew1) | exact HB.out)) hb); clear HO118; clear HB; have HO118 := n0_; have HB := n1_; clear n0_ n1_; (try clear hb); (try clear hb2); (try clear hk); (try clear hi)))
      go_ret
      exact ⟨by first | rfl | (simp [errW_none, errW_some] <;> rfl) | (simp [*, errW_none, errW_some] <;> rfl), by repeat (first | (with_reducible first | exact HB.out | apply below_alloc | apply pw_below_drewN | apply below_drew1) | exact HB.out)⟩
  · rw [if_neg c3] at H
    have c3b0 : (t116 == 0) = false := beq_eq_false_iff_ne.mpr c3
    have c3b1 : (t116 != 0) = true := bne_iff_ne.mpr c3
    obtain rfl := Option.some.inj H
    go_enter Tryz.func11, Tryz.ntmps11
    go_wp2_with (first | ((with_reducible refine gate_callee (f := 17) rfl ?_); refine goesL_ (some 7) rfl rfl Tryz.func17 (by kernel_rfl) rfl #[.string (⟨#[114, 97, 116, 101, 40, 120, 91, 49, 104, 51, 48, 109, 93, 41, 32, 62, 32, 48, 46, 53, 32, 35, 32, 104, 97, 108, 102]⟩ : ByteArray)] rfl (by (try simp only [List.map_toArray, List.map_cons, List.map_nil]); first | done | rfl | (simp only [List.length_drop, List.length_take]; rfl)) ?_; (with_reducible refine (lexer_Tokens.calls (⟨#[114, 97, 116, 101, 40, 120, 91, 49, 104, 51, 48, 109, 93, 41, 32, 62, 32, 48, 46, 53, 32, 35, 32, 104, 97, 108, 102]⟩ : ByteArray) t114 t115 t116 _ ?side1 A1.out).mono ?_); (case side1 => exact Tabs.below HT.out (by repeat (first | (with_reducible first | exact HB.out | apply below_alloc | apply pw_below_drewN | apply below_drew1) | exact HB.out))); rintro e w44 ⟨v117, rfl, ho0, hb⟩; refine ⟨_, rfl, ?_⟩; have n0_ := Aside0.mk (Kd.R_lower ho0 (below_size (by repeat (first | (with_reducible first | exact HB.out | apply below_alloc | apply pw_below_drewN | apply below_drew1) | exact HB.out)))); have n1_ := Aside0.mk (below_step (by repeat (first | (with_reducible first | exact HB.out | apply below_alloc | apply pw_below_drewN | apply below_drew1) | exact HB.out)) hb); clear HB; have HO118 := n0_; have HB := n1_; clear n0_ n1_; (try clear hb); (try clear hb2); (try clear hk); (try clear hi); (try clear ho0)) | ((with_reducible refine gate_callee (f := 10) rfl ?_); refine goesL_ (some 12) rfl rfl Tryz.func10 (by kernel_rfl) rfl #[.int .i64 90500] rfl (by (try simp only [List.map_toArray, List.map_cons, List.map_nil]); first | done | rfl | (simp only [List.length_drop, List.length_take]; rfl)) ?_; (with_reducible refine (lexer_Duration.calls 90500 t119 t120 _ ?side1 A2.out).mono ?_); (case side1 => exact Tabs.below HT.out (by repeat (first | (with_reducible first | exact HB.out | apply below_alloc | apply pw_below_drewN | apply below_drew1) | exact HB.out))); rintro e w45 ⟨rfl, hb⟩; refine ⟨_, rfl, ?_⟩; have n0_ := Aside0.mk (Kd.R_below (by (with_reducible repeat (first | apply Kd.R_alloc | apply Kd.R_drewN | apply Kd.R_drew)); exact HO118.out) hb); have n1_ := Aside0.mk (below_step (by repeat (first | (with_reducible first | exact HB.out | apply below_alloc | apply pw_below_drewN | apply below_drew1) | exact HB.out)) hb); clear HO118; clear HB; have HO118 := n0_; have HB := n1_; clear n0_ n1_; (try clear hb); (try clear hb2); (try clear hk); (try clear hi)))
    go_ret
    exact ⟨by first | rfl | (simp [errW_none, errW_some] <;> rfl) | (simp [*, errW_none, errW_some] <;> rfl), by repeat (first | (with_reducible first | exact HB.out | apply below_alloc | apply pw_below_drewN | apply below_drew1) | exact HB.out)⟩

end Go.Proofs.YteokilkcchdeiaaGreatDoor.Q
end
section
namespace Go.Proofs.YteokilkcchdeiaaGreatDoor.Q
open Go.Proofs.YteokilkcchdeiaaGreatDoor
open Go.Proofs.YteokilkcchdeiaaGreatDoor.X
open Go.RowKit Go.Proofs.YteokilkcchdeiaaGreatDoorW.PrintWords Go.Proofs.YteokilkcchdeiaaGreatDoorW.PrintLast Go.Proofs.YteokilkcchdeiaaGreatDoorW.PrintMore
attribute [local go_sem] max2_int min2_int max_two min_two max_three min_three max_four min_four   -- for this text's walks alone
set_option linter.unusedVariables false
set_option linter.unusedSimpArgs false

/-! ### lookoutlaw42_LexerLines: function 8 -/
def lookoutlaw42_LexerLines.j0 : Nat → ByteArray → Bool → Option (Bool)
  | 0, _, _ => none
  | k + 1, x0, x44 => if x44 = true then (some false) else ((lexer_Line.f k x0 (wrap64 ((x0.size : Int) + 1))).bind fun bt313 => ((lexer_Line.f k x0 (-1)).bind fun bt315 => (if bt313.1 = 0 then (if bt313.2 = 0 then (if bt315.1 = 0 then (if bt315.2 = 0 then ((lookoutlaw42_awake.f k).bind fun t317 => (some t317)) else (some false)) else (some false)) else (some false)) else (some false))))
def lookoutlaw42_LexerLines.f (k : Nat) (a0 : ByteArray) (a1 : Int) : Option (Bool) := if (a0.size : Int) > 600 then ((lookoutlaw42_awake.f k).bind fun t308 => (some t308)) else (if (wrap64 ((a0.size : Int) + 1)) = 0 then (none) else ((lexer_Line.f k a0 (Int.tmod (wrap64 (a1)) (wrap64 ((a0.size : Int) + 1)))).bind fun bt309 => (if 0 ≤ (Int.tmod (wrap64 (a1)) (wrap64 ((a0.size : Int) + 1))) then (if (Int.tmod (wrap64 (a1)) (wrap64 ((a0.size : Int) + 1))) ≤ (a0.size : Int) then ((strings_Count.f (a0.extract 0 ((Int.tmod (wrap64 (a1)) (wrap64 ((a0.size : Int) + 1))) : Int).toNat) (⟨#[10]⟩ : ByteArray)).bind fun t311 => (if bt309.1 = (wrap64 (1 + t311)) then ((strings_LastIndex.f (a0.extract 0 ((Int.tmod (wrap64 (a1)) (wrap64 ((a0.size : Int) + 1))) : Int).toNat) (⟨#[10]⟩ : ByteArray)).bind fun t312 => (lookoutlaw42_LexerLines.j0 k a0 (bt309.2 != (wrap64 ((Int.tmod (wrap64 (a1)) (wrap64 ((a0.size : Int) + 1))) - t312))))) else (lookoutlaw42_LexerLines.j0 k a0 true))) else (none)) else (none))))
theorem lookoutlaw42_LexerLines.mono_l : ∀ k, (∀ y0 y1, LeO (lookoutlaw42_LexerLines.j0 k y0 y1) (lookoutlaw42_LexerLines.j0 (k + 1) y0 y1))
  | 0 => fun _ _ r h => by simp [lookoutlaw42_LexerLines.j0] at h
  | k + 1 => by
    have ih0 := lookoutlaw42_LexerLines.mono_l k
    · intro y0 y1
      unfold lookoutlaw42_LexerLines.j0
      repeat' first
      | (with_reducible exact ih0 _ _)
      | (with_reducible exact lexer_Line.mono _ _ _)
      | (with_reducible exact lookoutlaw42_awake.mono _)
      | (with_reducible exact LeO.refl _)
      | (with_reducible exact LeO.none _)
      | (with_reducible refine LeO.ite ?_ ?_)
      | (with_reducible refine LeO.bind ?_ (fun _ => ?_))
      | exact ih0 _ _
      | exact lexer_Line.mono _ _ _
      | exact lookoutlaw42_awake.mono _
      | exact LeO.none _
      | refine LeO.ite ?_ ?_
      | refine LeO.bind ?_ (fun _ => ?_)
theorem lookoutlaw42_LexerLines.mono : ∀ a0 a1 k, LeO (lookoutlaw42_LexerLines.f k a0 a1) (lookoutlaw42_LexerLines.f (k + 1) a0 a1) := by
  intro a0 a1 k
  have ih0 := lookoutlaw42_LexerLines.mono_l k
  unfold lookoutlaw42_LexerLines.f
  repeat' first
      | (with_reducible exact ih0 _ _)
      | (with_reducible exact lexer_Line.mono _ _ _)
      | (with_reducible exact lookoutlaw42_awake.mono _)
      | (with_reducible exact LeO.refl _)
      | (with_reducible exact LeO.none _)
      | (with_reducible refine LeO.ite ?_ ?_)
      | (with_reducible refine LeO.bind ?_ (fun _ => ?_))
      | exact ih0 _ _
      | exact lexer_Line.mono _ _ _
      | exact lookoutlaw42_awake.mono _
      | exact LeO.none _
      | refine LeO.ite ?_ ?_
      | refine LeO.bind ?_ (fun _ => ?_)
set_option maxHeartbeats 8000000 in
set_option maxRecDepth 100000 in
theorem lookoutlaw42_LexerLines.calls (k : Nat) (a0 : ByteArray) (a1 : Int) (r : Bool) (w : World) (hT : Tabs w) (h : lookoutlaw42_LexerLines.f k a0 a1 = some r) :
    Calls Tryz.prog 8 #[.string a0, .int .u16 a1] w fun e w' => e = .returned (.bool r) ∧ Below w.heap.size w w' := by
  have HT := Aside0.mk hT
  clear hT
  have HB := Aside0.mk (Below.refl w.heap.size w)
  have H : (if (a0.size : Int) > 600 then ((lookoutlaw42_awake.f k).bind fun t308 => (some t308)) else (if (wrap64 ((a0.size : Int) + 1)) = 0 then (none) else ((lexer_Line.f k a0 (Int.tmod (wrap64 (a1)) (wrap64 ((a0.size : Int) + 1)))).bind fun bt309 => (if 0 ≤ (Int.tmod (wrap64 (a1)) (wrap64 ((a0.size : Int) + 1))) then (if (Int.tmod (wrap64 (a1)) (wrap64 ((a0.size : Int) + 1))) ≤ (a0.size : Int) then ((strings_Count.f (a0.extract 0 ((Int.tmod (wrap64 (a1)) (wrap64 ((a0.size : Int) + 1))) : Int).toNat) (⟨#[10]⟩ : ByteArray)).bind fun t311 => (if bt309.1 = (wrap64 (1 + t311)) then ((strings_LastIndex.f (a0.extract 0 ((Int.tmod (wrap64 (a1)) (wrap64 ((a0.size : Int) + 1))) : Int).toNat) (⟨#[10]⟩ : ByteArray)).bind fun t312 => (lookoutlaw42_LexerLines.j0 k a0 (bt309.2 != (wrap64 ((Int.tmod (wrap64 (a1)) (wrap64 ((a0.size : Int) + 1))) - t312))))) else (lookoutlaw42_LexerLines.j0 k a0 true))) else (none)) else (none))))) = some r := h
  clear h
  by_cases c3 : (a0.size : Int) > 600
  · rw [if_pos c3] at H
    have c3b0 : decide (600 < (a0.size : Int)) = true := decide_eq_true c3
    have c3b1 : decide (600 < a0.size) = true := decide_eq_true (by omega)
    clear c3
    replace H := Option.bind_eq_some_iff.mp H
    obtain ⟨t308, A40, H⟩ := H
    replace H : (some t308) = some r := H
    have A4 := Aside0.mk A40
    clear A40
    obtain rfl := Option.some.inj H
    go_enter Tryz.func8, Tryz.ntmps8
    go_wp2_with (first | ((with_reducible refine gate_callee (f := 11) rfl ?_); refine goesL_ (some 15) rfl rfl Tryz.func11 (by kernel_rfl) rfl #[] rfl (by (try simp only [List.map_toArray, List.map_cons, List.map_nil]); first | done | rfl | (simp only [List.length_drop, List.length_take]; rfl)) ?_; (with_reducible refine (lookoutlaw42_awake.calls k  t308 _ ?side1 A4.out).mono ?_); (case side1 => exact Tabs.below HT.out (by repeat (first | (with_reducible first | exact HB.out | apply below_alloc | apply pw_below_drewN | apply below_drew1) | exact HB.out))); rintro e w5 ⟨rfl, hb⟩; refine ⟨_, rfl, ?_⟩; have n0_ := Aside0.mk (below_step (by repeat (first | (with_reducible first | exact HB.out | apply below_alloc | apply pw_below_drewN | apply below_drew1) | exact HB.out)) hb); clear HB; have HB := n0_; clear n0_; (try clear hb); (try clear hb2); (try clear hk); (try clear hi)))
    go_ret
    exact ⟨by first | rfl | (simp [errW_none, errW_some] <;> rfl) | (simp [*, errW_none, errW_some] <;> rfl), by repeat (first | (with_reducible first | exact HB.out | apply below_alloc | apply pw_below_drewN | apply below_drew1) | exact HB.out)⟩
  · rw [if_neg c3] at H
    have c3b0 : decide (600 < (a0.size : Int)) = false := decide_eq_false c3
    have c3b1 : decide (600 < a0.size) = false := decide_eq_false (by omega)
    clear c3
    by_cases c6 : (wrap64 ((a0.size : Int) + 1)) = 0
    · rw [if_pos c6] at H
      exact absurd H (by simp)
    · rw [if_neg c6] at H
      have c6b0 : ((wrap64 ((a0.size : Int) + 1)) == 0) = false := beq_eq_false_iff_ne.mpr c6
      have c6b1 : ((wrap64 ((a0.size : Int) + 1)) != 0) = true := bne_iff_ne.mpr c6
      replace H := Option.bind_eq_some_iff.mp H
      obtain ⟨⟨t309, t310⟩, A70, H⟩ := H
      replace H : (if 0 ≤ (Int.tmod (wrap64 (a1)) (wrap64 ((a0.size : Int) + 1))) then (if (Int.tmod (wrap64 (a1)) (wrap64 ((a0.size : Int) + 1))) ≤ (a0.size : Int) then ((strings_Count.f (a0.extract 0 ((Int.tmod (wrap64 (a1)) (wrap64 ((a0.size : Int) + 1))) : Int).toNat) (⟨#[10]⟩ : ByteArray)).bind fun t311 => (if t309 = (wrap64 (1 + t311)) then ((strings_LastIndex.f (a0.extract 0 ((Int.tmod (wrap64 (a1)) (wrap64 ((a0.size : Int) + 1))) : Int).toNat) (⟨#[10]⟩ : ByteArray)).bind fun t312 => (lookoutlaw42_LexerLines.j0 k a0 (t310 != (wrap64 ((Int.tmod (wrap64 (a1)) (wrap64 ((a0.size : Int) + 1))) - t312))))) else (lookoutlaw42_LexerLines.j0 k a0 true))) else (none)) else (none)) = some r := H
      have A7 := Aside0.mk A70
      clear A70
      have HC8 := Aside0.mk H
      clear H
      go_enter Tryz.func8, Tryz.ntmps8
      go_upto_region 5 with (first | ((with_reducible refine gate_callee (f := 22) rfl ?_); refine goesL_ (some 25) rfl rfl Tryz.func22 (by kernel_rfl) rfl #[.string a0, .int .i64 (Int.tmod (wrap64 (a1)) (wrap64 ((a0.size : Int) + 1)))] rfl (by (try simp only [List.map_toArray, List.map_cons, List.map_nil]); first | done | rfl | (simp only [List.length_drop, List.length_take]; rfl)) ?_; (with_reducible refine (lexer_Line.calls k a0 (Int.tmod (wrap64 (a1)) (wrap64 ((a0.size : Int) + 1))) t309 t310 _ A7.out).mono ?_); rintro e w' ⟨rfl, ⟨nd, rfl⟩⟩; refine ⟨_, rfl, ?_⟩))
      (try simp only [Act.put, List.setIfInBounds_toArray, List.set_cons_zero, List.set_cons_succ])
      go_cut [44] (fun v44 wc => ∃ (kq : Nat) (x44_7 : Bool), v44 = .bool x44_7 ∧ Aside0 (lookoutlaw42_LexerLines.j0 kq a0 x44_7 = some r) ∧ Aside0 (kq ≤ k) ∧ Aside0 (Below w.heap.size w wc))
      case first =>
        have H := HC8.out
        clear HC8
        obtain ⟨ji9, hji9⟩ : ∃ j_ : Int, (Int.tmod (wrap64 (a1)) (wrap64 ((a0.size : Int) + 1))) = j_ := ⟨_, rfl⟩
        replace H : (if 0 ≤ (ji9) then (if (ji9) ≤ (a0.size : Int) then ((strings_Count.f (a0.extract 0 ((ji9) : Int).toNat) (⟨#[10]⟩ : ByteArray)).bind fun t311 => (if t309 = (wrap64 (1 + t311)) then ((strings_LastIndex.f (a0.extract 0 ((ji9) : Int).toNat) (⟨#[10]⟩ : ByteArray)).bind fun t312 => (lookoutlaw42_LexerLines.j0 k a0 (t310 != (wrap64 ((ji9) - t312))))) else (lookoutlaw42_LexerLines.j0 k a0 true))) else (none)) else (none)) = some r := by first | (rw [hji9] at H; exact H) | (simp only [hji9] at H ⊢; exact H)
        by_cases c10 : 0 ≤ (ji9)
        · rw [if_pos c10] at H
          have c10b0 := eq_true c10
          have c10b1 : decide (0 ≤ (ji9)) = true := decide_eq_true c10
          clear c10
          by_cases c11 : (ji9) ≤ (a0.size : Int)
          · rw [if_pos c11] at H
            have c11b0 := eq_true c11
            have c11b1 : decide ((ji9) ≤ (a0.size : Int)) = true := decide_eq_true c11
            clear c11
            replace H := Option.bind_eq_some_iff.mp H
            obtain ⟨t311, A120, H⟩ := H
            replace H : (if t309 = (wrap64 (1 + t311)) then ((strings_LastIndex.f (a0.extract 0 ((ji9) : Int).toNat) (⟨#[10]⟩ : ByteArray)).bind fun t312 => (lookoutlaw42_LexerLines.j0 k a0 (t310 != (wrap64 ((ji9) - t312))))) else (lookoutlaw42_LexerLines.j0 k a0 true)) = some r := H
            have A12 := Aside0.mk A120
            clear A120
            by_cases c13 : t309 = (wrap64 (1 + t311))
            · rw [if_pos c13] at H
              have c13b0 : (t309 == (wrap64 (1 + t311))) = true := beq_iff_eq.mpr c13
              have c13b1 : (t309 != (wrap64 (1 + t311))) = false := bne_eq_false_iff_eq.mpr c13
              clear c13
              (first | rw [c13b0] | (simp only [i64_w, i32_w]; rw [c13b0]) | skip)
              have c14b0 := eq_true (of_decide_eq_true (by first | (with_reducible assumption) | assumption) : 0 ≤ (ji9))
              have c15b0 := eq_true (of_decide_eq_true (by first | (with_reducible assumption) | assumption) : (ji9) ≤ (a0.size : Int))
              replace H := Option.bind_eq_some_iff.mp H
              obtain ⟨t312, A160, H⟩ := H
              replace H : (lookoutlaw42_LexerLines.j0 k a0 (t310 != (wrap64 ((ji9) - t312)))) = some r := H
              have A16 := Aside0.mk A160
              clear A160
              have H' := Aside0.mk H
              clear H
              go_wp2_with (first | ((with_reducible refine gate_callee (f := 26) rfl ?_); refine goesL_ (some 32) rfl rfl Tryz.func26 (by kernel_rfl) rfl #[.string (a0.extract 0 ((ji9) : Int).toNat), .string (⟨#[10]⟩ : ByteArray)] rfl (by (try simp only [List.map_toArray, List.map_cons, List.map_nil]); first | done | (simp only [hji9]; rfl) | rfl | (simp only [List.length_drop, List.length_take]; rfl)) ?_; (with_reducible refine (strings_Count.calls (a0.extract 0 ((ji9) : Int).toNat) (⟨#[10]⟩ : ByteArray) t311 _ A12.out).mono ?_); rintro e w' ⟨rfl, ⟨nd, rfl⟩⟩; refine ⟨_, rfl, ?_⟩) | (go_at_call 27; (with_reducible refine (strings_LastIndex.calls (a0.extract 0 ((ji9) : Int).toNat) (⟨#[10]⟩ : ByteArray) t312 _ A16.out).mono ?_); rintro e w' ⟨rfl, ⟨nd, rfl⟩⟩))
              (try subst hji9)
              go_meet
              case rel => exact ⟨_, _, (by first | rfl | (simp; done) | (simp only [← hji9] <;> (first | rfl | simp)) | (simp [*]; done)), H', ⟨by first | omega | exact Nat.le_refl _⟩, ⟨by repeat (first | (with_reducible first | exact HB.out | apply below_alloc | apply pw_below_drewN | apply below_drew1) | exact HB.out)⟩⟩
            · rw [if_neg c13] at H
              have c13b0 : (t309 == (wrap64 (1 + t311))) = false := beq_eq_false_iff_ne.mpr c13
              have c13b1 : (t309 != (wrap64 (1 + t311))) = true := bne_iff_ne.mpr c13
              (first | rw [c13b0] | (simp only [i64_w, i32_w]; rw [c13b0]) | skip)
              have H' := Aside0.mk H
              clear H
              go_wp2_with (first | ((with_reducible refine gate_callee (f := 26) rfl ?_); refine goesL_ (some 32) rfl rfl Tryz.func26 (by kernel_rfl) rfl #[.string (a0.extract 0 ((ji9) : Int).toNat), .string (⟨#[10]⟩ : ByteArray)] rfl (by (try simp only [List.map_toArray, List.map_cons, List.map_nil]); first | done | (simp only [hji9]; rfl) | rfl | (simp only [List.length_drop, List.length_take]; rfl)) ?_; (with_reducible refine (strings_Count.calls (a0.extract 0 ((ji9) : Int).toNat) (⟨#[10]⟩ : ByteArray) t311 _ A12.out).mono ?_); rintro e w' ⟨rfl, ⟨nd, rfl⟩⟩; refine ⟨_, rfl, ?_⟩))
              (try subst hji9)
              go_meet
              case rel => exact ⟨_, (true), (by first | rfl | (simp; done) | (simp [*]; done)), H', ⟨by first | omega | exact Nat.le_refl _⟩, ⟨by repeat (first | (with_reducible first | exact HB.out | apply below_alloc | apply pw_below_drewN | apply below_drew1) | exact HB.out)⟩⟩
          · rw [if_neg c11] at H
            exact absurd H (by simp)
        · rw [if_neg c10] at H
          exact absurd H (by simp)
      case rest =>
        clear HC8
        try clear c1
        try clear c2
        try clear p2
        try clear c3
        try clear c3b0
        try clear c3b1
        try clear c6
        try clear c6b0
        try clear c6b1
        try clear p6
        try clear c8
        try clear c10
        try clear c10b0
        try clear c10b1
        try clear c11
        try clear c11b0
        try clear c11b1
        try clear c13
        try clear c13b0
        try clear c13b1
        try clear c14
        try clear c14b0
        try clear c15
        try clear c15b0
        obtain ⟨kq, x44_7, rfl, HA, HJ7, HB⟩ := hcut
        cases kq with
        | zero => exact absurd HA.out (by simp [lookoutlaw42_LexerLines.j0])
        | succ kj7 =>
          have H := HA.out
          clear HA
          simp only [lookoutlaw42_LexerLines.j0] at H
          by_cases c17 : x44_7 = true
          · subst c17
            have H1 : (some false) = some r := by rw [if_pos rfl] at H; exact H
            clear H
            have H := H1
            clear H1
            obtain rfl := Option.some.inj H
            go_wp2
            go_ret
            exact ⟨by first | rfl | (simp [errW_none, errW_some] <;> rfl) | (simp [*, errW_none, errW_some] <;> rfl), by repeat (first | (with_reducible first | exact HB.out | apply below_alloc | apply pw_below_drewN | apply below_drew1) | exact HB.out)⟩
          · replace c17 := Bool.eq_false_iff.mpr c17
            subst c17
            have H1 : ((lexer_Line.f kj7 a0 (wrap64 ((a0.size : Int) + 1))).bind fun bt313 => ((lexer_Line.f kj7 a0 (-1)).bind fun bt315 => (if bt313.1 = 0 then (if bt313.2 = 0 then (if bt315.1 = 0 then (if bt315.2 = 0 then ((lookoutlaw42_awake.f kj7).bind fun t317 => (some t317)) else (some false)) else (some false)) else (some false)) else (some false)))) = some r := by rw [if_neg (show ¬ (false = true) by decide)] at H; exact H
            clear H
            have H := H1
            clear H1
            replace H := Option.bind_eq_some_iff.mp H
            obtain ⟨⟨t313, t314⟩, A180, H⟩ := H
            replace H : ((lexer_Line.f kj7 a0 (-1)).bind fun bt315 => (if t313 = 0 then (if t314 = 0 then (if bt315.1 = 0 then (if bt315.2 = 0 then ((lookoutlaw42_awake.f kj7).bind fun t317 => (some t317)) else (some false)) else (some false)) else (some false)) else (some false))) = some r := H
            have A18 := Aside0.mk A180
            clear A180
            replace H := Option.bind_eq_some_iff.mp H
            obtain ⟨⟨t315, t316⟩, A190, H⟩ := H
            replace H : (if t313 = 0 then (if t314 = 0 then (if t315 = 0 then (if t316 = 0 then ((lookoutlaw42_awake.f kj7).bind fun t317 => (some t317)) else (some false)) else (some false)) else (some false)) else (some false)) = some r := H
            have A19 := Aside0.mk A190
            clear A190
            by_cases c20 : t313 = 0
            · rw [if_pos c20] at H
              have c20b0 : (t313 == 0) = true := beq_iff_eq.mpr c20
              have c20b1 : (t313 != 0) = false := bne_eq_false_iff_eq.mpr c20
              clear c20
              by_cases c21 : t314 = 0
              · rw [if_pos c21] at H
                have c21b0 : (t314 == 0) = true := beq_iff_eq.mpr c21
                have c21b1 : (t314 != 0) = false := bne_eq_false_iff_eq.mpr c21
                clear c21
                by_cases c22 : t315 = 0
                · rw [if_pos c22] at H
                  have c22b0 : (t315 == 0) = true := beq_iff_eq.mpr c22
                  have c22b1 : (t315 != 0) = false := bne_eq_false_iff_eq.mpr c22
                  clear c22
                  by_cases c23 : t316 = 0
                  · rw [if_pos c23] at H
                    have c23b0 : (t316 == 0) = true := beq_iff_eq.mpr c23
                    have c23b1 : (t316 != 0) = false := bne_eq_false_iff_eq.mpr c23
                    clear c23
                    replace H := Option.bind_eq_some_iff.mp H
                    obtain ⟨t317, A240, H⟩ := H
                    replace H : (some t317) = some r := H
                    have A24 := Aside0.mk A240
                    clear A240
                    obtain rfl := Option.some.inj H
                    go_wp2_with (first | ((with_reducible refine gate_callee (f := 22) rfl ?_); refine goesL_ (some 50) rfl rfl Tryz.func22 (by kernel_rfl) rfl #[.string a0, .int .i64 (wrap64 ((a0.size : Int) + 1))] rfl (by (try simp only [List.map_toArray, List.map_cons, List.map_nil]); first | done | rfl | (simp only [List.length_drop, List.length_take]; rfl)) ?_; (with_reducible refine (lexer_Line.calls kj7 a0 (wrap64 ((a0.size : Int) + 1)) t313 t314 _ A18.out).mono ?_); rintro e w' ⟨rfl, ⟨nd, rfl⟩⟩; refine ⟨_, rfl, ?_⟩) | ((with_reducible refine gate_callee (f := 22) rfl ?_); refine goesL_ (some 55) rfl rfl Tryz.func22 (by kernel_rfl) rfl #[.string a0, .int .i64 (-1)] rfl (by (try simp only [List.map_toArray, List.map_cons, List.map_nil]); first | done | rfl | (simp only [List.length_drop, List.length_take]; rfl)) ?_; (with_reducible refine (lexer_Line.calls kj7 a0 (-1) t315 t316 _ A19.out).mono ?_); rintro e w' ⟨rfl, ⟨nd, rfl⟩⟩; refine ⟨_, rfl, ?_⟩) | (go_at_call 11; (with_reducible refine (lookoutlaw42_awake.calls kj7  t317 _ ?side1 A24.out).mono ?_); (case side1 => exact Tabs.below HT.out (by repeat (first | (with_reducible first | exact HB.out | apply below_alloc | apply pw_below_drewN | apply below_drew1) | exact HB.out))); rintro e w25 ⟨rfl, hb⟩; have n0_ := Aside0.mk (below_step (by repeat (first | (with_reducible first | exact HB.out | apply below_alloc | apply pw_below_drewN | apply below_drew1) | exact HB.out)) hb); clear HB; have HB := n0_; clear n0_; (try clear hb); (try clear hb2); (try clear hk); (try clear hi)))
                    go_ret
                    exact ⟨by first | rfl | (simp [errW_none, errW_some] <;> rfl) | (simp [*, errW_none, errW_some] <;> rfl), by repeat (first | (with_reducible first | exact HB.out | apply below_alloc | apply pw_below_drewN | apply below_drew1) | exact HB.out)⟩
                  · rw [if_neg c23] at H
                    have c23b0 : (t316 == 0) = false := beq_eq_false_iff_ne.mpr c23
                    have c23b1 : (t316 != 0) = true := bne_iff_ne.mpr c23
                    obtain rfl := Option.some.inj H
                    go_wp2_with (first | ((with_reducible refine gate_callee (f := 22) rfl ?_); refine goesL_ (some 50) rfl rfl Tryz.func22 (by kernel_rfl) rfl #[.string a0, .int .i64 (wrap64 ((a0.size : Int) + 1))] rfl (by (try simp only [List.map_toArray, List.map_cons, List.map_nil]); first | done | rfl | (simp only [List.length_drop, List.length_take]; rfl)) ?_; (with_reducible refine (lexer_Line.calls kj7 a0 (wrap64 ((a0.size : Int) + 1)) t313 t314 _ A18.out).mono ?_); rintro e w' ⟨rfl, ⟨nd, rfl⟩⟩; refine ⟨_, rfl, ?_⟩) | ((with_reducible refine gate_callee (f := 22) rfl ?_); refine goesL_ (some 55) rfl rfl Tryz.func22 (by kernel_rfl) rfl #[.string a0, .int .i64 (-1)] rfl (by (try simp only [List.map_toArray, List.map_cons, List.map_nil]); first | done | rfl | (simp only [List.length_drop, List.length_take]; rfl)) ?_; (with_reducible refine (lexer_Line.calls kj7 a0 (-1) t315 t316 _ A19.out).mono ?_); rintro e w' ⟨rfl, ⟨nd, rfl⟩⟩; refine ⟨_, rfl, ?_⟩))
                    go_ret
                    exact ⟨by first | rfl | (simp [errW_none, errW_some] <;> rfl) | (simp [*, errW_none, errW_some] <;> rfl), by repeat (first | (with_reducible first | exact HB.out | apply below_alloc | apply pw_below_drewN | apply below_drew1) | exact HB.out)⟩
                · rw [if_neg c22] at H
                  have c22b0 : (t315 == 0) = false := beq_eq_false_iff_ne.mpr c22
                  have c22b1 : (t315 != 0) = true := bne_iff_ne.mpr c22
                  obtain rfl := Option.some.inj H
                  go_wp2_with (first | ((with_reducible refine gate_callee (f := 22) rfl ?_); refine goesL_ (some 50) rfl rfl Tryz.func22 (by kernel_rfl) rfl #[.string a0, .int .i64 (wrap64 ((a0.size : Int) + 1))] rfl (by (try simp only [List.map_toArray, List.map_cons, List.map_nil]); first | done | rfl | (simp only [List.length_drop, List.length_take]; rfl)) ?_; (with_reducible refine (lexer_Line.calls kj7 a0 (wrap64 ((a0.size : Int) + 1)) t313 t314 _ A18.out).mono ?_); rintro e w' ⟨rfl, ⟨nd, rfl⟩⟩; refine ⟨_, rfl, ?_⟩) | ((with_reducible refine gate_callee (f := 22) rfl ?_); refine goesL_ (some 55) rfl rfl Tryz.func22 (by kernel_rfl) rfl #[.string a0, .int .i64 (-1)] rfl (by (try simp only [List.map_toArray, List.map_cons, List.map_nil]); first | done | rfl | (simp only [List.length_drop, List.length_take]; rfl)) ?_; (with_reducible refine (lexer_Line.calls kj7 a0 (-1) t315 t316 _ A19.out).mono ?_); rintro e w' ⟨rfl, ⟨nd, rfl⟩⟩; refine ⟨_, rfl, ?_⟩))
                  go_ret
                  exact ⟨by first | rfl | (simp [errW_none, errW_some] <;> rfl) | (simp [*, errW_none, errW_some] <;> rfl), by repeat (first | (with_reducible first | exact HB.out | apply below_alloc | apply pw_below_drewN | apply below_drew1) | exact HB.out)⟩
              · rw [if_neg c21] at H
                have c21b0 : (t314 == 0) = false := beq_eq_false_iff_ne.mpr c21
                have c21b1 : (t314 != 0) = true := bne_iff_ne.mpr c21
                obtain rfl := Option.some.inj H
                go_wp2_with (first | ((with_reducible refine gate_callee (f := 22) rfl ?_); refine goesL_ (some 50) rfl rfl Tryz.func22 (by kernel_rfl) rfl #[.string a0, .int .i64 (wrap64 ((a0.size : Int) + 1))] rfl (by (try simp only [List.map_toArray, List.map_cons, List.map_nil]); first | done | rfl | (simp only [List.length_drop, List.length_take]; rfl)) ?_; (with_reducible refine (lexer_Line.calls kj7 a0 (wrap64 ((a0.size : Int) + 1)) t313 t314 _ A18.out).mono ?_); rintro e w' ⟨rfl, ⟨nd, rfl⟩⟩; refine ⟨_, rfl, ?_⟩) | ((with_reducible refine gate_callee (f := 22) rfl ?_); refine goesL_ (some 55) rfl rfl Tryz.func22 (by kernel_rfl) rfl #[.string a0, .int .i64 (-1)] rfl (by (try simp only [List.map_toArray, List.map_cons, List.map_nil]); first | done | rfl | (simp only [List.length_drop, List.length_take]; rfl)) ?_; (with_reducible refine (lexer_Line.calls kj7 a0 (-1) t315 t316 _ A19.out).mono ?_); rintro e w' ⟨rfl, ⟨nd, rfl⟩⟩; refine ⟨_, rfl, ?_⟩))
                go_ret
                exact ⟨by first | rfl | (simp [errW_none, errW_some] <;> rfl) | (simp [*, errW_none, errW_some] <;> rfl), by repeat (first | (with_reducible first | exact HB.out | apply below_alloc | apply pw_below_drewN | apply below_drew1) | exact HB.out)⟩
            · rw [if_neg c20] at H
              have c20b0 : (t313 == 0) = false := beq_eq_false_iff_ne.mpr c20
              have c20b1 : (t313 != 0) = true := bne_iff_ne.mpr c20
              obtain rfl := Option.some.inj H
              go_wp2_with (first | ((with_reducible refine gate_callee (f := 22) rfl ?_); refine goesL_ (some 50) rfl rfl Tryz.func22 (by kernel_rfl) rfl #[.string a0, .int .i64 (wrap64 ((a0.size : Int) + 1))] rfl (by (try simp only [List.map_toArray, List.map_cons, List.map_nil]); first | done | rfl | (simp only [List.length_drop, List.length_take]; rfl)) ?_; (with_reducible refine (lexer_Line.calls kj7 a0 (wrap64 ((a0.size : Int) + 1)) t313 t314 _ A18.out).mono ?_); rintro e w' ⟨rfl, ⟨nd, rfl⟩⟩; refine ⟨_, rfl, ?_⟩) | ((with_reducible refine gate_callee (f := 22) rfl ?_); refine goesL_ (some 55) rfl rfl Tryz.func22 (by kernel_rfl) rfl #[.string a0, .int .i64 (-1)] rfl (by (try simp only [List.map_toArray, List.map_cons, List.map_nil]); first | done | rfl | (simp only [List.length_drop, List.length_take]; rfl)) ?_; (with_reducible refine (lexer_Line.calls kj7 a0 (-1) t315 t316 _ A19.out).mono ?_); rintro e w' ⟨rfl, ⟨nd, rfl⟩⟩; refine ⟨_, rfl, ?_⟩))
              go_ret
              exact ⟨by first | rfl | (simp [errW_none, errW_some] <;> rfl) | (simp [*, errW_none, errW_some] <;> rfl), by repeat (first | (with_reducible first | exact HB.out | apply below_alloc | apply pw_below_drewN | apply below_drew1) | exact HB.out)⟩

end Go.Proofs.YteokilkcchdeiaaGreatDoor.Q
end
section
namespace Go.Proofs.YteokilkcchdeiaaGreatDoor.X
open Go.RowKit Go.Shelf Go.Proofs.YteokilkcchdeiaaGreatDoor Go.Proofs.YteokilkcchdeiaaGreatDoorW.PrintWords Go.Proofs.YteokilkcchdeiaaGreatDoorW.PrintLast Go.Proofs.YteokilkcchdeiaaGreatDoorW.PrintMore Go.Proofs.YteokilkcchdeiaaGreatDoor.Q
set_option linter.unusedVariables false

set_option maxRecDepth 100000 in
theorem awake_t : lookoutlaw42_awake.f 60 = some true := by decide +kernel
theorem awake_k (k : Nat) : lookoutlaw42_awake.f (60 + k) = some true := more_rounds (g := fun k => lookoutlaw42_awake.f k) lookoutlaw42_awake.mono 60 k _ awake_t

theorem last_eq (s : ByteArray) : ∀ k, k ≤ s.size → Lib.lastIdx s 10 k = Lib.lastOcc s.data.toList [10] k
  | 0, _ => rfl
  | k + 1, h => by
    have ih := last_eq s k (by omega)
    have hg : s.data[k]! = s.data.toList.getD k 0 := by
      rw [List.getD_eq_getElem?_getD, Array.getElem?_toList]
      simp [Array.getElem!_eq_getD, Array.getD_eq_getD_getElem?]
      rfl
    have ho : Lib.occAt s.data.toList [10] k = (s.data.toList.getD k 0 == 10) := by
      unfold Lib.occAt
      have hk : k < s.data.toList.length := by rw [tl_size]; omega
      rw [List.drop_eq_getElem_cons hk, List.getD_eq_getElem?_getD, List.getElem?_eq_getElem hk]
      simp only [List.isPrefixOf, Bool.and_true, Option.getD_some]
      exact Bool.beq_comm
    unfold Lib.lastIdx Lib.lastOcc
    rw [ho, ih, hg]
    by_cases hc : s.data.toList.getD k 0 = 10
    · rw [hc]; rfl
    · have h1 : ((s.data.toList.getD k 0).toNat : Int) ≠ 10 := fun e => hc (UInt8.toNat_inj.1 (by simpa using (by omega : (s.data.toList.getD k 0).toNat = 10)))
      rw [if_neg h1, if_neg (by simpa using hc)]
theorem last_index (s : ByteArray) : Lib.lastIndexByte s 10 = Lib.lastIndex s.data.toList [10] := by
  unfold Lib.lastIndexByte Lib.lastIndex
  rw [last_eq s s.size (Nat.le_refl _), tl_size]
  by_cases h : 1 ≤ s.size
  · rw [if_pos (show [(10 : UInt8)].length ≤ s.size from h), show s.size - [(10 : UInt8)].length + 1 = s.size from Nat.sub_add_cancel h]
  · rw [if_neg (show ¬ [(10 : UInt8)].length ≤ s.size from h), show s.size = 0 by omega]; rfl
theorem line_f (k : Nat) (s : ByteArray) (i : Nat) (hi : i ≤ s.size) (hs : s.size ≤ 600) : lexer_Line.f (k + 1) s i = some (((Lib.countByte (s.extract 0 i).data.toList 10 : Nat) : Int) + 1, (i : Int) - Lib.lastIndexByte (s.extract 0 i) 10) := by
  have hz : (s.extract 0 i).size = i := by rw [Lib.extract_upto, ← tl_size]; show (s.data.toList.take i).length = i; rw [List.length_take, tl_size]; omega
  have hb : -1 ≤ Lib.lastIndexByte (s.extract 0 i) 10 ∧ Lib.lastIndexByte (s.extract 0 i) 10 < 1000 := by
    rcases Lib.lastIndexByte_spec (s.extract 0 i) 10 with ⟨h, _⟩ | ⟨j, hj, h, _⟩
    · rw [h]; omega
    · rw [h]; omega
  have hc : Lib.countByte (s.extract 0 i).data.toList 10 ≤ 600 := by
    have := List.count_le_length (a := (10 : UInt8)) (l := (s.extract 0 i).data.toList)
    rw [tl_size, hz] at this
    exact Nat.le_trans this (by omega)
  unfold lexer_Line.f
  rw [if_neg (by omega), show decide ((i : Int) > (s.size : Int)) = false from decide_eq_false (by omega)]
  unfold lexer_Line.j0
  dsimp only
  rw [if_neg Bool.false_ne_true, if_pos (show (0 : Int) ≤ i by omega), if_pos (show (i : Int) ≤ s.size by omega), Int.toNat_natCast]
  unfold strings_Count.f strings_LastIndexByte.f
  rw [show (⟨#[10]⟩ : ByteArray).data.toList = [10] from rfl]
  dsimp only
  rw [if_pos (by omega), Option.bind_some, Option.bind_some]
  rw [w64 (by omega) (by omega), w64 (by omega) (by omega)]
theorem line_far (k : Nat) (s : ByteArray) (i : Int) (hi : i < 0 ∨ (s.size : Int) < i) : lexer_Line.f (k + 1) s i = some (0, 0) := by
  unfold lexer_Line.f
  by_cases h : i < 0
  · rw [if_pos h]; rfl
  · rw [if_neg h, show decide (i > (s.size : Int)) = true from decide_eq_true (by omega)]; rfl
/-- THE LAW. -/
theorem lines_t (s : ByteArray) (at_ : Int) (h0 : 0 ≤ at_) (h1 : at_ ≤ 65535) : lookoutlaw42_LexerLines.f 62 s at_ = some true := by
  unfold lookoutlaw42_LexerLines.f
  by_cases hs : (s.size : Int) > 600
  · rw [if_pos hs, awake_k 2]; rfl
  · rw [if_neg hs, w64 (n := (s.size : Int) + 1) (by omega) (by omega), if_neg (by omega), w64 (n := at_) (by omega) (by omega)]
    obtain ⟨i, hi, hi2⟩ : ∃ i : Nat, Int.tmod at_ ((s.size : Int) + 1) = (i : Int) ∧ i ≤ s.size := by
      rw [Int.tmod_eq_emod_of_nonneg h0]
      have h2 := Int.emod_nonneg at_ (show (s.size : Int) + 1 ≠ 0 by omega)
      have h3 := Int.emod_lt_of_pos at_ (show 0 < (s.size : Int) + 1 by omega)
      exact ⟨(at_ % ((s.size : Int) + 1)).toNat, by omega, by omega⟩
    have hz : (s.extract 0 i).size = i := by rw [Lib.extract_upto, ← tl_size]; show (s.data.toList.take i).length = i; rw [List.length_take, tl_size]; omega
    rw [hi, line_f 61 s i hi2 (by omega), Option.bind_some]
    dsimp only
    rw [if_pos (show (0 : Int) ≤ i by omega), if_pos (show (i : Int) ≤ s.size by omega), Int.toNat_natCast]
    have hb : -1 ≤ Lib.lastIndexByte (s.extract 0 i) 10 ∧ Lib.lastIndexByte (s.extract 0 i) 10 < 1000 := by
      rcases Lib.lastIndexByte_spec (s.extract 0 i) 10 with ⟨h, _⟩ | ⟨j, hj, h, _⟩
      · rw [h]; omega
      · rw [h]; omega
    have hc : Lib.countByte (s.extract 0 i).data.toList 10 ≤ 600 := by
      have := List.count_le_length (a := (10 : UInt8)) (l := (s.extract 0 i).data.toList)
      rw [tl_size, hz] at this
      exact Nat.le_trans this (by omega)
    unfold strings_Count.f strings_LastIndex.f
    rw [show (⟨#[10]⟩ : ByteArray).data.toList = [10] from rfl]
    dsimp only
    rw [Option.bind_some, w64 (by omega) (by omega), if_pos (by omega), if_pos (by omega), Option.bind_some, ← last_index, w64 (by omega) (by omega)]
    rw [show (((i : Int) - Lib.lastIndexByte (s.extract 0 i) 10) != ((i : Int) - Lib.lastIndexByte (s.extract 0 i) 10)) = false from by simp]
    unfold lookoutlaw42_LexerLines.j0
    dsimp only
    rw [if_neg Bool.false_ne_true, w64 (n := (s.size : Int) + 1) (by omega) (by omega), line_far 60 s _ (.inr (by omega)), Option.bind_some, line_far 60 s _ (.inl (by decide)), Option.bind_some]
    dsimp only
    rw [if_pos rfl, if_pos rfl, awake_k 1]
    rfl
end Go.Proofs.YteokilkcchdeiaaGreatDoor.X
end
