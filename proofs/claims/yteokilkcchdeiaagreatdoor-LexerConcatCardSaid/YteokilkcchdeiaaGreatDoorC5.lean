/- What the proofs of the lexer's laws share, part 5 of 5. -/
import Derived.Test.YteokilkcchdeiaaGreatDoorC1
import Derived.Test.YteokilkcchdeiaaGreatDoorC3
import Derived.Test.YteokilkcchdeiaaGreatDoorC4
import Derived.Lib.ItoaMem
set_option linter.unusedVariables false
set_option linter.unusedSimpArgs false
section
namespace Go.Proofs.YteokilkcchdeiaaGreatDoor.Q
open Go.Proofs.YteokilkcchdeiaaGreatDoor
open Go.Proofs.YteokilkcchdeiaaGreatDoor.X
open Go.RowKit Go.Proofs.YteokilkcchdeiaaGreatDoorW.PrintWords Go.Proofs.YteokilkcchdeiaaGreatDoorW.PrintLast Go.Proofs.YteokilkcchdeiaaGreatDoorW.PrintMore
attribute [local go_sem] max2_int min2_int max_two min_two max_three min_three max_four min_four   -- for this text's walks alone
set_option linter.unusedVariables false
set_option linter.unusedSimpArgs false
attribute [local go_sem high] eqA29
def lookoutlaw42_awake.f (k : Nat)  : Option (Bool) := (lexer_Tokens.f (⟨#[114, 97, 116, 101, 40, 120, 91, 49, 104, 51, 48, 109, 93, 41, 32, 62, 32, 48, 46, 53, 32, 35, 32, 104, 97, 108, 102]⟩ : ByteArray)).bind fun bt114 => ((lexer_Duration.f 90500).bind fun bt119 => (if bt114.2.2 = 0 then (if bt119.2 = 0 then (if (bt114.1.length : Int) = 10 then (if 4 < (bt114.1.length : Int) then (if (((rd_T29 bt114.1 4).f0) == 3 && ((((rd_T29 bt114.1 4).f1).toList) == ([49, 104, 51, 48, 109] : List UInt8) && ((((rd_T29 bt114.1 4).f2.f0) == 5400000 && (((rd_T29 bt114.1 4).f2.f1) == 1)) && (((rd_T29 bt114.1 4).f3) == 7)))) = true then (if 8 < (bt114.1.length : Int) then (if (((rd_T29 bt114.1 8).f0) == 2 && ((((rd_T29 bt114.1 8).f1).toList) == ([48, 46, 53] : List UInt8) && ((((rd_T29 bt114.1 8).f2.f0) == 1 && (((rd_T29 bt114.1 8).f2.f1) == 2)) && (((rd_T29 bt114.1 8).f3) == 17)))) = true then (if 9 < (bt114.1.length : Int) then (if (((rd_T29 bt114.1 9).f0) == 0 && ((((rd_T29 bt114.1 9).f1).toList) == ([] : List UInt8) && ((((rd_T29 bt114.1 9).f2.f0) == 0 && (((rd_T29 bt114.1 9).f2.f1) == 0)) && (((rd_T29 bt114.1 9).f3) == 27)))) = true then ((lexer_Number.f k 9 10).bind fun t124 => (if t124.toList = ([48, 46, 57] : List UInt8) then ((lexer_Number.f k (-1) 3).bind fun t125 => (if t125.toList = ([45, 49, 47, 51] : List UInt8) then (some (bt119.1.toList == ([49, 109, 51, 48, 115, 53, 48, 48, 109, 115] : List UInt8))) else (some false))) else (some false))) else (some false)) else (none)) else (some false)) else (none)) else (some false)) else (none)) else (some false)) else (some false)) else (some false)))
theorem lookoutlaw42_awake.mono : ∀ k, LeO (lookoutlaw42_awake.f k ) (lookoutlaw42_awake.f (k + 1) ) := by
  intro  k
  unfold lookoutlaw42_awake.f
  repeat' first
      | (with_reducible exact lexer_Number.mono _ _ _)
      | (with_reducible exact LeO.refl _)
      | (with_reducible exact LeO.none _)
      | (with_reducible refine LeO.ite ?_ ?_)
      | (with_reducible refine LeO.bind ?_ (fun _ => ?_))
      | exact lexer_Number.mono _ _ _
      | exact LeO.none _
      | refine LeO.ite ?_ ?_
      | refine LeO.bind ?_ (fun _ => ?_)
set_option maxHeartbeats 8000000 in
set_option maxRecDepth 100000 in
theorem lookoutlaw42_awake.calls (k : Nat)  (r : Bool) (w : World) (hT : Tabs w) (h : lookoutlaw42_awake.f k  = some r) :
    Calls Tryz.prog 11 #[] w fun e w' => e = .returned (.bool r) ∧ Below w.heap.size w w' := by
  have hu29 := Tryz.underlying29
  have hu27 := Tryz.underlying27
  have HT := Aside0.mk hT
  clear hT
  have HB := Aside0.mk (Below.refl w.heap.size w)
  have H : ((lexer_Tokens.f (⟨#[114, 97, 116, 101, 40, 120, 91, 49, 104, 51, 48, 109, 93, 41, 32, 62, 32, 48, 46, 53, 32, 35, 32, 104, 97, 108, 102]⟩ : ByteArray)).bind fun bt114 => ((lexer_Duration.f 90500).bind fun bt119 => (if bt114.2.2 = 0 then (if bt119.2 = 0 then (if (bt114.1.length : Int) = 10 then (if 4 < (bt114.1.length : Int) then (if (((rd_T29 bt114.1 4).f0) == 3 && ((((rd_T29 bt114.1 4).f1).toList) == ([49, 104, 51, 48, 109] : List UInt8) && ((((rd_T29 bt114.1 4).f2.f0) == 5400000 && (((rd_T29 bt114.1 4).f2.f1) == 1)) && (((rd_T29 bt114.1 4).f3) == 7)))) = true then (if 8 < (bt114.1.length : Int) then (if (((rd_T29 bt114.1 8).f0) == 2 && ((((rd_T29 bt114.1 8).f1).toList) == ([48, 46, 53] : List UInt8) && ((((rd_T29 bt114.1 8).f2.f0) == 1 && (((rd_T29 bt114.1 8).f2.f1) == 2)) && (((rd_T29 bt114.1 8).f3) == 17)))) = true then (if 9 < (bt114.1.length : Int) then (if (((rd_T29 bt114.1 9).f0) == 0 && ((((rd_T29 bt114.1 9).f1).toList) == ([] : List UInt8) && ((((rd_T29 bt114.1 9).f2.f0) == 0 && (((rd_T29 bt114.1 9).f2.f1) == 0)) && (((rd_T29 bt114.1 9).f3) == 27)))) = true then ((lexer_Number.f k 9 10).bind fun t124 => (if t124.toList = ([48, 46, 57] : List UInt8) then ((lexer_Number.f k (-1) 3).bind fun t125 => (if t125.toList = ([45, 49, 47, 51] : List UInt8) then (some (bt119.1.toList == ([49, 109, 51, 48, 115, 53, 48, 48, 109, 115] : List UInt8))) else (some false))) else (some false))) else (some false)) else (none)) else (some false)) else (none)) else (some false)) else (none)) else (some false)) else (some false)) else (some false)))) = some r := h
  clear h
  replace H := Option.bind_eq_some_iff.mp H
  obtain ⟨⟨t114, t115, t116⟩, A10, H⟩ := H
  replace H : ((lexer_Duration.f 90500).bind fun bt119 => (if t116 = 0 then (if bt119.2 = 0 then (if (t114.length : Int) = 10 then (if 4 < (t114.length : Int) then (if (((rd_T29 t114 4).f0) == 3 && ((((rd_T29 t114 4).f1).toList) == ([49, 104, 51, 48, 109] : List UInt8) && ((((rd_T29 t114 4).f2.f0) == 5400000 && (((rd_T29 t114 4).f2.f1) == 1)) && (((rd_T29 t114 4).f3) == 7)))) = true then (if 8 < (t114.length : Int) then (if (((rd_T29 t114 8).f0) == 2 && ((((rd_T29 t114 8).f1).toList) == ([48, 46, 53] : List UInt8) && ((((rd_T29 t114 8).f2.f0) == 1 && (((rd_T29 t114 8).f2.f1) == 2)) && (((rd_T29 t114 8).f3) == 17)))) = true then (if 9 < (t114.length : Int) then (if (((rd_T29 t114 9).f0) == 0 && ((((rd_T29 t114 9).f1).toList) == ([] : List UInt8) && ((((rd_T29 t114 9).f2.f0) == 0 && (((rd_T29 t114 9).f2.f1) == 0)) && (((rd_T29 t114 9).f3) == 27)))) = true then ((lexer_Number.f k 9 10).bind fun t124 => (if t124.toList = ([48, 46, 57] : List UInt8) then ((lexer_Number.f k (-1) 3).bind fun t125 => (if t125.toList = ([45, 49, 47, 51] : List UInt8) then (some (bt119.1.toList == ([49, 109, 51, 48, 115, 53, 48, 48, 109, 115] : List UInt8))) else (some false))) else (some false))) else (some false)) else (none)) else (some false)) else (none)) else (some false)) else (none)) else (some false)) else (some false)) else (some false))) = some r := H
  have A1 := Aside0.mk A10
  clear A10
  replace H := Option.bind_eq_some_iff.mp H
  obtain ⟨⟨t119, t120⟩, A20, H⟩ := H
  replace H : (if t116 = 0 then (if t120 = 0 then (if (t114.length : Int) = 10 then (if 4 < (t114.length : Int) then (if (((rd_T29 t114 4).f0) == 3 && ((((rd_T29 t114 4).f1).toList) == ([49, 104, 51, 48, 109] : List UInt8) && ((((rd_T29 t114 4).f2.f0) == 5400000 && (((rd_T29 t114 4).f2.f1) == 1)) && (((rd_T29 t114 4).f3) == 7)))) = true then (if 8 < (t114.length : Int) then (if (((rd_T29 t114 8).f0) == 2 && ((((rd_T29 t114 8).f1).toList) == ([48, 46, 53] : List UInt8) && ((((rd_T29 t114 8).f2.f0) == 1 && (((rd_T29 t114 8).f2.f1) == 2)) && (((rd_T29 t114 8).f3) == 17)))) = true then (if 9 < (t114.length : Int) then (if (((rd_T29 t114 9).f0) == 0 && ((((rd_T29 t114 9).f1).toList) == ([] : List UInt8) && ((((rd_T29 t114 9).f2.f0) == 0 && (((rd_T29 t114 9).f2.f1) == 0)) && (((rd_T29 t114 9).f3) == 27)))) = true then ((lexer_Number.f k 9 10).bind fun t124 => (if t124.toList = ([48, 46, 57] : List UInt8) then ((lexer_Number.f k (-1) 3).bind fun t125 => (if t125.toList = ([45, 49, 47, 51] : List UInt8) then (some (t119.toList == ([49, 109, 51, 48, 115, 53, 48, 48, 109, 115] : List UInt8))) else (some false))) else (some false))) else (some false)) else (none)) else (some false)) else (none)) else (some false)) else (none)) else (some false)) else (some false)) else (some false)) = some r := H
  have A2 := Aside0.mk A20
  clear A20
  by_cases c3 : t116 = 0
  · rw [if_pos c3] at H
    have c3b0 : (t116 == 0) = true := beq_iff_eq.mpr c3
    have c3b1 : (t116 != 0) = false := bne_eq_false_iff_eq.mpr c3
    clear c3
    by_cases c4 : t120 = 0
    · rw [if_pos c4] at H
      have c4b0 : (t120 == 0) = true := beq_iff_eq.mpr c4
      have c4b1 : (t120 != 0) = false := bne_eq_false_iff_eq.mpr c4
      clear c4
      by_cases c5 : (t114.length : Int) = 10
      · rw [if_pos c5] at H
        have c5b0 : ((t114.length : Int) == 10) = true := beq_iff_eq.mpr c5
        have c5b1 : ((t114.length : Int) != 10) = false := bne_eq_false_iff_eq.mpr c5
        clear c5
        by_cases c6 : 4 < (t114.length : Int)
        · rw [if_pos c6] at H
          have c6b0 : decide (4 < (t114.length : Int)) = true := decide_eq_true c6
          have c6b1 : decide (4 < t114.length) = true := decide_eq_true (by omega)
          clear c6
          by_cases c7 : (((rd_T29 t114 4).f0) == 3 && ((((rd_T29 t114 4).f1).toList) == ([49, 104, 51, 48, 109] : List UInt8) && ((((rd_T29 t114 4).f2.f0) == 5400000 && (((rd_T29 t114 4).f2.f1) == 1)) && (((rd_T29 t114 4).f3) == 7)))) = true
          · rw [if_pos c7] at H
            have c7b0 : (((rd_T29 t114 4).f0) == 3 && ((((rd_T29 t114 4).f1).toList) == ([49, 104, 51, 48, 109] : List UInt8) && ((((rd_T29 t114 4).f2.f0) == 5400000 && (((rd_T29 t114 4).f2.f1) == 1)) && (((rd_T29 t114 4).f3) == 7)))) = true := c7
            (try (have c7b1 : decide (((rd_T29 t114 4).f0) = 3 && ((((rd_T29 t114 4).f1).toList) == ([49, 104, 51, 48, 109] : List UInt8) && ((((rd_T29 t114 4).f2.f0) == 5400000 && (((rd_T29 t114 4).f2.f1) == 1)) && (((rd_T29 t114 4).f3) == 7)))) = true := by simpa using c7))
            (try (have c7b2 : (((rd_T29 t114 4).f0) == 3 && ((((rd_T29 t114 4).f1).toList) == ([49, 104, 51, 48, 109] : List UInt8) && ((((rd_T29 t114 4).f2.f0) == 5400000 && (((rd_T29 t114 4).f2.f1) == 1)) && (((rd_T29 t114 4).f3) == 7)))) = true := by simpa using c7))
            clear c7
            by_cases c8 : 8 < (t114.length : Int)
            · rw [if_pos c8] at H
              have c8b0 : decide (8 < (t114.length : Int)) = true := decide_eq_true c8
              have c8b1 : decide (8 < t114.length) = true := decide_eq_true (by omega)
              clear c8
              by_cases c9 : (((rd_T29 t114 8).f0) == 2 && ((((rd_T29 t114 8).f1).toList) == ([48, 46, 53] : List UInt8) && ((((rd_T29 t114 8).f2.f0) == 1 && (((rd_T29 t114 8).f2.f1) == 2)) && (((rd_T29 t114 8).f3) == 17)))) = true
              · rw [if_pos c9] at H
                have c9b0 : (((rd_T29 t114 8).f0) == 2 && ((((rd_T29 t114 8).f1).toList) == ([48, 46, 53] : List UInt8) && ((((rd_T29 t114 8).f2.f0) == 1 && (((rd_T29 t114 8).f2.f1) == 2)) && (((rd_T29 t114 8).f3) == 17)))) = true := c9
                (try (have c9b1 : decide (((rd_T29 t114 8).f0) = 2 && ((((rd_T29 t114 8).f1).toList) == ([48, 46, 53] : List UInt8) && ((((rd_T29 t114 8).f2.f0) == 1 && (((rd_T29 t114 8).f2.f1) == 2)) && (((rd_T29 t114 8).f3) == 17)))) = true := by simpa using c9))
                (try (have c9b2 : (((rd_T29 t114 8).f0) == 2 && ((((rd_T29 t114 8).f1).toList) == ([48, 46, 53] : List UInt8) && ((((rd_T29 t114 8).f2.f0) == 1 && (((rd_T29 t114 8).f2.f1) == 2)) && (((rd_T29 t114 8).f3) == 17)))) = true := by simpa using c9))
                clear c9
                by_cases c10 : 9 < (t114.length : Int)
                · rw [if_pos c10] at H
                  have c10b0 : decide (9 < (t114.length : Int)) = true := decide_eq_true c10
                  have c10b1 : decide (9 < t114.length) = true := decide_eq_true (by omega)
                  clear c10
                  by_cases c11 : (((rd_T29 t114 9).f0) == 0 && ((((rd_T29 t114 9).f1).toList) == ([] : List UInt8) && ((((rd_T29 t114 9).f2.f0) == 0 && (((rd_T29 t114 9).f2.f1) == 0)) && (((rd_T29 t114 9).f3) == 27)))) = true
                  · rw [if_pos c11] at H
                    have c11b0 : (((rd_T29 t114 9).f0) == 0 && ((((rd_T29 t114 9).f1).toList) == ([] : List UInt8) && ((((rd_T29 t114 9).f2.f0) == 0 && (((rd_T29 t114 9).f2.f1) == 0)) && (((rd_T29 t114 9).f3) == 27)))) = true := c11
                    (try (have c11b1 : decide (((rd_T29 t114 9).f0) = 0 && ((((rd_T29 t114 9).f1).toList) == ([] : List UInt8) && ((((rd_T29 t114 9).f2.f0) == 0 && (((rd_T29 t114 9).f2.f1) == 0)) && (((rd_T29 t114 9).f3) == 27)))) = true := by simpa using c11))
                    (try (have c11b2 : (((rd_T29 t114 9).f0) == 0 && ((((rd_T29 t114 9).f1).toList) == ([] : List UInt8) && ((((rd_T29 t114 9).f2.f0) == 0 && (((rd_T29 t114 9).f2.f1) == 0)) && (((rd_T29 t114 9).f3) == 27)))) = true := by simpa using c11))
                    have c11b9 := c11b0; simp only [Bool.and_eq_true, beq_iff_eq] at c11b9
                    clear c11
                    replace H := Option.bind_eq_some_iff.mp H
                    obtain ⟨t124, A120, H⟩ := H
                    replace H : (if t124.toList = ([48, 46, 57] : List UInt8) then ((lexer_Number.f k (-1) 3).bind fun t125 => (if t125.toList = ([45, 49, 47, 51] : List UInt8) then (some (t119.toList == ([49, 109, 51, 48, 115, 53, 48, 48, 109, 115] : List UInt8))) else (some false))) else (some false)) = some r := H
                    have A12 := Aside0.mk A120
                    clear A120
                    by_cases c13 : t124.toList = ([48, 46, 57] : List UInt8)
                    · rw [if_pos c13] at H
                      have c13b0 : (t124.toList == ([48, 46, 57] : List UInt8)) = true := beq_iff_eq.mpr c13
                      have c13b1 : (t124.toList != ([48, 46, 57] : List UInt8)) = false := bne_eq_false_iff_eq.mpr c13
                      clear c13
                      replace H := Option.bind_eq_some_iff.mp H
                      obtain ⟨t125, A140, H⟩ := H
                      replace H : (if t125.toList = ([45, 49, 47, 51] : List UInt8) then (some (t119.toList == ([49, 109, 51, 48, 115, 53, 48, 48, 109, 115] : List UInt8))) else (some false)) = some r := H
                      have A14 := Aside0.mk A140
                      clear A140
                      by_cases c15 : t125.toList = ([45, 49, 47, 51] : List UInt8)
                      · rw [if_pos c15] at H
                        have c15b0 : (t125.toList == ([45, 49, 47, 51] : List UInt8)) = true := beq_iff_eq.mpr c15
                        have c15b1 : (t125.toList != ([45, 49, 47, 51] : List UInt8)) = false := bne_eq_false_iff_eq.mpr c15
                        clear c15
                        obtain rfl := Option.some.inj H
                        go_enter Tryz.func11, Tryz.ntmps11
                        go_wp2_with (first | ((with_reducible refine gate_callee (f := 17) rfl ?_); refine goesL_ (some 7) rfl rfl Tryz.func17 (by kernel_rfl) rfl #[.string (⟨#[114, 97, 116, 101, 40, 120, 91, 49, 104, 51, 48, 109, 93, 41, 32, 62, 32, 48, 46, 53, 32, 35, 32, 104, 97, 108, 102]⟩ : ByteArray)] rfl (by (try simp only [List.map_toArray, List.map_cons, List.map_nil]); first | done | rfl | (simp only [List.length_drop, List.length_take]; rfl)) ?_; (with_reducible refine (lexer_Tokens.calls (⟨#[114, 97, 116, 101, 40, 120, 91, 49, 104, 51, 48, 109, 93, 41, 32, 62, 32, 48, 46, 53, 32, 35, 32, 104, 97, 108, 102]⟩ : ByteArray) t114 t115 t116 _ ?side1 A1.out).mono ?_); (case side1 => exact Tabs.below HT.out (by repeat (first | (with_reducible first | exact HB.out | apply below_alloc | apply pw_below_drewN | apply below_drew1) | exact HB.out))); rintro e w16 ⟨v117, rfl, ho0, hb⟩; refine ⟨_, rfl, ?_⟩; have n0_ := Aside0.mk (Kd.R_lower ho0 (below_size (by repeat (first | (with_reducible first | exact HB.out | apply below_alloc | apply pw_below_drewN | apply below_drew1) | exact HB.out)))); have n1_ := Aside0.mk (below_step (by repeat (first | (with_reducible first | exact HB.out | apply below_alloc | apply pw_below_drewN | apply below_drew1) | exact HB.out)) hb); clear HB; have HO118 := n0_; have HB := n1_; clear n0_ n1_; (try clear hb); (try clear hb2); (try clear hk); (try clear hi); (try clear ho0)) | ((with_reducible refine gate_callee (f := 10) rfl ?_); refine goesL_ (some 12) rfl rfl Tryz.func10 (by kernel_rfl) rfl #[.int .i64 90500] rfl (by (try simp only [List.map_toArray, List.map_cons, List.map_nil]); first | done | rfl | (simp only [List.length_drop, List.length_take]; rfl)) ?_; (with_reducible refine (lexer_Duration.calls 90500 t119 t120 _ ?side1 A2.out).mono ?_); (case side1 => exact Tabs.below HT.out (by repeat (first | (with_reducible first | exact HB.out | apply below_alloc | apply pw_below_drewN | apply below_drew1) | exact HB.out))); rintro e w17 ⟨rfl, hb⟩; refine ⟨_, rfl, ?_⟩; have n0_ := Aside0.mk (Kd.R_below (by (with_reducible repeat (first | apply Kd.R_alloc | apply Kd.R_drewN | apply Kd.R_drew)); exact HO118.out) hb); have n1_ := Aside0.mk (below_step (by repeat (first | (with_reducible first | exact HB.out | apply below_alloc | apply pw_below_drewN | apply below_drew1) | exact HB.out)) hb); clear HO118; clear HB; have HO118 := n0_; have HB := n1_; clear n0_ n1_; (try clear hb); (try clear hb2); (try clear hk); (try clear hi); obtain ⟨Ao18, co18, eo18⟩ := Kd.R_slice HO118.out; subst eo18; have p121 : 0 ≤ (4 : Int) := (by omega); have q121 : 4 < (t114.length : Int) := of_decide_eq_true (by first | (with_reducible assumption) | assumption); obtain ⟨ad121, e121, hx121_0, hx121_1, hx121_2, hx121_3, hx121_4⟩ := at_T29 (Kd.R_reads' HO118.out).2.2 4 p121 q121; cases e121; (try simp only [show (4 : Int).toNat = 4 from rfl, Nat.reduceMul, Nat.reduceEqDiff, Go.Addr.add, ↓reduceIte] at hx121_0); (try simp only [show (4 : Int).toNat = 4 from rfl, Nat.reduceMul, Nat.reduceEqDiff, Go.Addr.add, ↓reduceIte] at hx121_1); (try simp only [show (4 : Int).toNat = 4 from rfl, Nat.reduceMul, Nat.reduceEqDiff, Go.Addr.add, ↓reduceIte] at hx121_2); (try simp only [show (4 : Int).toNat = 4 from rfl, Nat.reduceMul, Nat.reduceEqDiff, Go.Addr.add, ↓reduceIte] at hx121_3); (try simp only [show (4 : Int).toNat = 4 from rfl, Nat.reduceMul, Nat.reduceEqDiff, Go.Addr.add, ↓reduceIte] at hx121_4); have qi121 : (4 < t114.length) = True := eq_true (by omega); (try rw [show ((4 : Int)).toNat = 4 from rfl] at hx121_0); (try rw [show 4 * 5 = 20 from rfl] at hx121_0); (try rw [show ((4 : Int)).toNat = 4 from rfl] at hx121_1); (try rw [show 4 * 5 = 20 from rfl] at hx121_1); (try rw [show ((4 : Int)).toNat = 4 from rfl] at hx121_2); (try rw [show 4 * 5 = 20 from rfl] at hx121_2); (try rw [show ((4 : Int)).toNat = 4 from rfl] at hx121_3); (try rw [show 4 * 5 = 20 from rfl] at hx121_3); (try rw [show ((4 : Int)).toNat = 4 from rfl] at hx121_4); (try rw [show 4 * 5 = 20 from rfl] at hx121_4); replace p121 := eq_true p121; replace q121 := eq_true q121; have p122 : 0 ≤ (8 : Int) := (by omega); have q122 : 8 < (t114.length : Int) := of_decide_eq_true (by first | (with_reducible assumption) | assumption); obtain ⟨ad122, e122, hx122_0, hx122_1, hx122_2, hx122_3, hx122_4⟩ := at_T29 (Kd.R_reads' HO118.out).2.2 8 p122 q122; obtain rfl : ad121 = ad122 := (by injection e122); (try simp only [show (8 : Int).toNat = 8 from rfl, Nat.reduceMul, Nat.reduceEqDiff, Go.Addr.add, ↓reduceIte] at hx122_0); (try simp only [show (8 : Int).toNat = 8 from rfl, Nat.reduceMul, Nat.reduceEqDiff, Go.Addr.add, ↓reduceIte] at hx122_1); (try simp only [show (8 : Int).toNat = 8 from rfl, Nat.reduceMul, Nat.reduceEqDiff, Go.Addr.add, ↓reduceIte] at hx122_2); (try simp only [show (8 : Int).toNat = 8 from rfl, Nat.reduceMul, Nat.reduceEqDiff, Go.Addr.add, ↓reduceIte] at hx122_3); (try simp only [show (8 : Int).toNat = 8 from rfl, Nat.reduceMul, Nat.reduceEqDiff, Go.Addr.add, ↓reduceIte] at hx122_4); have qi122 : (8 < t114.length) = True := eq_true (by omega); (try rw [show ((8 : Int)).toNat = 8 from rfl] at hx122_0); (try rw [show 8 * 5 = 40 from rfl] at hx122_0); (try rw [show ((8 : Int)).toNat = 8 from rfl] at hx122_1); (try rw [show 8 * 5 = 40 from rfl] at hx122_1); (try rw [show ((8 : Int)).toNat = 8 from rfl] at hx122_2); (try rw [show 8 * 5 = 40 from rfl] at hx122_2); (try rw [show ((8 : Int)).toNat = 8 from rfl] at hx122_3); (try rw [show 8 * 5 = 40 from rfl] at hx122_3); (try rw [show ((8 : Int)).toNat = 8 from rfl] at hx122_4); (try rw [show 8 * 5 = 40 from rfl] at hx122_4); replace p122 := eq_true p122; replace q122 := eq_true q122; have p123 : 0 ≤ (9 : Int) := (by omega); have q123 : 9 < (t114.length : Int) := of_decide_eq_true (by first | (with_reducible assumption) | assumption); obtain ⟨ad123, e123, hx123_0, hx123_1, hx123_2, hx123_3, hx123_4⟩ := at_T29 (Kd.R_reads' HO118.out).2.2 9 p123 q123; obtain rfl : ad121 = ad123 := (by injection e123); (try simp only [show (9 : Int).toNat = 9 from rfl, Nat.reduceMul, Nat.reduceEqDiff, Go.Addr.add, ↓reduceIte] at hx123_0); (try simp only [show (9 : Int).toNat = 9 from rfl, Nat.reduceMul, Nat.reduceEqDiff, Go.Addr.add, ↓reduceIte] at hx123_1); (try simp only [show (9 : Int).toNat = 9 from rfl, Nat.reduceMul, Nat.reduceEqDiff, Go.Addr.add, ↓reduceIte] at hx123_2); (try simp only [show (9 : Int).toNat = 9 from rfl, Nat.reduceMul, Nat.reduceEqDiff, Go.Addr.add, ↓reduceIte] at hx123_3); (try simp only [show (9 : Int).toNat = 9 from rfl, Nat.reduceMul, Nat.reduceEqDiff, Go.Addr.add, ↓reduceIte] at hx123_4); have qi123 : (9 < t114.length) = True := eq_true (by omega); (try rw [show ((9 : Int)).toNat = 9 from rfl] at hx123_0); (try rw [show 9 * 5 = 45 from rfl] at hx123_0); (try rw [show ((9 : Int)).toNat = 9 from rfl] at hx123_1); (try rw [show 9 * 5 = 45 from rfl] at hx123_1); (try rw [show ((9 : Int)).toNat = 9 from rfl] at hx123_2); (try rw [show 9 * 5 = 45 from rfl] at hx123_2); (try rw [show ((9 : Int)).toNat = 9 from rfl] at hx123_3); (try rw [show 9 * 5 = 45 from rfl] at hx123_3); (try rw [show ((9 : Int)).toNat = 9 from rfl] at hx123_4); (try rw [show 9 * 5 = 45 from rfl] at hx123_4); replace p123 := eq_true p123; replace q123 := eq_true q123) | (go_at_call 13; (with_reducible refine (lexer_Number.calls k 9 10 t124 _ ?side1 A12.out).mono ?_); (case side1 => exact Tabs.below HT.out (by repeat (first | (with_reducible first | exact HB.out | apply below_alloc | apply pw_below_drewN | apply below_drew1) | exact HB.out))); rintro e w19 ⟨rfl, hb⟩; have n0_ := Aside0.mk (Kd.R_below (by (with_reducible repeat (first | apply Kd.R_alloc | apply Kd.R_drewN | apply Kd.R_drew)); exact HO118.out) hb); have n1_ := Aside0.mk (below_step (by repeat (first | (with_reducible first | exact HB.out | apply below_alloc | apply pw_below_drewN | apply below_drew1) | exact HB.out)) hb); clear HO118; clear HB; have HO118 := n0_; have HB := n1_; clear n0_ n1_; (try clear hb); (try clear hb2); (try clear hk); (try clear hi)) | (go_at_call 13; (with_reducible refine (lexer_Number.calls k (-1) 3 t125 _ ?side1 A14.out).mono ?_); (case side1 => exact Tabs.below HT.out (by repeat (first | (with_reducible first | exact HB.out | apply below_alloc | apply pw_below_drewN | apply below_drew1) | exact HB.out))); rintro e w20 ⟨rfl, hb⟩; have n0_ := Aside0.mk (Kd.R_below (by (with_reducible repeat (first | apply Kd.R_alloc | apply Kd.R_drewN | apply Kd.R_drew)); exact HO118.out) hb); have n1_ := Aside0.mk (below_step (by repeat (first | (with_reducible first | exact HB.out | apply below_alloc | apply pw_below_drewN | apply below_drew1) | exact HB.out)) hb); clear HO118; clear HB; have HO118 := n0_; have HB := n1_; clear n0_ n1_; (try clear hb); (try clear hb2); (try clear hk); (try clear hi)))
                        go_ret
                        exact ⟨by first | rfl | (simp [errW_none, errW_some] <;> rfl) | (simp [*, errW_none, errW_some] <;> rfl), by repeat (first | (with_reducible first | exact HB.out | apply below_alloc | apply pw_below_drewN | apply below_drew1) | exact HB.out)⟩
                      · rw [if_neg c15] at H
                        have c15b0 : (t125.toList == ([45, 49, 47, 51] : List UInt8)) = false := beq_eq_false_iff_ne.mpr c15
                        have c15b1 : (t125.toList != ([45, 49, 47, 51] : List UInt8)) = true := bne_iff_ne.mpr c15
                        obtain rfl := Option.some.inj H
                        go_enter Tryz.func11, Tryz.ntmps11
                        go_wp2_with (first | ((with_reducible refine gate_callee (f := 17) rfl ?_); refine goesL_ (some 7) rfl rfl Tryz.func17 (by kernel_rfl) rfl #[.string (⟨#[114, 97, 116, 101, 40, 120, 91, 49, 104, 51, 48, 109, 93, 41, 32, 62, 32, 48, 46, 53, 32, 35, 32, 104, 97, 108, 102]⟩ : ByteArray)] rfl (by (try simp only [List.map_toArray, List.map_cons, List.map_nil]); first | done | rfl | (simp only [List.length_drop, List.length_take]; rfl)) ?_; (with_reducible refine (lexer_Tokens.calls (⟨#[114, 97, 116, 101, 40, 120, 91, 49, 104, 51, 48, 109, 93, 41, 32, 62, 32, 48, 46, 53, 32, 35, 32, 104, 97, 108, 102]⟩ : ByteArray) t114 t115 t116 _ ?side1 A1.out).mono ?_); (case side1 => exact Tabs.below HT.out (by repeat (first | (with_reducible first | exact HB.out | apply below_alloc | apply pw_below_drewN | apply below_drew1) | exact HB.out))); rintro e w21 ⟨v117, rfl, ho0, hb⟩; refine ⟨_, rfl, ?_⟩; have n0_ := Aside0.mk (Kd.R_lower ho0 (below_size (by repeat (first | (with_reducible first | exact HB.out | apply below_alloc | apply pw_below_drewN | apply below_drew1) | exact HB.out)))); have n1_ := Aside0.mk (below_step (by repeat (first | (with_reducible first | exact HB.out | apply below_alloc | apply pw_below_drewN | apply below_drew1) | exact HB.out)) hb); clear HB; have HO118 := n0_; have HB := n1_; clear n0_ n1_; (try clear hb); (try clear hb2); (try clear hk); (try clear hi); (try clear ho0)) | ((with_reducible refine gate_callee (f := 10) rfl ?_); refine goesL_ (some 12) rfl rfl Tryz.func10 (by kernel_rfl) rfl #[.int .i64 90500] rfl (by (try simp only [List.map_toArray, List.map_cons, List.map_nil]); first | done | rfl | (simp only [List.length_drop, List.length_take]; rfl)) ?_; (with_reducible refine (lexer_Duration.calls 90500 t119 t120 _ ?side1 A2.out).mono ?_); (case side1 => exact Tabs.below HT.out (by repeat (first | (with_reducible first | exact HB.out | apply below_alloc | apply pw_below_drewN | apply below_drew1) | exact HB.out))); rintro e w22 ⟨rfl, hb⟩; refine ⟨_, rfl, ?_⟩; have n0_ := Aside0.mk (Kd.R_below (by (with_reducible repeat (first | apply Kd.R_alloc | apply Kd.R_drewN | apply Kd.R_drew)); exact HO118.out) hb); have n1_ := Aside0.mk (below_step (by repeat (first | (with_reducible first | exact HB.out | apply below_alloc | apply pw_below_drewN | apply below_drew1) | exact HB.out)) hb); clear HO118; clear HB; have HO118 := n0_; have HB := n1_; clear n0_ n1_; (try clear hb); (try clear hb2); (try clear hk); (try clear hi); obtain ⟨Ao23, co23, eo23⟩ := Kd.R_slice HO118.out; subst eo23; have p121 : 0 ≤ (4 : Int) := (by omega); have q121 : 4 < (t114.length : Int) := of_decide_eq_true (by first | (with_reducible assumption) | assumption); obtain ⟨ad121, e121, hx121_0, hx121_1, hx121_2, hx121_3, hx121_4⟩ := at_T29 (Kd.R_reads' HO118.out).2.2 4 p121 q121; cases e121; (try simp only [show (4 : Int).toNat = 4 from rfl, Nat.reduceMul, Nat.reduceEqDiff, Go.Addr.add, ↓reduceIte] at hx121_0); (try simp only [show (4 : Int).toNat = 4 from rfl, Nat.reduceMul, Nat.reduceEqDiff, Go.Addr.add, ↓reduceIte] at hx121_1); (try simp only [show (4 : Int).toNat = 4 from rfl, Nat.reduceMul, Nat.reduceEqDiff, Go.Addr.add, ↓reduceIte] at hx121_2); (try simp only [show (4 : Int).toNat = 4 from rfl, Nat.reduceMul, Nat.reduceEqDiff, Go.Addr.add, ↓reduceIte] at hx121_3); (try simp only [show (4 : Int).toNat = 4 from rfl, Nat.reduceMul, Nat.reduceEqDiff, Go.Addr.add, ↓reduceIte] at hx121_4); have qi121 : (4 < t114.length) = True := eq_true (by omega); (try rw [show ((4 : Int)).toNat = 4 from rfl] at hx121_0); (try rw [show 4 * 5 = 20 from rfl] at hx121_0); (try rw [show ((4 : Int)).toNat = 4 from rfl] at hx121_1); (try rw [show 4 * 5 = 20 from rfl] at hx121_1); (try rw [show ((4 : Int)).toNat = 4 from rfl] at hx121_2); (try rw [show 4 * 5 = 20 from rfl] at hx121_2); (try rw [show ((4 : Int)).toNat = 4 from rfl] at hx121_3); (try rw [show 4 * 5 = 20 from rfl] at hx121_3); (try rw [show ((4 : Int)).toNat = 4 from rfl] at hx121_4); (try rw [show 4 * 5 = 20 from rfl] at hx121_4); replace p121 := eq_true p121; replace q121 := eq_true q121; have p122 : 0 ≤ (8 : Int) := (by omega); have q122 : 8 < (t114.length : Int) := of_decide_eq_true (by first | (with_reducible assumption) | assumption); obtain ⟨ad122, e122, hx122_0, hx122_1, hx122_2, hx122_3, hx122_4⟩ := at_T29 (Kd.R_reads' HO118.out).2.2 8 p122 q122; obtain rfl : ad121 = ad122 := (by injection e122); (try simp only [show (8 : Int).toNat = 8 from rfl, Nat.reduceMul, Nat.reduceEqDiff, Go.Addr.add, ↓reduceIte] at hx122_0); (try simp only [show (8 : Int).toNat = 8 from rfl, Nat.reduceMul, Nat.reduceEqDiff, Go.Addr.add, ↓reduceIte] at hx122_1); (try simp only [show (8 : Int).toNat = 8 from rfl, Nat.reduceMul, Nat.reduceEqDiff, Go.Addr.add, ↓reduceIte] at hx122_2); (try simp only [show (8 : Int).toNat = 8 from rfl, Nat.reduceMul, Nat.reduceEqDiff, Go.Addr.add, ↓reduceIte] at hx122_3); (try simp only [show (8 : Int).toNat = 8 from rfl, Nat.reduceMul, Nat.reduceEqDiff, Go.Addr.add, ↓reduceIte] at hx122_4); have qi122 : (8 < t114.length) = True := eq_true (by omega); (try rw [show ((8 : Int)).toNat = 8 from rfl] at hx122_0); (try rw [show 8 * 5 = 40 from rfl] at hx122_0); (try rw [show ((8 : Int)).toNat = 8 from rfl] at hx122_1); (try rw [show 8 * 5 = 40 from rfl] at hx122_1); (try rw [show ((8 : Int)).toNat = 8 from rfl] at hx122_2); (try rw [show 8 * 5 = 40 from rfl] at hx122_2); (try rw [show ((8 : Int)).toNat = 8 from rfl] at hx122_3); (try rw [show 8 * 5 = 40 from rfl] at hx122_3); (try rw [show ((8 : Int)).toNat = 8 from rfl] at hx122_4); (try rw [show 8 * 5 = 40 from rfl] at hx122_4); replace p122 := eq_true p122; replace q122 := eq_true q122; have p123 : 0 ≤ (9 : Int) := (by omega); have q123 : 9 < (t114.length : Int) := of_decide_eq_true (by first | (with_reducible assumption) | assumption); obtain ⟨ad123, e123, hx123_0, hx123_1, hx123_2, hx123_3, hx123_4⟩ := at_T29 (Kd.R_reads' HO118.out).2.2 9 p123 q123; obtain rfl : ad121 = ad123 := (by injection e123); (try simp only [show (9 : Int).toNat = 9 from rfl, Nat.reduceMul, Nat.reduceEqDiff, Go.Addr.add, ↓reduceIte] at hx123_0); (try simp only [show (9 : Int).toNat = 9 from rfl, Nat.reduceMul, Nat.reduceEqDiff, Go.Addr.add, ↓reduceIte] at hx123_1); (try simp only [show (9 : Int).toNat = 9 from rfl, Nat.reduceMul, Nat.reduceEqDiff, Go.Addr.add, ↓reduceIte] at hx123_2); (try simp only [show (9 : Int).toNat = 9 from rfl, Nat.reduceMul, Nat.reduceEqDiff, Go.Addr.add, ↓reduceIte] at hx123_3); (try simp only [show (9 : Int).toNat = 9 from rfl, Nat.reduceMul, Nat.reduceEqDiff, Go.Addr.add, ↓reduceIte] at hx123_4); have qi123 : (9 < t114.length) = True := eq_true (by omega); (try rw [show ((9 : Int)).toNat = 9 from rfl] at hx123_0); (try rw [show 9 * 5 = 45 from rfl] at hx123_0); (try rw [show ((9 : Int)).toNat = 9 from rfl] at hx123_1); (try rw [show 9 * 5 = 45 from rfl] at hx123_1); (try rw [show ((9 : Int)).toNat = 9 from rfl] at hx123_2); (try rw [show 9 * 5 = 45 from rfl] at hx123_2); (try rw [show ((9 : Int)).toNat = 9 from rfl] at hx123_3); (try rw [show 9 * 5 = 45 from rfl] at hx123_3); (try rw [show ((9 : Int)).toNat = 9 from rfl] at hx123_4); (try rw [show 9 * 5 = 45 from rfl] at hx123_4); replace p123 := eq_true p123; replace q123 := eq_true q123) | (go_at_call 13; (with_reducible refine (lexer_Number.calls k 9 10 t124 _ ?side1 A12.out).mono ?_); (case side1 => exact Tabs.below HT.out (by repeat (first | (with_reducible first | exact HB.out | apply below_alloc | apply pw_below_drewN | apply below_drew1) | exact HB.out))); rintro e w24 ⟨rfl, hb⟩; have n0_ := Aside0.mk (Kd.R_below (by (with_reducible repeat (first | apply Kd.R_alloc | apply Kd.R_drewN | apply Kd.R_drew)); exact HO118.out) hb); have n1_ := Aside0.mk (below_step (by repeat (first | (with_reducible first | exact HB.out | apply below_alloc | apply pw_below_drewN | apply below_drew1) | exact HB.out)) hb); clear HO118; clear HB; have HO118 := n0_; have HB := n1_; clear n0_ n1_; (try clear hb); (try clear hb2); (try clear hk); (try clear hi)) | (go_at_call 13; (with_reducible refine (lexer_Number.calls k (-1) 3 t125 _ ?side1 A14.out).mono ?_); (case side1 => exact Tabs.below HT.out (by repeat (first | (with_reducible first | exact HB.out | apply below_alloc | apply pw_below_drewN | apply below_drew1) | exact HB.out))); rintro e w25 ⟨rfl, hb⟩; have n0_ := Aside0.mk (Kd.R_below (by (with_reducible repeat (first | apply Kd.R_alloc | apply Kd.R_drewN | apply Kd.R_drew)); exact HO118.out) hb); have n1_ := Aside0.mk (below_step (by repeat (first | (with_reducible first | exact HB.out | apply below_alloc | apply pw_below_drewN | apply below_drew1) | exact HB.out)) hb); clear HO118; clear HB; have HO118 := n0_; have HB := n1_; clear n0_ n1_; (try clear hb); (try clear hb2); (try clear hk); (try clear hi)))
                        go_ret
                        exact ⟨by first | rfl | (simp [errW_none, errW_some] <;> rfl) | (simp [*, errW_none, errW_some] <;> rfl), by repeat (first | (with_reducible first | exact HB.out | apply below_alloc | apply pw_below_drewN | apply below_drew1) | exact HB.out)⟩
                    · rw [if_neg c13] at H
                      have c13b0 : (t124.toList == ([48, 46, 57] : List UInt8)) = false := beq_eq_false_iff_ne.mpr c13
                      have c13b1 : (t124.toList != ([48, 46, 57] : List UInt8)) = true := bne_iff_ne.mpr c13
                      obtain rfl := Option.some.inj H
                      go_enter Tryz.func11, Tryz.ntmps11
                      go_wp2_with (first | ((with_reducible refine gate_callee (f := 17) rfl ?_); refine goesL_ (some 7) rfl rfl Tryz.func17 (by kernel_rfl) rfl #[.string (⟨#[114, 97, 116, 101, 40, 120, 91, 49, 104, 51, 48, 109, 93, 41, 32, 62, 32, 48, 46, 53, 32, 35, 32, 104, 97, 108, 102]⟩ : ByteArray)] rfl (by (try simp only [List.map_toArray, List.map_cons, List.map_nil]); first | done | rfl | (simp only [List.length_drop, List.length_take]; rfl)) ?_; (with_reducible refine (lexer_Tokens.calls (⟨#[114, 97, 116, 101, 40, 120, 91, 49, 104, 51, 48, 109, 93, 41, 32, 62, 32, 48, 46, 53, 32, 35, 32, 104, 97, 108, 102]⟩ : ByteArray) t114 t115 t116 _ ?side1 A1.out).mono ?_); (case side1 => exact Tabs.below HT.out (by repeat (first | (with_reducible first | exact HB.out | apply below_alloc | apply pw_below_drewN | apply below_drew1) | exact HB.out))); rintro e w26 ⟨v117, rfl, ho0, hb⟩; refine ⟨_, rfl, ?_⟩; have n0_ := Aside0.mk (Kd.R_lower ho0 (below_size (by repeat (first | (with_reducible first | exact HB.out | apply below_alloc | apply pw_below_drewN | apply below_drew1) | exact HB.out)))); have n1_ := Aside0.mk (below_step (by repeat (first | (with_reducible first | exact HB.out | apply below_alloc | apply pw_below_drewN | apply below_drew1) | exact HB.out)) hb); clear HB; have HO118 := n0_; have HB := n1_; clear n0_ n1_; (try clear hb); (try clear hb2); (try clear hk); (try clear hi); (try clear ho0)) | ((with_reducible refine gate_callee (f := 10) rfl ?_); refine goesL_ (some 12) rfl rfl Tryz.func10 (by kernel_rfl) rfl #[.int .i64 90500] rfl (by (try simp only [List.map_toArray, List.map_cons, List.map_nil]); first | done | rfl | (simp only [List.length_drop, List.length_take]; rfl)) ?_; (with_reducible refine (lexer_Duration.calls 90500 t119 t120 _ ?side1 A2.out).mono ?_); (case side1 => exact Tabs.below HT.out (by repeat (first | (with_reducible first | exact HB.out | apply below_alloc | apply pw_below_drewN | apply below_drew1) | exact HB.out))); rintro e w27 ⟨rfl, hb⟩; refine ⟨_, rfl, ?_⟩; have n0_ := Aside0.mk (Kd.R_below (by (with_reducible repeat (first | apply Kd.R_alloc | apply Kd.R_drewN | apply Kd.R_drew)); exact HO118.out) hb); have n1_ := Aside0.mk (below_step (by repeat (first | (with_reducible first | exact HB.out | apply below_alloc | apply pw_below_drewN | apply below_drew1) | exact HB.out)) hb); clear HO118; clear HB; have HO118 := n0_; have HB := n1_; clear n0_ n1_; (try clear hb); (try clear hb2); (try clear hk); (try clear hi); obtain ⟨Ao28, co28, eo28⟩ := Kd.R_slice HO118.out; subst eo28; have p121 : 0 ≤ (4 : Int) := (by omega); have q121 : 4 < (t114.length : Int) := of_decide_eq_true (by first | (with_reducible assumption) | assumption); obtain ⟨ad121, e121, hx121_0, hx121_1, hx121_2, hx121_3, hx121_4⟩ := at_T29 (Kd.R_reads' HO118.out).2.2 4 p121 q121; cases e121; (try simp only [show (4 : Int).toNat = 4 from rfl, Nat.reduceMul, Nat.reduceEqDiff, Go.Addr.add, ↓reduceIte] at hx121_0); (try simp only [show (4 : Int).toNat = 4 from rfl, Nat.reduceMul, Nat.reduceEqDiff, Go.Addr.add, ↓reduceIte] at hx121_1); (try simp only [show (4 : Int).toNat = 4 from rfl, Nat.reduceMul, Nat.reduceEqDiff, Go.Addr.add, ↓reduceIte] at hx121_2); (try simp only [show (4 : Int).toNat = 4 from rfl, Nat.reduceMul, Nat.reduceEqDiff, Go.Addr.add, ↓reduceIte] at hx121_3); (try simp only [show (4 : Int).toNat = 4 from rfl, Nat.reduceMul, Nat.reduceEqDiff, Go.Addr.add, ↓reduceIte] at hx121_4); have qi121 : (4 < t114.length) = True := eq_true (by omega); (try rw [show ((4 : Int)).toNat = 4 from rfl] at hx121_0); (try rw [show 4 * 5 = 20 from rfl] at hx121_0); (try rw [show ((4 : Int)).toNat = 4 from rfl] at hx121_1); (try rw [show 4 * 5 = 20 from rfl] at hx121_1); (try rw [show ((4 : Int)).toNat = 4 from rfl] at hx121_2); (try rw [show 4 * 5 = 20 from rfl] at hx121_2); (try rw [show ((4 : Int)).toNat = 4 from rfl] at hx121_3); (try rw [show 4 * 5 = 20 from rfl] at hx121_3); (try rw [show ((4 : Int)).toNat = 4 from rfl] at hx121_4); (try rw [show 4 * 5 = 20 from rfl] at hx121_4); replace p121 := eq_true p121; replace q121 := eq_true q121; have p122 : 0 ≤ (8 : Int) := (by omega); have q122 : 8 < (t114.length : Int) := of_decide_eq_true (by first | (with_reducible assumption) | assumption); obtain ⟨ad122, e122, hx122_0, hx122_1, hx122_2, hx122_3, hx122_4⟩ := at_T29 (Kd.R_reads' HO118.out).2.2 8 p122 q122; obtain rfl : ad121 = ad122 := (by injection e122); (try simp only [show (8 : Int).toNat = 8 from rfl, Nat.reduceMul, Nat.reduceEqDiff, Go.Addr.add, ↓reduceIte] at hx122_0); (try simp only [show (8 : Int).toNat = 8 from rfl, Nat.reduceMul, Nat.reduceEqDiff, Go.Addr.add, ↓reduceIte] at hx122_1); (try simp only [show (8 : Int).toNat = 8 from rfl, Nat.reduceMul, Nat.reduceEqDiff, Go.Addr.add, ↓reduceIte] at hx122_2); (try simp only [show (8 : Int).toNat = 8 from rfl, Nat.reduceMul, Nat.reduceEqDiff, Go.Addr.add, ↓reduceIte] at hx122_3); (try simp only [show (8 : Int).toNat = 8 from rfl, Nat.reduceMul, Nat.reduceEqDiff, Go.Addr.add, ↓reduceIte] at hx122_4); have qi122 : (8 < t114.length) = True := eq_true (by omega); (try rw [show ((8 : Int)).toNat = 8 from rfl] at hx122_0); (try rw [show 8 * 5 = 40 from rfl] at hx122_0); (try rw [show ((8 : Int)).toNat = 8 from rfl] at hx122_1); (try rw [show 8 * 5 = 40 from rfl] at hx122_1); (try rw [show ((8 : Int)).toNat = 8 from rfl] at hx122_2); (try rw [show 8 * 5 = 40 from rfl] at hx122_2); (try rw [show ((8 : Int)).toNat = 8 from rfl] at hx122_3); (try rw [show 8 * 5 = 40 from rfl] at hx122_3); (try rw [show ((8 : Int)).toNat = 8 from rfl] at hx122_4); (try rw [show 8 * 5 = 40 from rfl] at hx122_4); replace p122 := eq_true p122; replace q122 := eq_true q122; have p123 : 0 ≤ (9 : Int) := (by omega); have q123 : 9 < (t114.length : Int) := of_decide_eq_true (by first | (with_reducible assumption) | assumption); obtain ⟨ad123, e123, hx123_0, hx123_1, hx123_2, hx123_3, hx123_4⟩ := at_T29 (Kd.R_reads' HO118.out).2.2 9 p123 q123; obtain rfl : ad121 = ad123 := (by injection e123); (try simp only [show (9 : Int).toNat = 9 from rfl, Nat.reduceMul, Nat.reduceEqDiff, Go.Addr.add, ↓reduceIte] at hx123_0); (try simp only [show (9 : Int).toNat = 9 from rfl, Nat.reduceMul, Nat.reduceEqDiff, Go.Addr.add, ↓reduceIte] at hx123_1); (try simp only [show (9 : Int).toNat = 9 from rfl, Nat.reduceMul, Nat.reduceEqDiff, Go.Addr.add, ↓reduceIte] at hx123_2); (try simp only [show (9 : Int).toNat = 9 from rfl, Nat.reduceMul, Nat.reduceEqDiff, Go.Addr.add, ↓reduceIte] at hx123_3); (try simp only [show (9 : Int).toNat = 9 from rfl, Nat.reduceMul, Nat.reduceEqDiff, Go.Addr.add, ↓reduceIte] at hx123_4); have qi123 : (9 < t114.length) = True := eq_true (by omega); (try rw [show ((9 : Int)).toNat = 9 from rfl] at hx123_0); (try rw [show 9 * 5 = 45 from rfl] at hx123_0); (try rw [show ((9 : Int)).toNat = 9 from rfl] at hx123_1); (try rw [show 9 * 5 = 45 from rfl] at hx123_1); (try rw [show ((9 : Int)).toNat = 9 from rfl] at hx123_2); (try rw [show 9 * 5 = 45 from rfl] at hx123_2); (try rw [show ((9 : Int)).toNat = 9 from rfl] at hx123_3); (try rw [show 9 * 5 = 45 from rfl] at hx123_3); (try rw [show ((9 : Int)).toNat = 9 from rfl] at hx123_4); (try rw [show 9 * 5 = 45 from rfl] at hx123_4); replace p123 := eq_true p123; replace q123 := eq_true q123) | (go_at_call 13; (with_reducible refine (lexer_Number.calls k 9 10 t124 _ ?side1 A12.out).mono ?_); (case side1 => exact Tabs.below HT.out (by repeat (first | (with_reducible first | exact HB.out | apply below_alloc | apply pw_below_drewN | apply below_drew1) | exact HB.out))); rintro e w29 ⟨rfl, hb⟩; have n0_ := Aside0.mk (Kd.R_below (by (with_reducible repeat (first | apply Kd.R_alloc | apply Kd.R_drewN | apply Kd.R_drew)); exact HO118.out) hb); have n1_ := Aside0.mk (below_step (by repeat (first | (with_reducible first | exact HB.out | apply below_alloc | apply pw_below_drewN | apply below_drew1) | exact HB.out)) hb); clear HO118; clear HB; have HO118 := n0_; have HB := n1_; clear n0_ n1_; (try clear hb); (try clear hb2); (try clear hk); (try clear hi)))
                      go_ret
                      exact ⟨by first | rfl | (simp [errW_none, errW_some] <;> rfl) | (simp [*, errW_none, errW_some] <;> rfl), by repeat (first | (with_reducible first | exact HB.out | apply below_alloc | apply pw_below_drewN | apply below_drew1) | exact HB.out)⟩
                  · rw [if_neg c11] at H
                    have c11b0 : (((rd_T29 t114 9).f0) == 0 && ((((rd_T29 t114 9).f1).toList) == ([] : List UInt8) && ((((rd_T29 t114 9).f2.f0) == 0 && (((rd_T29 t114 9).f2.f1) == 0)) && (((rd_T29 t114 9).f3) == 27)))) = false := by simpa using c11
                    (try (have c11b1 : decide (((rd_T29 t114 9).f0) = 0 && ((((rd_T29 t114 9).f1).toList) == ([] : List UInt8) && ((((rd_T29 t114 9).f2.f0) == 0 && (((rd_T29 t114 9).f2.f1) == 0)) && (((rd_T29 t114 9).f3) == 27)))) = false := by simpa using c11))
                    (try (have c11b2 : (((rd_T29 t114 9).f0) == 0 && ((((rd_T29 t114 9).f1).toList) == ([] : List UInt8) && ((((rd_T29 t114 9).f2.f0) == 0 && (((rd_T29 t114 9).f2.f1) == 0)) && (((rd_T29 t114 9).f3) == 27)))) = false := by simpa using c11))
                    (try (have c11b3 : ¬ (((rd_T29 t114 9).f0) = 0 && ((((rd_T29 t114 9).f1).toList) == ([] : List UInt8) && ((((rd_T29 t114 9).f2.f0) == 0 && (((rd_T29 t114 9).f2.f1) == 0)) && (((rd_T29 t114 9).f3) == 27)))) := by simpa using c11))
                    have c11b9 := (Bool.eq_false_iff.1 c11b0); simp only [ne_eq, Bool.and_eq_true, beq_iff_eq] at c11b9
                    clear c11
                    obtain rfl := Option.some.inj H
                    go_enter Tryz.func11, Tryz.ntmps11
                    go_wp2_with (first | ((with_reducible refine gate_callee (f := 17) rfl ?_); refine goesL_ (some 7) rfl rfl Tryz.func17 (by kernel_rfl) rfl #[.string (⟨#[114, 97, 116, 101, 40, 120, 91, 49, 104, 51, 48, 109, 93, 41, 32, 62, 32, 48, 46, 53, 32, 35, 32, 104, 97, 108, 102]⟩ : ByteArray)] rfl (by (try simp only [List.map_toArray, List.map_cons, List.map_nil]); first | done | rfl | (simp only [List.length_drop, List.length_take]; rfl)) ?_; (with_reducible refine (lexer_Tokens.calls (⟨#[114, 97, 116, 101, 40, 120, 91, 49, 104, 51, 48, 109, 93, 41, 32, 62, 32, 48, 46, 53, 32, 35, 32, 104, 97, 108, 102]⟩ : ByteArray) t114 t115 t116 _ ?side1 A1.out).mono ?_); (case side1 => exact Tabs.below HT.out (by repeat (first | (with_reducible first | exact HB.out | apply below_alloc | apply pw_below_drewN | apply below_drew1) | exact HB.out))); rintro e w30 ⟨v117, rfl, ho0, hb⟩; refine ⟨_, rfl, ?_⟩; have n0_ := Aside0.mk (Kd.R_lower ho0 (below_size (by repeat (first | (with_reducible first | exact HB.out | apply below_alloc | apply pw_below_drewN | apply below_drew1) | exact HB.out)))); have n1_ := Aside0.mk (below_step (by repeat (first | (with_reducible first | exact HB.out | apply below_alloc | apply pw_below_drewN | apply below_drew1) | exact HB.out)) hb); clear HB; have HO118 := n0_; have HB := n1_; clear n0_ n1_; (try clear hb); (try clear hb2); (try clear hk); (try clear hi); (try clear ho0)) | ((with_reducible refine gate_callee (f := 10) rfl ?_); refine goesL_ (some 12) rfl rfl Tryz.func10 (by kernel_rfl) rfl #[.int .i64 90500] rfl (by (try simp only [List.map_toArray, List.map_cons, List.map_nil]); first | done | rfl | (simp only [List.length_drop, List.length_take]; rfl)) ?_; (with_reducible refine (lexer_Duration.calls 90500 t119 t120 _ ?side1 A2.out).mono ?_); (case side1 => exact Tabs.below HT.out (by repeat (first | (with_reducible first | exact HB.out | apply below_alloc | apply pw_below_drewN | apply below_drew1) | exact HB.out))); rintro e w31 ⟨rfl, hb⟩; refine ⟨_, rfl, ?_⟩; have n0_ := Aside0.mk (Kd.R_below (by (with_reducible repeat (first | apply Kd.R_alloc | apply Kd.R_drewN | apply Kd.R_drew)); exact HO118.out) hb); have n1_ := Aside0.mk (below_step (by repeat (first | (with_reducible first | exact HB.out | apply below_alloc | apply pw_below_drewN | apply below_drew1) | exact HB.out)) hb); clear HO118; clear HB; have HO118 := n0_; have HB := n1_; clear n0_ n1_; (try clear hb); (try clear hb2); (try clear hk); (try clear hi); obtain ⟨Ao32, co32, eo32⟩ := Kd.R_slice HO118.out; subst eo32; have p121 : 0 ≤ (4 : Int) := (by omega); have q121 : 4 < (t114.length : Int) := of_decide_eq_true (by first | (with_reducible assumption) | assumption); obtain ⟨ad121, e121, hx121_0, hx121_1, hx121_2, hx121_3, hx121_4⟩ := at_T29 (Kd.R_reads' HO118.out).2.2 4 p121 q121; cases e121; (try simp only [show (4 : Int).toNat = 4 from rfl, Nat.reduceMul, Nat.reduceEqDiff, Go.Addr.add, ↓reduceIte] at hx121_0); (try simp only [show (4 : Int).toNat = 4 from rfl, Nat.reduceMul, Nat.reduceEqDiff, Go.Addr.add, ↓reduceIte] at hx121_1); (try simp only [show (4 : Int).toNat = 4 from rfl, Nat.reduceMul, Nat.reduceEqDiff, Go.Addr.add, ↓reduceIte] at hx121_2); (try simp only [show (4 : Int).toNat = 4 from rfl, Nat.reduceMul, Nat.reduceEqDiff, Go.Addr.add, ↓reduceIte] at hx121_3); (try simp only [show (4 : Int).toNat = 4 from rfl, Nat.reduceMul, Nat.reduceEqDiff, Go.Addr.add, ↓reduceIte] at hx121_4); have qi121 : (4 < t114.length) = True := eq_true (by omega); (try rw [show ((4 : Int)).toNat = 4 from rfl] at hx121_0); (try rw [show 4 * 5 = 20 from rfl] at hx121_0); (try rw [show ((4 : Int)).toNat = 4 from rfl] at hx121_1); (try rw [show 4 * 5 = 20 from rfl] at hx121_1); (try rw [show ((4 : Int)).toNat = 4 from rfl] at hx121_2); (try rw [show 4 * 5 = 20 from rfl] at hx121_2); (try rw [show ((4 : Int)).toNat = 4 from rfl] at hx121_3); (try rw [show 4 * 5 = 20 from rfl] at hx121_3); (try rw [show ((4 : Int)).toNat = 4 from rfl] at hx121_4); (try rw [show 4 * 5 = 20 from rfl] at hx121_4); replace p121 := eq_true p121; replace q121 := eq_true q121; have p122 : 0 ≤ (8 : Int) := (by omega); have q122 : 8 < (t114.length : Int) := of_decide_eq_true (by first | (with_reducible assumption) | assumption); obtain ⟨ad122, e122, hx122_0, hx122_1, hx122_2, hx122_3, hx122_4⟩ := at_T29 (Kd.R_reads' HO118.out).2.2 8 p122 q122; obtain rfl : ad121 = ad122 := (by injection e122); (try simp only [show (8 : Int).toNat = 8 from rfl, Nat.reduceMul, Nat.reduceEqDiff, Go.Addr.add, ↓reduceIte] at hx122_0); (try simp only [show (8 : Int).toNat = 8 from rfl, Nat.reduceMul, Nat.reduceEqDiff, Go.Addr.add, ↓reduceIte] at hx122_1); (try simp only [show (8 : Int).toNat = 8 from rfl, Nat.reduceMul, Nat.reduceEqDiff, Go.Addr.add, ↓reduceIte] at hx122_2); (try simp only [show (8 : Int).toNat = 8 from rfl, Nat.reduceMul, Nat.reduceEqDiff, Go.Addr.add, ↓reduceIte] at hx122_3); (try simp only [show (8 : Int).toNat = 8 from rfl, Nat.reduceMul, Nat.reduceEqDiff, Go.Addr.add, ↓reduceIte] at hx122_4); have qi122 : (8 < t114.length) = True := eq_true (by omega); (try rw [show ((8 : Int)).toNat = 8 from rfl] at hx122_0); (try rw [show 8 * 5 = 40 from rfl] at hx122_0); (try rw [show ((8 : Int)).toNat = 8 from rfl] at hx122_1); (try rw [show 8 * 5 = 40 from rfl] at hx122_1); (try rw [show ((8 : Int)).toNat = 8 from rfl] at hx122_2); (try rw [show 8 * 5 = 40 from rfl] at hx122_2); (try rw [show ((8 : Int)).toNat = 8 from rfl] at hx122_3); (try rw [show 8 * 5 = 40 from rfl] at hx122_3); (try rw [show ((8 : Int)).toNat = 8 from rfl] at hx122_4); (try rw [show 8 * 5 = 40 from rfl] at hx122_4); replace p122 := eq_true p122; replace q122 := eq_true q122; have p123 : 0 ≤ (9 : Int) := (by omega); have q123 : 9 < (t114.length : Int) := of_decide_eq_true (by first | (with_reducible assumption) | assumption); obtain ⟨ad123, e123, hx123_0, hx123_1, hx123_2, hx123_3, hx123_4⟩ := at_T29 (Kd.R_reads' HO118.out).2.2 9 p123 q123; obtain rfl : ad121 = ad123 := (by injection e123); (try simp only [show (9 : Int).toNat = 9 from rfl, Nat.reduceMul, Nat.reduceEqDiff, Go.Addr.add, ↓reduceIte] at hx123_0); (try simp only [show (9 : Int).toNat = 9 from rfl, Nat.reduceMul, Nat.reduceEqDiff, Go.Addr.add, ↓reduceIte] at hx123_1); (try simp only [show (9 : Int).toNat = 9 from rfl, Nat.reduceMul, Nat.reduceEqDiff, Go.Addr.add, ↓reduceIte] at hx123_2); (try simp only [show (9 : Int).toNat = 9 from rfl, Nat.reduceMul, Nat.reduceEqDiff, Go.Addr.add, ↓reduceIte] at hx123_3); (try simp only [show (9 : Int).toNat = 9 from rfl, Nat.reduceMul, Nat.reduceEqDiff, Go.Addr.add, ↓reduceIte] at hx123_4); have qi123 : (9 < t114.length) = True := eq_true (by omega); (try rw [show ((9 : Int)).toNat = 9 from rfl] at hx123_0); (try rw [show 9 * 5 = 45 from rfl] at hx123_0); (try rw [show ((9 : Int)).toNat = 9 from rfl] at hx123_1); (try rw [show 9 * 5 = 45 from rfl] at hx123_1); (try rw [show ((9 : Int)).toNat = 9 from rfl] at hx123_2); (try rw [show 9 * 5 = 45 from rfl] at hx123_2); (try rw [show ((9 : Int)).toNat = 9 from rfl] at hx123_3); (try rw [show 9 * 5 = 45 from rfl] at hx123_3); (try rw [show ((9 : Int)).toNat = 9 from rfl] at hx123_4); (try rw [show 9 * 5 = 45 from rfl] at hx123_4); replace p123 := eq_true p123; replace q123 := eq_true q123))
                    go_ret
                    exact ⟨by first | rfl | (simp [errW_none, errW_some] <;> rfl) | (simp [*, errW_none, errW_some] <;> rfl), by repeat (first | (with_reducible first | exact HB.out | apply below_alloc | apply pw_below_drewN | apply below_drew1) | exact HB.out)⟩
                · rw [if_neg c10] at H
                  exact absurd H (by simp)
              · rw [if_neg c9] at H
                have c9b0 : (((rd_T29 t114 8).f0) == 2 && ((((rd_T29 t114 8).f1).toList) == ([48, 46, 53] : List UInt8) && ((((rd_T29 t114 8).f2.f0) == 1 && (((rd_T29 t114 8).f2.f1) == 2)) && (((rd_T29 t114 8).f3) == 17)))) = false := by simpa using c9
                (try (have c9b1 : decide (((rd_T29 t114 8).f0) = 2 && ((((rd_T29 t114 8).f1).toList) == ([48, 46, 53] : List UInt8) && ((((rd_T29 t114 8).f2.f0) == 1 && (((rd_T29 t114 8).f2.f1) == 2)) && (((rd_T29 t114 8).f3) == 17)))) = false := by simpa using c9))
                (try (have c9b2 : (((rd_T29 t114 8).f0) == 2 && ((((rd_T29 t114 8).f1).toList) == ([48, 46, 53] : List UInt8) && ((((rd_T29 t114 8).f2.f0) == 1 && (((rd_T29 t114 8).f2.f1) == 2)) && (((rd_T29 t114 8).f3) == 17)))) = false := by simpa using c9))
                (try (have c9b3 : ¬ (((rd_T29 t114 8).f0) = 2 && ((((rd_T29 t114 8).f1).toList) == ([48, 46, 53] : List UInt8) && ((((rd_T29 t114 8).f2.f0) == 1 && (((rd_T29 t114 8).f2.f1) == 2)) && (((rd_T29 t114 8).f3) == 17)))) := by simpa using c9))
                clear c9
                obtain rfl := Option.some.inj H
                go_enter Tryz.func11, Tryz.ntmps11
                go_wp2_with (first | ((with_reducible refine gate_callee (f := 17) rfl ?_); refine goesL_ (some 7) rfl rfl Tryz.func17 (by kernel_rfl) rfl #[.string (⟨#[114, 97, 116, 101, 40, 120, 91, 49, 104, 51, 48, 109, 93, 41, 32, 62, 32, 48, 46, 53, 32, 35, 32, 104, 97, 108, 102]⟩ : ByteArray)] rfl (by (try simp only [List.map_toArray, List.map_cons, List.map_nil]); first | done | rfl | (simp only [List.length_drop, List.length_take]; rfl)) ?_; (with_reducible refine (lexer_Tokens.calls (⟨#[114, 97, 116, 101, 40, 120, 91, 49, 104, 51, 48, 109, 93, 41, 32, 62, 32, 48, 46, 53, 32, 35, 32, 104, 97, 108, 102]⟩ : ByteArray) t114 t115 t116 _ ?side1 A1.out).mono ?_); (case side1 => exact Tabs.below HT.out (by repeat (first | (with_reducible first | exact HB.out | apply below_alloc | apply pw_below_drewN | apply below_drew1) | exact HB.out))); rintro e w33 ⟨v117, rfl, ho0, hb⟩; refine ⟨_, rfl, ?_⟩; have n0_ := Aside0.mk (Kd.R_lower ho0 (below_size (by repeat (first | (with_reducible first | exact HB.out | apply below_alloc | apply pw_below_drewN | apply below_drew1) | exact HB.out)))); have n1_ := Aside0.mk (below_step (by repeat (first | (with_reducible first | exact HB.out | apply below_alloc | apply pw_below_drewN | apply below_drew1) | exact HB.out)) hb); clear HB; have HO118 := n0_; have HB := n1_; clear n0_ n1_; (try clear hb); (try clear hb2); (try clear hk); (try clear hi); (try clear ho0)) | ((with_reducible refine gate_callee (f := 10) rfl ?_); refine goesL_ (some 12) rfl rfl Tryz.func10 (by kernel_rfl) rfl #[.int .i64 90500] rfl (by (try simp only [List.map_toArray, List.map_cons, List.map_nil]); first | done | rfl | (simp only [List.length_drop, List.length_take]; rfl)) ?_; (with_reducible refine (lexer_Duration.calls 90500 t119 t120 _ ?side1 A2.out).mono ?_); (case side1 => exact Tabs.below HT.out (by repeat (first | (with_reducible first | exact HB.out | apply below_alloc | apply pw_below_drewN | apply below_drew1) | exact HB.out))); rintro e w34 ⟨rfl, hb⟩; refine ⟨_, rfl, ?_⟩; have n0_ := Aside0.mk (Kd.R_below (by (with_reducible repeat (first | apply Kd.R_alloc | apply Kd.R_drewN | apply Kd.R_drew)); exact HO118.out) hb); have n1_ := Aside0.mk (below_step (by repeat (first | (with_reducible first | exact HB.out | apply below_alloc | apply pw_below_drewN | apply below_drew1) | exact HB.out)) hb); clear HO118; clear HB; have HO118 := n0_; have HB := n1_; clear n0_ n1_; (try clear hb); (try clear hb2); (try clear hk); (try clear hi); obtain ⟨Ao35, co35, eo35⟩ := Kd.R_slice HO118.out; subst eo35; have p121 : 0 ≤ (4 : Int) := (by omega); have q121 : 4 < (t114.length : Int) := of_decide_eq_true (by first | (with_reducible assumption) | assumption); obtain ⟨ad121, e121, hx121_0, hx121_1, hx121_2, hx121_3, hx121_4⟩ := at_T29 (Kd.R_reads' HO118.out).2.2 4 p121 q121; cases e121; (try simp only [show (4 : Int).toNat = 4 from rfl, Nat.reduceMul, Nat.reduceEqDiff, Go.Addr.add, ↓reduceIte] at hx121_0); (try simp only [show (4 : Int).toNat = 4 from rfl, Nat.reduceMul, Nat.reduceEqDiff, Go.Addr.add, ↓reduceIte] at hx121_1); (try simp only [show (4 : Int).toNat = 4 from rfl, Nat.reduceMul, Nat.reduceEqDiff, Go.Addr.add, ↓reduceIte] at hx121_2); (try simp only [show (4 : Int).toNat = 4 from rfl, Nat.reduceMul, Nat.reduceEqDiff, Go.Addr.add, ↓reduceIte] at hx121_3); (try simp only [show (4 : Int).toNat = 4 from rfl, Nat.reduceMul, Nat.reduceEqDiff, Go.Addr.add, ↓reduceIte] at hx121_4); have qi121 : (4 < t114.length) = True := eq_true (by omega); (try rw [show ((4 : Int)).toNat = 4 from rfl] at hx121_0); (try rw [show 4 * 5 = 20 from rfl] at hx121_0); (try rw [show ((4 : Int)).toNat = 4 from rfl] at hx121_1); (try rw [show 4 * 5 = 20 from rfl] at hx121_1); (try rw [show ((4 : Int)).toNat = 4 from rfl] at hx121_2); (try rw [show 4 * 5 = 20 from rfl] at hx121_2); (try rw [show ((4 : Int)).toNat = 4 from rfl] at hx121_3); (try rw [show 4 * 5 = 20 from rfl] at hx121_3); (try rw [show ((4 : Int)).toNat = 4 from rfl] at hx121_4); (try rw [show 4 * 5 = 20 from rfl] at hx121_4); replace p121 := eq_true p121; replace q121 := eq_true q121; have p122 : 0 ≤ (8 : Int) := (by omega); have q122 : 8 < (t114.length : Int) := of_decide_eq_true (by first | (with_reducible assumption) | assumption); obtain ⟨ad122, e122, hx122_0, hx122_1, hx122_2, hx122_3, hx122_4⟩ := at_T29 (Kd.R_reads' HO118.out).2.2 8 p122 q122; obtain rfl : ad121 = ad122 := (by injection e122); (try simp only [show (8 : Int).toNat = 8 from rfl, Nat.reduceMul, Nat.reduceEqDiff, Go.Addr.add, ↓reduceIte] at hx122_0); (try simp only [show (8 : Int).toNat = 8 from rfl, Nat.reduceMul, Nat.reduceEqDiff, Go.Addr.add, ↓reduceIte] at hx122_1); (try simp only [show (8 : Int).toNat = 8 from rfl, Nat.reduceMul, Nat.reduceEqDiff, Go.Addr.add, ↓reduceIte] at hx122_2); (try simp only [show (8 : Int).toNat = 8 from rfl, Nat.reduceMul, Nat.reduceEqDiff, Go.Addr.add, ↓reduceIte] at hx122_3); (try simp only [show (8 : Int).toNat = 8 from rfl, Nat.reduceMul, Nat.reduceEqDiff, Go.Addr.add, ↓reduceIte] at hx122_4); have qi122 : (8 < t114.length) = True := eq_true (by omega); (try rw [show ((8 : Int)).toNat = 8 from rfl] at hx122_0); (try rw [show 8 * 5 = 40 from rfl] at hx122_0); (try rw [show ((8 : Int)).toNat = 8 from rfl] at hx122_1); (try rw [show 8 * 5 = 40 from rfl] at hx122_1); (try rw [show ((8 : Int)).toNat = 8 from rfl] at hx122_2); (try rw [show 8 * 5 = 40 from rfl] at hx122_2); (try rw [show ((8 : Int)).toNat = 8 from rfl] at hx122_3); (try rw [show 8 * 5 = 40 from rfl] at hx122_3); (try rw [show ((8 : Int)).toNat = 8 from rfl] at hx122_4); (try rw [show 8 * 5 = 40 from rfl] at hx122_4); replace p122 := eq_true p122; replace q122 := eq_true q122))
                go_ret
                exact ⟨by first | rfl | (simp [errW_none, errW_some] <;> rfl) | (simp [*, errW_none, errW_some] <;> rfl), by repeat (first | (with_reducible first | exact HB.out | apply below_alloc | apply pw_below_drewN | apply below_drew1) | exact HB.out)⟩
            · rw [if_neg c8] at H
              exact absurd H (by simp)
          · rw [if_neg c7] at H
            have c7b0 : (((rd_T29 t114 4).f0) == 3 && ((((rd_T29 t114 4).f1).toList) == ([49, 104, 51, 48, 109] : List UInt8) && ((((rd_T29 t114 4).f2.f0) == 5400000 && (((rd_T29 t114 4).f2.f1) == 1)) && (((rd_T29 t114 4).f3) == 7)))) = false := by simpa using c7
            (try (have c7b1 : decide (((rd_T29 t114 4).f0) = 3 && ((((rd_T29 t114 4).f1).toList) == ([49, 104, 51, 48, 109] : List UInt8) && ((((rd_T29 t114 4).f2.f0) == 5400000 && (((rd_T29 t114 4).f2.f1) == 1)) && (((rd_T29 t114 4).f3) == 7)))) = false := by simpa using c7))
            (try (have c7b2 : (((rd_T29 t114 4).f0) == 3 && ((((rd_T29 t114 4).f1).toList) == ([49, 104, 51, 48, 109] : List UInt8) && ((((rd_T29 t114 4).f2.f0) == 5400000 && (((rd_T29 t114 4).f2.f1) == 1)) && (((rd_T29 t114 4).f3) == 7)))) = false := by simpa using c7))
            (try (have c7b3 : ¬ (((rd_T29 t114 4).f0) = 3 && ((((rd_T29 t114 4).f1).toList) == ([49, 104, 51, 48, 109] : List UInt8) && ((((rd_T29 t114 4).f2.f0) == 5400000 && (((rd_T29 t114 4).f2.f1) == 1)) && (((rd_T29 t114 4).f3) == 7)))) := by simpa using c7))
            clear c7
            obtain rfl := Option.some.inj H
            go_enter Tryz.func11, Tryz.ntmps11
            go_wp2_with (first | ((with_reducible refine gate_callee (f := 17) rfl ?_); refine goesL_ (some 7) rfl rfl Tryz.func17 (by kernel_rfl) rfl #[.string (⟨#[114, 97, 116, 101, 40, 120, 91, 49, 104, 51, 48, 109, 93, 41, 32, 62, 32, 48, 46, 53, 32, 35, 32, 104, 97, 108, 102]⟩ : ByteArray)] rfl (by (try simp only [List.map_toArray, List.map_cons, List.map_nil]); first | done | rfl | (simp only [List.length_drop, List.length_take]; rfl)) ?_; (with_reducible refine (lexer_Tokens.calls (⟨#[114, 97, 116, 101, 40, 120, 91, 49, 104, 51, 48, 109, 93, 41, 32, 62, 32, 48, 46, 53, 32, 35, 32, 104, 97, 108, 102]⟩ : ByteArray) t114 t115 t116 _ ?side1 A1.out).mono ?_); (case side1 => exact Tabs.below HT.out (by repeat (first | (with_reducible first | exact HB.out | apply below_alloc | apply pw_below_drewN | apply below_drew1) | exact HB.out))); rintro e w36 ⟨v117, rfl, ho0, hb⟩; refine ⟨_, rfl, ?_⟩; have n0_ := Aside0.mk (Kd.R_lower ho0 (below_size (by repeat (first | (with_reducible first | exact HB.out | apply below_alloc | apply pw_below_drewN | apply below_drew1) | exact HB.out)))); have n1_ := Aside0.mk (below_step (by repeat (first | (with_reducible first | exact HB.out | apply below_alloc | apply pw_below_drewN | apply below_drew1) | exact HB.out)) hb); clear HB; have HO118 := n0_; have HB := n1_; clear n0_ n1_; (try clear hb); (try clear hb2); (try clear hk); (try clear hi); (try clear ho0)) | ((with_reducible refine gate_callee (f := 10) rfl ?_); refine goesL_ (some 12) rfl rfl Tryz.func10 (by kernel_rfl) rfl #[.int .i64 90500] rfl (by (try simp only [List.map_toArray, List.map_cons, List.map_nil]); first | done | rfl | (simp only [List.length_drop, List.length_take]; rfl)) ?_; (with_reducible refine (lexer_Duration.calls 90500 t119 t120 _ ?side1 A2.out).mono ?_); (case side1 => exact Tabs.below HT.out (by repeat (first | (with_reducible first | exact HB.out | apply below_alloc | apply pw_below_drewN | apply below_drew1) | exact HB.out))); rintro e w37 ⟨rfl, hb⟩; refine ⟨_, rfl, ?_⟩; have n0_ := Aside0.mk (Kd.R_below (by (with_reducible repeat (first | apply Kd.R_alloc | apply Kd.R_drewN | apply Kd.R_drew)); exact HO118.out) hb); have n1_ := Aside0.mk (below_step (by repeat (first | (with_reducible first | exact HB.out | apply below_alloc | apply pw_below_drewN | apply below_drew1) | exact HB.out)) hb); clear HO118; clear HB; have HO118 := n0_; have HB := n1_; clear n0_ n1_; (try clear hb); (try clear hb2); (try clear hk); (try clear hi); obtain ⟨Ao38, co38, eo38⟩ := Kd.R_slice HO118.out; subst eo38; have p121 : 0 ≤ (4 : Int) := (by omega); have q121 : 4 < (t114.length : Int) := of_decide_eq_true (by first | (with_reducible assumption) | assumption); obtain ⟨ad121, e121, hx121_0, hx121_1, hx121_2, hx121_3, hx121_4⟩ := at_T29 (Kd.R_reads' HO118.out).2.2 4 p121 q121; cases e121; (try simp only [show (4 : Int).toNat = 4 from rfl, Nat.reduceMul, Nat.reduceEqDiff, Go.Addr.add, ↓reduceIte] at hx121_0); (try simp only [show (4 : Int).toNat = 4 from rfl, Nat.reduceMul, Nat.reduceEqDiff, Go.Addr.add, ↓reduceIte] at hx121_1); (try simp only [show (4 : Int).toNat = 4 from rfl, Nat.reduceMul, Nat.reduceEqDiff, Go.Addr.add, ↓reduceIte] at hx121_2); (try simp only [show (4 : Int).toNat = 4 from rfl, Nat.reduceMul, Nat.reduceEqDiff, Go.Addr.add, ↓reduceIte] at hx121_3); (try simp only [show (4 : Int).toNat = 4 from rfl, Nat.reduceMul, Nat.reduceEqDiff, Go.Addr.add, ↓reduceIte] at hx121_4); have qi121 : (4 < t114.length) = True := eq_true (by omega); (try rw [show ((4 : Int)).toNat = 4 from rfl] at hx121_0); (try rw [show 4 * 5 = 20 from rfl] at hx121_0); (try rw [show ((4 : Int)).toNat = 4 from rfl] at hx121_1); (try rw [show 4 * 5 = 20 from rfl] at hx121_1); (try rw [show ((4 : Int)).toNat = 4 from rfl] at hx121_2); (try rw [show 4 * 5 = 20 from rfl] at hx121_2); (try rw [show ((4 : Int)).toNat = 4 from rfl] at hx121_3); (try rw [show 4 * 5 = 20 from rfl] at hx121_3); (try rw [show ((4 : Int)).toNat = 4 from rfl] at hx121_4); (try rw [show 4 * 5 = 20 from rfl] at hx121_4); replace p121 := eq_true p121; replace q121 := eq_true q121))
            go_ret
            exact ⟨by first | rfl | (simp [errW_none, errW_some] <;> rfl) | (simp [*, errW_none, errW_some] <;> rfl), by repeat (first | (with_reducible first | exact HB.out | apply below_alloc | apply pw_below_drewN | apply below_drew1) | exact HB.out)⟩
        · rw [if_neg c6] at H
          exact absurd H (by simp)
      · rw [if_neg c5] at H
        have c5b0 : ((t114.length : Int) == 10) = false := beq_eq_false_iff_ne.mpr c5
        have c5b1 : ((t114.length : Int) != 10) = true := bne_iff_ne.mpr c5
        obtain rfl := Option.some.inj H
        go_enter Tryz.func11, Tryz.ntmps11
        go_wp2_with (first | ((with_reducible refine gate_callee (f := 17) rfl ?_); refine goesL_ (some 7) rfl rfl Tryz.func17 (by kernel_rfl) rfl #[.string (⟨#[114, 97, 116, 101, 40, 120, 91, 49, 104, 51, 48, 109, 93, 41, 32, 62, 32, 48, 46, 53, 32, 35, 32, 104, 97, 108, 102]⟩ : ByteArray)] rfl (by (try simp only [List.map_toArray, List.map_cons, List.map_nil]); first | done | rfl | (simp only [List.length_drop, List.length_take]; rfl)) ?_; (with_reducible refine (lexer_Tokens.calls (⟨#[114, 97, 116, 101, 40, 120, 91, 49, 104, 51, 48, 109, 93, 41, 32, 62, 32, 48, 46, 53, 32, 35, 32, 104, 97, 108, 102]⟩ : ByteArray) t114 t115 t116 _ ?side1 A1.out).mono ?_); (case side1 => exact Tabs.below HT.out (by repeat (first | (with_reducible first | exact HB.out | apply below_alloc | apply pw_below_drewN | apply below_drew1) | exact HB.out))); rintro e w39 ⟨v117, rfl, ho0, hb⟩; refine ⟨_, rfl, ?_⟩; have n0_ := Aside0.mk (Kd.R_lower ho0 (below_size (by repeat (first | (with_reducible first | exact HB.out | apply below_alloc | apply pw_below_drewN | apply below_drew1) | exact HB.out)))); have n1_ := Aside0.mk (below_step (by repeat (first | (with_reducible first | exact HB.out | apply below_alloc | apply pw_below_drewN | apply below_drew1) | exact HB.out)) hb); clear HB; have HO118 := n0_; have HB := n1_; clear n0_ n1_; (try clear hb); (try clear hb2); (try clear hk); (try clear hi); (try clear ho0)) | ((with_reducible refine gate_callee (f := 10) rfl ?_); refine goesL_ (some 12) rfl rfl Tryz.func10 (by kernel_rfl) rfl #[.int .i64 90500] rfl (by (try simp only [List.map_toArray, List.map_cons, List.map_nil]); first | done | rfl | (simp only [List.length_drop, List.length_take]; rfl)) ?_; (with_reducible refine (lexer_Duration.calls 90500 t119 t120 _ ?side1 A2.out).mono ?_); (case side1 => exact Tabs.below HT.out (by repeat (first | (with_reducible first | exact HB.out | apply below_alloc | apply pw_below_drewN | apply below_drew1) | exact HB.out))); rintro e w40 ⟨rfl, hb⟩; refine ⟨_, rfl, ?_⟩; have n0_ := Aside0.mk (Kd.R_below (by (with_reducible repeat (first | apply Kd.R_alloc | apply Kd.R_drewN | apply Kd.R_drew)); exact HO118.out) hb); have n1_ := Aside0.mk (below_step (by repeat (first | (with_reducible first | exact HB.out | apply below_alloc | apply pw_below_drewN | apply below_drew1) | exact HB.out)) hb); clear HO118; clear HB; have HO118 := n0_; have HB := n1_; clear n0_ n1_; (try clear hb); (try clear hb2); (try clear hk); (try clear hi); obtain ⟨Ao41, co41, eo41⟩ := Kd.R_slice HO118.out; subst eo41))
        go_ret
        exact ⟨by first | rfl | (simp [errW_none, errW_some] <;> rfl) | (simp [*, errW_none, errW_some] <;> rfl), by repeat (first | (with_reducible first | exact HB.out | apply below_alloc | apply pw_below_drewN | apply below_drew1) | exact HB.out)⟩
    · rw [if_neg c4] at H
      have c4b0 : (t120 == 0) = false := beq_eq_false_iff_ne.mpr c4
      have c4b1 : (t120 != 0) = true := bne_iff_ne.mpr c4
      obtain rfl := Option.some.inj H
      go_enter Tryz.func11, Tryz.ntmps11
      go_wp2_with (first | ((with_reducible refine gate_callee (f := 17) rfl ?_); refine goesL_ (some 7) rfl rfl Tryz.func17 (by kernel_rfl) rfl #[.string (⟨#[114, 97, 116, 101, 40, 120, 91, 49, 104, 51, 48, 109, 93, 41, 32, 62, 32, 48, 46, 53, 32, 35, 32, 104, 97, 108, 102]⟩ : ByteArray)] rfl (by (try simp only [List.map_toArray, List.map_cons, List.map_nil]); first | done | rfl | (simp only [List.length_drop, List.length_take]; rfl)) ?_; (with_reducible refine (lexer_Tokens.calls (⟨#[114, 97, 116, 101, 40, 120, 91, 49, 104, 51, 48, 109, 93, 41, 32, 62, 32, 48, 46, 53, 32, 35, 32, 104, 97, 108, 102]⟩ : ByteArray) t114 t115 t116 _ ?side1 A1.out).mono ?_); (case side1 => exact Tabs.below HT.out (by repeat (first | (with_reducible first | exact HB.out | apply below_alloc | apply pw_below_drewN | apply below_drew1) | exact HB.out))); rintro e w42 ⟨v117, rfl, ho0, hb⟩; refine ⟨_, rfl, ?_⟩; have n0_ := Aside0.mk (Kd.R_lower ho0 (below_size (by repeat (first | (with_reducible first | exact HB.out | apply below_alloc | apply pw_below_drewN | apply below_drew1) | exact HB.out)))); have n1_ := Aside0.mk (below_step (by repeat (first | (with_reducible first | exact HB.out | apply below_alloc | apply pw_below_drewN | apply below_drew1) | exact HB.out)) hb); clear HB; have HO118 := n0_; have HB := n1_; clear n0_ n1_; (try clear hb); (try clear hb2); (try clear hk); (try clear hi); (try clear ho0)) | ((with_reducible refine gate_callee (f := 10) rfl ?_); refine goesL_ (some 12) rfl rfl Tryz.func10 (by kernel_rfl) rfl #[.int .i64 90500] rfl (by (try simp only [List.map_toArray, List.map_cons, List.map_nil]); first | done | rfl | (simp only [List.length_drop, List.length_take]; rfl)) ?_; (with_reducible refine (lexer_Duration.calls 90500 t119 t120 _ ?side1 A2.out).mono ?_); (case side1 => exact Tabs.below HT.out (by repeat (first | (with_reducible first | exact HB.out | apply below_alloc | apply pw_below_drewN | apply below_drew1) | exact HB.out))); rintro e w43 ⟨rfl, hb⟩; refine ⟨_, rfl, ?_⟩; have n0_ := Aside0.mk (Kd.R_below (by (with_reducible repeat (first | apply Kd.R_alloc | apply Kd.R_drewN | apply Kd.R_drew)); exact HO118.out) hb); have n1_ := Aside0.mk (below_step (by repeat (first | (with_reducible first | exact HB.out | apply below_alloc | apply pw_below_drewN | apply below_drew1) | exact HB.out)) hb); clear HO118; clear HB; have HO118 := n0_; have HB := n1_; clear n0_ n1_; (try clear hb); (try clear hb2); (try clear hk); (try clear hi)))
      go_ret
      exact ⟨by first | rfl | (simp [errW_none, errW_some] <;> rfl) | (simp [*, errW_none, errW_some] <;> rfl), by repeat (first | (with_reducible first | exact HB.out | apply below_alloc | apply pw_below_drewN | apply below_drew1) | exact HB.out)⟩
  · rw [if_neg c3] at H
    have c3b0 : (t116 == 0) = false := beq_eq_false_iff_ne.mpr c3
    have c3b1 : (t116 != 0) = true := bne_iff_ne.mpr c3
    obtain rfl := Option.some.inj H
    go_enter Tryz.func11, Tryz.ntmps11
    go_wp2_with (first | ((with_reducible refine gate_callee (f := 17) rfl ?_); refine goesL_ (some 7) rfl rfl Tryz.func17 (by kernel_rfl) rfl #[.string (⟨#[114, 97, 116, 101, 40, 120, 91, 49, 104, 51, 48, 109, 93, 41, 32, 62, 32, 48, 46, 53, 32, 35, 32, 104, 97, 108, 102]⟩ : ByteArray)] rfl (by (try simp only [List.map_toArray, List.map_cons, List.map_nil]); first | done | rfl | (simp only [List.length_drop, List.length_take]; rfl)) ?_; (with_reducible refine (lexer_Tokens.calls (⟨#[114, 97, 116, 101, 40, 120, 91, 49, 104, 51, 48, 109, 93, 41, 32, 62, 32, 48, 46, 53, 32, 35, 32, 104, 97, 108, 102]⟩ : ByteArray) t114 t115 t116 _ ?side1 A1.out).mono ?_); (case side1 => exact Tabs.below HT.out (by repeat (first | (with_reducible first | exact HB.out | apply below_alloc | apply pw_below_drewN | apply below_drew1) | exact HB.out))); rintro e w44 ⟨v117, rfl, ho0, hb⟩; refine ⟨_, rfl, ?_⟩; have n0_ := Aside0.mk (Kd.R_lower ho0 (below_size (by repeat (first | (with_reducible first | exact HB.out | apply below_alloc | apply pw_below_drewN | apply below_drew1) | exact HB.out)))); have n1_ := Aside0.mk (below_step (by repeat (first | (with_reducible first | exact HB.out | apply below_alloc | apply pw_below_drewN | apply below_drew1) | exact HB.out)) hb); clear HB; have HO118 := n0_; have HB := n1_; clear n0_ n1_; (try clear hb); (try clear hb2); (try clear hk); (try clear hi); (try clear ho0)) | ((with_reducible refine gate_callee (f := 10) rfl ?_); refine goesL_ (some 12) rfl rfl Tryz.func10 (by kernel_rfl) rfl #[.int .i64 90500] rfl (by (try simp only [List.map_toArray, List.map_cons, List.map_nil]); first | done | rfl | (simp only [List.length_drop, List.length_take]; rfl)) ?_; (with_reducible refine (lexer_Duration.calls 90500 t119 t120 _ ?side1 A2.out).mono ?_); (case side1 => exact Tabs.below HT.out (by repeat (first | (with_reducible first | exact HB.out | apply below_alloc | apply pw_below_drewN | apply below_drew1) | exact HB.out))); rintro e w45 ⟨rfl, hb⟩; refine ⟨_, rfl, ?_⟩; have n0_ := Aside0.mk (Kd.R_below (by (with_reducible repeat (first | apply Kd.R_alloc | apply Kd.R_drewN | apply Kd.R_drew)); exact HO118.out) hb); have n1_ := Aside0.mk (below_step (by repeat (first | (with_reducible first | exact HB.out | apply below_alloc | apply pw_below_drewN | apply below_drew1) | exact HB.out)) hb); clear HO118; clear HB; have HO118 := n0_; have HB := n1_; clear n0_ n1_; (try clear hb); (try clear hb2); (try clear hk); (try clear hi)))
    go_ret
    exact ⟨by first | rfl | (simp [errW_none, errW_some] <;> rfl) | (simp [*, errW_none, errW_some] <;> rfl), by repeat (first | (with_reducible first | exact HB.out | apply below_alloc | apply pw_below_drewN | apply below_drew1) | exact HB.out)⟩
end Go.Proofs.YteokilkcchdeiaaGreatDoor.Q
end
section
namespace Go.Proofs.YteokilkcchdeiaaGreatDoor.Q
open Go.RowKit Go.Proofs.YteokilkcchdeiaaGreatDoorW.PrintWords Go.Proofs.YteokilkcchdeiaaGreatDoorW.PrintLast Go.Proofs.YteokilkcchdeiaaGreatDoorW.PrintMore
attribute [local go_sem] max2_int min2_int max_two min_two max_three min_three max_four min_four   -- for this text's walks alone
set_option linter.unusedVariables false
set_option linter.unusedSimpArgs false
attribute [local go_sem high] eqA29
def lookoutref42_Same.l0 : Nat → List (S29) → List (S29) → Int → Option (Bool)
  | 0, _, _, _ => none
  | k + 1, x0, x1, x5 => if x5 < (x0.length : Int) then (if 0 ≤ x5 then (if x5 < (x1.length : Int) then (if (!(((rd_T29 x0 x5).f0) == ((rd_T29 x1 x5).f0)) || (!((((rd_T29 x0 x5).f1).toList) == (((rd_T29 x1 x5).f1).toList)) || ((!(((rd_T29 x0 x5).f2.f0) == ((rd_T29 x1 x5).f2.f0)) || (!(((rd_T29 x0 x5).f2.f1) == ((rd_T29 x1 x5).f2.f1)))) || (!(((rd_T29 x0 x5).f3) == ((rd_T29 x1 x5).f3)))))) = true then (some false) else (lookoutref42_Same.l0 k x0 x1 (wrap64 (x5 + 1)))) else (none)) else (none)) else (some true)
def lookoutref42_Same.f (k : Nat) (l0 : List (S29)) (l1 : List (S29)) : Option (Bool) := if (l0.length : Int) = (l1.length : Int) then (lookoutref42_Same.l0 k l0 l1 0) else (some false)
set_option maxHeartbeats 8000000 in
set_option maxRecDepth 100000 in
theorem lookoutref42_Same.calls (k : Nat) (A0 : Option Addr) (c0 : Nat) (l0 : List (S29)) (A1 : Option Addr) (c1 : Nat) (l1 : List (S29)) (r : Bool) (w : World) (hr0 : Kd.C k29 w A0 l0.length l0) (hc0 : l0.length ≤ c0) (hr1 : Kd.C k29 w A1 l1.length l1) (hc1 : l1.length ≤ c1) (h : lookoutref42_Same.f k l0 l1 = some r) :
    Calls Tryz.prog 19 #[.slice A0 l0.length c0, .slice A1 l1.length c1] w fun e w' => e = .returned (.bool r) ∧ Drawn0 w w' := by
  have hu29 := Tryz.underlying29
  have HR0 := Aside0.mk hr0
  have HC0 := Aside0.mk hc0
  clear hr0 hc0
  have HR1 := Aside0.mk hr1
  have HC1 := Aside0.mk hc1
  clear hr1 hc1
  have H : (if (l0.length : Int) = (l1.length : Int) then (lookoutref42_Same.l0 k l0 l1 0) else (some false)) = some r := h
  clear h
  by_cases c3 : (l0.length : Int) = (l1.length : Int)
  · rw [if_pos c3] at H
    have c3b0 : ((l0.length : Int) == (l1.length : Int)) = true := beq_iff_eq.mpr c3
    have c3b1 : ((l0.length : Int) != (l1.length : Int)) = false := bne_eq_false_iff_eq.mpr c3
    have c3b2 : (l0.length == l1.length) = true := by first | simpa using c3 | (simp at c3 ⊢; omega)
    clear c3
    have H' := Aside0.mk H
    clear H
    go_enter Tryz.func19, Tryz.ntmps19
    go_wp2
    repeat (go_quiet (fail); try go_wp2)
    go_loopg [5] k (fun kq v5 w' => ∃ (x5_1 : Int), v5 = .int .i64 x5_1 ∧ Aside0 (lookoutref42_Same.l0 kq l0 l1 x5_1 = some r) ∧ Aside0 (kq ≤ k) ∧ Drawn0 w w')
    case atStart => exact ⟨(0), (by first | rfl | (simp; done) | (simp [*]; done)), H', ⟨Nat.le_refl _⟩, by repeat (first | exact Drawn0.refl _ | apply Drawn0.step)⟩
    case round =>
      clear H'
      try clear c1
      try clear p2
      try clear c3
      try clear c3b0
      try clear c3b1
      try clear c3b2
      obtain ⟨x5_1, rfl, HA, HK1, ⟨m1, rfl⟩⟩ := hrel
      cases gk with
      | zero => exact absurd HA.out (by simp [lookoutref42_Same.l0])
      | succ k1 =>
        have H := HA.out
        clear HA
        simp only [lookoutref42_Same.l0] at H
        by_cases c4 : x5_1 < (l0.length : Int)
        · rw [if_pos c4] at H
          have c4b0 : decide (x5_1 < (l0.length : Int)) = true := decide_eq_true c4
          clear c4
          by_cases c5 : 0 ≤ x5_1
          · rw [if_pos c5] at H
            have c5b0 : decide (0 ≤ x5_1) = true := decide_eq_true c5
            clear c5
            by_cases c6 : x5_1 < (l1.length : Int)
            · rw [if_pos c6] at H
              have c6b0 : decide (x5_1 < (l1.length : Int)) = true := decide_eq_true c6
              clear c6
              by_cases c7 : (!(((rd_T29 l0 x5_1).f0) == ((rd_T29 l1 x5_1).f0)) || (!((((rd_T29 l0 x5_1).f1).toList) == (((rd_T29 l1 x5_1).f1).toList)) || ((!(((rd_T29 l0 x5_1).f2.f0) == ((rd_T29 l1 x5_1).f2.f0)) || (!(((rd_T29 l0 x5_1).f2.f1) == ((rd_T29 l1 x5_1).f2.f1)))) || (!(((rd_T29 l0 x5_1).f3) == ((rd_T29 l1 x5_1).f3)))))) = true
              · rw [if_pos c7] at H
                have c7b0 : (!(((rd_T29 l0 x5_1).f0) == ((rd_T29 l1 x5_1).f0)) || (!((((rd_T29 l0 x5_1).f1).toList) == (((rd_T29 l1 x5_1).f1).toList)) || ((!(((rd_T29 l0 x5_1).f2.f0) == ((rd_T29 l1 x5_1).f2.f0)) || (!(((rd_T29 l0 x5_1).f2.f1) == ((rd_T29 l1 x5_1).f2.f1)))) || (!(((rd_T29 l0 x5_1).f3) == ((rd_T29 l1 x5_1).f3)))))) = true := c7
                clear c7
                obtain rfl := Option.some.inj H
                have p189 : 0 ≤ (x5_1 : Int) := of_decide_eq_true (by first | (with_reducible assumption) | assumption)
                have q189 : x5_1 < (l0.length : Int) := of_decide_eq_true (by first | (with_reducible assumption) | assumption)
                obtain ⟨ad189, e189, hx189_0, hx189_1, hx189_2, hx189_3, hx189_4⟩ := at_T29 HR0.out x5_1 p189 q189
                cases e189
                replace p189 := eq_true p189
                replace q189 := eq_true q189
                have p190 : 0 ≤ (x5_1 : Int) := of_decide_eq_true (by first | (with_reducible assumption) | assumption)
                have q190 : x5_1 < (l1.length : Int) := of_decide_eq_true (by first | (with_reducible assumption) | assumption)
                obtain ⟨ad190, e190, hx190_0, hx190_1, hx190_2, hx190_3, hx190_4⟩ := at_T29 HR1.out x5_1 p190 q190
                cases e190
                replace p190 := eq_true p190
                replace q190 := eq_true q190
                go_wp2
                repeat (go_quiet (fail); try go_wp2)
                go_ret
                exact ⟨by first | rfl | (simp; done) | (simp [*]; done), by repeat (first | exact Drawn0.refl _ | apply Drawn0.step)⟩
              · rw [if_neg c7] at H
                have c7b0 : (!(((rd_T29 l0 x5_1).f0) == ((rd_T29 l1 x5_1).f0)) || (!((((rd_T29 l0 x5_1).f1).toList) == (((rd_T29 l1 x5_1).f1).toList)) || ((!(((rd_T29 l0 x5_1).f2.f0) == ((rd_T29 l1 x5_1).f2.f0)) || (!(((rd_T29 l0 x5_1).f2.f1) == ((rd_T29 l1 x5_1).f2.f1)))) || (!(((rd_T29 l0 x5_1).f3) == ((rd_T29 l1 x5_1).f3)))))) = false := by simpa using c7
                clear c7
                have H' := Aside0.mk H
                clear H
                have p189 : 0 ≤ (x5_1 : Int) := of_decide_eq_true (by first | (with_reducible assumption) | assumption)
                have q189 : x5_1 < (l0.length : Int) := of_decide_eq_true (by first | (with_reducible assumption) | assumption)
                obtain ⟨ad189, e189, hx189_0, hx189_1, hx189_2, hx189_3, hx189_4⟩ := at_T29 HR0.out x5_1 p189 q189
                cases e189
                replace p189 := eq_true p189
                replace q189 := eq_true q189
                have p190 : 0 ≤ (x5_1 : Int) := of_decide_eq_true (by first | (with_reducible assumption) | assumption)
                have q190 : x5_1 < (l1.length : Int) := of_decide_eq_true (by first | (with_reducible assumption) | assumption)
                obtain ⟨ad190, e190, hx190_0, hx190_1, hx190_2, hx190_3, hx190_4⟩ := at_T29 HR1.out x5_1 p190 q190
                cases e190
                replace p190 := eq_true p190
                replace q190 := eq_true q190
                go_wp2
                repeat (go_quiet (fail); try go_wp2)
                go_roundg k1
                case measure => have := HK1.out; omega
                case rel => exact ⟨(wrap64 (x5_1 + 1)), (by first | rfl | (simp; done) | (simp [*]; done)), H', ⟨by have := HK1.out; omega⟩, by repeat (first | exact Drawn0.refl _ | apply Drawn0.step)⟩
            · rw [if_neg c6] at H
              exact absurd H (by simp)
          · rw [if_neg c5] at H
            exact absurd H (by simp)
        · rw [if_neg c4] at H
          have c4b0 : decide (x5_1 < (l0.length : Int)) = false := decide_eq_false c4
          clear c4
          obtain rfl := Option.some.inj H
          go_wp2
          repeat (go_quiet (fail); try go_wp2)
          go_ret
          exact ⟨by first | rfl | (simp; done) | (simp [*]; done), by repeat (first | exact Drawn0.refl _ | apply Drawn0.step)⟩
  · rw [if_neg c3] at H
    have c3b0 : ((l0.length : Int) == (l1.length : Int)) = false := beq_eq_false_iff_ne.mpr c3
    have c3b1 : ((l0.length : Int) != (l1.length : Int)) = true := bne_iff_ne.mpr c3
    have c3b2 : (l0.length == l1.length) = false := by first | simpa using c3 | (simp at c3 ⊢; omega)
    obtain rfl := Option.some.inj H
    go_enter Tryz.func19, Tryz.ntmps19
    go_wp2
    repeat (go_quiet (fail); try go_wp2)
    go_ret
    exact ⟨by first | rfl | (simp; done) | (simp [*]; done), by repeat (first | exact Drawn0.refl _ | apply Drawn0.step)⟩
end Go.Proofs.YteokilkcchdeiaaGreatDoor.Q
end
section
namespace Go.Proofs.YteokilkcchdeiaaGreatDoor.Q
open Go.Proofs.YteokilkcchdeiaaGreatDoor
open Go.Proofs.YteokilkcchdeiaaGreatDoor.X
open Go.RowKit Go.Proofs.YteokilkcchdeiaaGreatDoorW.PrintWords Go.Proofs.YteokilkcchdeiaaGreatDoorW.PrintLast Go.Proofs.YteokilkcchdeiaaGreatDoorW.PrintMore
attribute [local go_sem] max2_int min2_int max_two min_two max_three min_three max_four min_four   -- for this text's walks alone
set_option linter.unusedVariables false
set_option linter.unusedSimpArgs false
attribute [local go_sem high] eqA29
mutual
def lookoutlaw42_LexerConcat.j0 : Nat → ByteArray → ByteArray → Bool → Option (Bool)
  | 0, _, _, _ => none
  | k + 1, x0, x1, x24 => if x24 = true then ((lookoutlaw42_awake.f k).bind fun t191 => (some t191)) else ((lexer_Tokens.f x0).bind fun bt192 => ((lexer_Tokens.f x1).bind fun bt197 => (if x0.size + 1 ≤ 9223372036854775807 then (if (x0 ++ (⟨#[10]⟩ : ByteArray)).size + x1.size ≤ 9223372036854775807 then ((lexer_Tokens.f ((x0 ++ (⟨#[10]⟩ : ByteArray)) ++ x1)).bind fun bt202 => (if bt192.2.2 = 0 then (if (bt192.1.length : Int) = 0 then (lookoutlaw42_LexerConcat.j1 k x0 bt192.1 bt197.1 bt197.2.1 bt197.2.2 bt202.1 bt202.2.1 bt202.2.2 true) else (if 0 ≤ (wrap64 ((bt192.1.length : Int) - 1)) then (if (wrap64 ((bt192.1.length : Int) - 1)) < (bt192.1.length : Int) then (lookoutlaw42_LexerConcat.j1 k x0 bt192.1 bt197.1 bt197.2.1 bt197.2.2 bt202.1 bt202.2.1 bt202.2.2 (!(((rd_T29 bt192.1 (wrap64 ((bt192.1.length : Int) - 1))).f0) == 0) || (!((((rd_T29 bt192.1 (wrap64 ((bt192.1.length : Int) - 1))).f1).toList) == ([] : List UInt8)) || ((!(((rd_T29 bt192.1 (wrap64 ((bt192.1.length : Int) - 1))).f2.f0) == 0) || (!(((rd_T29 bt192.1 (wrap64 ((bt192.1.length : Int) - 1))).f2.f1) == 0))) || (!(((rd_T29 bt192.1 (wrap64 ((bt192.1.length : Int) - 1))).f3) == (x0.size : Int))))))) else (none)) else (none))) else (if (bt192.1.length : Int) = 0 then (if bt192.2.1 ≥ 0 then (if bt192.2.1 < (x0.size : Int) then (if bt202.2.1 = bt192.2.1 then (if bt202.2.2 = bt192.2.2 then ((lookoutlaw42_awake.f k).bind fun t207 => (some t207)) else (some false)) else (some false)) else (some false)) else (some false)) else (some false)))) else (none)) else (none))))
def lookoutlaw42_LexerConcat.j1 : Nat → ByteArray → List (S29) → List (S29) → Int → Int → List (S29) → Int → Int → Bool → Option (Bool)
  | 0, _, _, _, _, _, _, _, _, _ => none
  | k + 1, x0, x5, x8, x9, x10, x11, x12, x13, x89 => if x89 = true then (some false) else (if x10 = 0 then (if 0 ≤ (wrap64 ((x5.length : Int) - 1)) then (if (wrap64 ((x5.length : Int) - 1)) ≤ (x5.length : Int) then ((slices_Clone_Token.f (x5.take ((wrap64 ((x5.length : Int) - 1)) : Int).toNat)).bind fun t214 => (lookoutlaw42_LexerConcat.l0 k x0 x11 x13 t214 x8 (x8.length : Int) 0)) else (none)) else (none)) else (if x13 = x10 then (if x12 = (wrap64 ((wrap64 (x9 + (x0.size : Int))) + 1)) then ((lookoutlaw42_awake.f k).bind fun t209 => (some t209)) else (some false)) else (some false)))
def lookoutlaw42_LexerConcat.l0 : Nat → ByteArray → List (S29) → Int → List (S29) → List (S29) → Int → Int → Option (Bool)
  | 0, _, _, _, _, _, _, _ => none
  | k + 1, x0, x11, x13, x14, x113, x114, x115 => if x115 < x114 then (if 0 ≤ x115 then (if x115 < (x113.length : Int) then (if x14.length < 2932031007402 then (lookoutlaw42_LexerConcat.l0 k x0 x11 x13 (x14 ++ [(⟨(rd_T29 x113 x115).f0, (rd_T29 x113 x115).f1, (⟨(rd_T29 x113 x115).f2.f0, (rd_T29 x113 x115).f2.f1⟩ : S27), wrap64 (((rd_T29 x113 x115).f3) + (wrap64 ((x0.size : Int) + 1)))⟩ : S29)]) x113 x114 (wrap64 (x115 + 1))) else (none)) else (none)) else (none)) else (if x13 = 0 then ((lookoutref42_Same.f k x11 x14).bind fun t222 => (if t222 = true then ((lookoutlaw42_awake.f k).bind fun t223 => (some t223)) else (some false))) else (some false))
end
def lookoutlaw42_LexerConcat.f (k : Nat) (a0 : ByteArray) (a1 : ByteArray) : Option (Bool) := if (a0.size : Int) > 600 then (lookoutlaw42_LexerConcat.j0 k a0 a1 true) else (lookoutlaw42_LexerConcat.j0 k a0 a1 (decide ((a1.size : Int) > 600)))
set_option maxHeartbeats 8000000 in
set_option maxRecDepth 100000 in
theorem lookoutlaw42_LexerConcat.calls (k : Nat) (a0 : ByteArray) (a1 : ByteArray) (r : Bool) (w : World) (hT : Tabs w) (h : lookoutlaw42_LexerConcat.f k a0 a1 = some r) :
    Calls Tryz.prog 5 #[.string a0, .string a1] w fun e w' => e = .returned (.bool r) ∧ Below w.heap.size w w' := by
  have hu29 := Tryz.underlying29
  have HT := Aside0.mk hT
  clear hT
  have HB := Aside0.mk (Below.refl w.heap.size w)
  have H : (if (a0.size : Int) > 600 then (lookoutlaw42_LexerConcat.j0 k a0 a1 true) else (lookoutlaw42_LexerConcat.j0 k a0 a1 (decide ((a1.size : Int) > 600)))) = some r := h
  clear h
  have HC3 := Aside0.mk H
  clear H
  go_enter Tryz.func5, Tryz.ntmps5
  go_upto_region 1 with (fail)
  go_cut [24] (fun v24 wc => ∃ (kq : Nat) (x24_2 : Bool), v24 = .bool x24_2 ∧ Aside0 (lookoutlaw42_LexerConcat.j0 kq a0 a1 x24_2 = some r) ∧ Aside0 (kq ≤ k) ∧ Aside0 (Below w.heap.size w wc))
  case first =>
    have H := HC3.out
    clear HC3
    by_cases c4 : (a0.size : Int) > 600
    · rw [if_pos c4] at H
      have c4b0 : decide (600 < (a0.size : Int)) = true := decide_eq_true c4
      have c4b1 : decide (600 < a0.size) = true := decide_eq_true (by omega)
      clear c4
      (first | rw [c4b0] | (simp only [i64_w, i32_w]; rw [c4b0]) | skip)
      have H' := Aside0.mk H
      clear H
      go_wp2
      go_meet
      case rel => exact ⟨_, (true), (by first | rfl | (simp; done) | (simp [*]; done)), H', ⟨by first | omega | exact Nat.le_refl _⟩, ⟨by repeat (first | (with_reducible first | exact HB.out | apply below_alloc | apply pw_below_drewN | apply below_drew1) | exact HB.out)⟩⟩
    · rw [if_neg c4] at H
      have c4b0 : decide (600 < (a0.size : Int)) = false := decide_eq_false c4
      have c4b1 : decide (600 < a0.size) = false := decide_eq_false (by omega)
      clear c4
      (first | rw [c4b0] | (simp only [i64_w, i32_w]; rw [c4b0]) | skip)
      have H' := Aside0.mk H
      clear H
      go_wp2
      go_meet
      case rel => exact ⟨_, (decide ((a1.size : Int) > 600)), (by first | rfl | (simp; done) | (simp [*]; done)), H', ⟨by first | omega | exact Nat.le_refl _⟩, ⟨by repeat (first | (with_reducible first | exact HB.out | apply below_alloc | apply pw_below_drewN | apply below_drew1) | exact HB.out)⟩⟩
  case rest =>
    clear HC3
    try clear p2
    try clear c4
    try clear c4b0
    try clear c4b1
    obtain ⟨kq, x24_2, rfl, HA, HJ2, HB⟩ := hcut
    cases kq with
    | zero => exact absurd HA.out (by simp [lookoutlaw42_LexerConcat.j0])
    | succ kj2 =>
      have H := HA.out
      clear HA
      simp only [lookoutlaw42_LexerConcat.j0] at H
      by_cases c5 : x24_2 = true
      · subst c5
        have H1 : ((lookoutlaw42_awake.f kj2).bind fun t191 => (some t191)) = some r := by rw [if_pos rfl] at H; exact H
        clear H
        have H := H1
        clear H1
        replace H := Option.bind_eq_some_iff.mp H
        obtain ⟨t191, A60, H⟩ := H
        replace H : (some t191) = some r := H
        have A6 := Aside0.mk A60
        clear A60
        obtain rfl := Option.some.inj H
        go_wp2_with (first | ((with_reducible refine gate_callee (f := 11) rfl ?_); refine goesL_ (some 25) rfl rfl Tryz.func11 (by kernel_rfl) rfl #[] rfl (by (try simp only [List.map_toArray, List.map_cons, List.map_nil]); first | done | rfl | (simp only [List.length_drop, List.length_take]; rfl)) ?_; (with_reducible refine (lookoutlaw42_awake.calls kj2  t191 _ ?side1 A6.out).mono ?_); (case side1 => exact Tabs.below HT.out (by repeat (first | (with_reducible first | exact HB.out | apply below_alloc | apply pw_below_drewN | apply below_drew1) | exact HB.out))); rintro e w7 ⟨rfl, hb⟩; refine ⟨_, rfl, ?_⟩; have n0_ := Aside0.mk (below_step (by repeat (first | (with_reducible first | exact HB.out | apply below_alloc | apply pw_below_drewN | apply below_drew1) | exact HB.out)) hb); clear HB; have HB := n0_; clear n0_; (try clear hb); (try clear hb2); (try clear hk); (try clear hi)))
        go_ret
        exact ⟨by first | rfl | (simp [errW_none, errW_some] <;> rfl) | (simp [*, errW_none, errW_some] <;> rfl), by repeat (first | (with_reducible first | exact HB.out | apply below_alloc | apply pw_below_drewN | apply below_drew1) | exact HB.out)⟩
      · replace c5 := Bool.eq_false_iff.mpr c5
        subst c5
        have H1 : ((lexer_Tokens.f a0).bind fun bt192 => ((lexer_Tokens.f a1).bind fun bt197 => (if a0.size + 1 ≤ 9223372036854775807 then (if (a0 ++ (⟨#[10]⟩ : ByteArray)).size + a1.size ≤ 9223372036854775807 then ((lexer_Tokens.f ((a0 ++ (⟨#[10]⟩ : ByteArray)) ++ a1)).bind fun bt202 => (if bt192.2.2 = 0 then (if (bt192.1.length : Int) = 0 then (lookoutlaw42_LexerConcat.j1 kj2 a0 bt192.1 bt197.1 bt197.2.1 bt197.2.2 bt202.1 bt202.2.1 bt202.2.2 true) else (if 0 ≤ (wrap64 ((bt192.1.length : Int) - 1)) then (if (wrap64 ((bt192.1.length : Int) - 1)) < (bt192.1.length : Int) then (lookoutlaw42_LexerConcat.j1 kj2 a0 bt192.1 bt197.1 bt197.2.1 bt197.2.2 bt202.1 bt202.2.1 bt202.2.2 (!(((rd_T29 bt192.1 (wrap64 ((bt192.1.length : Int) - 1))).f0) == 0) || (!((((rd_T29 bt192.1 (wrap64 ((bt192.1.length : Int) - 1))).f1).toList) == ([] : List UInt8)) || ((!(((rd_T29 bt192.1 (wrap64 ((bt192.1.length : Int) - 1))).f2.f0) == 0) || (!(((rd_T29 bt192.1 (wrap64 ((bt192.1.length : Int) - 1))).f2.f1) == 0))) || (!(((rd_T29 bt192.1 (wrap64 ((bt192.1.length : Int) - 1))).f3) == (a0.size : Int))))))) else (none)) else (none))) else (if (bt192.1.length : Int) = 0 then (if bt192.2.1 ≥ 0 then (if bt192.2.1 < (a0.size : Int) then (if bt202.2.1 = bt192.2.1 then (if bt202.2.2 = bt192.2.2 then ((lookoutlaw42_awake.f kj2).bind fun t207 => (some t207)) else (some false)) else (some false)) else (some false)) else (some false)) else (some false)))) else (none)) else (none)))) = some r := by rw [if_neg (show ¬ (false = true) by decide)] at H; exact H
        clear H
        have H := H1
        clear H1
        replace H := Option.bind_eq_some_iff.mp H
        obtain ⟨⟨t192, t193, t194⟩, A80, H⟩ := H
        replace H : ((lexer_Tokens.f a1).bind fun bt197 => (if a0.size + 1 ≤ 9223372036854775807 then (if (a0 ++ (⟨#[10]⟩ : ByteArray)).size + a1.size ≤ 9223372036854775807 then ((lexer_Tokens.f ((a0 ++ (⟨#[10]⟩ : ByteArray)) ++ a1)).bind fun bt202 => (if t194 = 0 then (if (t192.length : Int) = 0 then (lookoutlaw42_LexerConcat.j1 kj2 a0 t192 bt197.1 bt197.2.1 bt197.2.2 bt202.1 bt202.2.1 bt202.2.2 true) else (if 0 ≤ (wrap64 ((t192.length : Int) - 1)) then (if (wrap64 ((t192.length : Int) - 1)) < (t192.length : Int) then (lookoutlaw42_LexerConcat.j1 kj2 a0 t192 bt197.1 bt197.2.1 bt197.2.2 bt202.1 bt202.2.1 bt202.2.2 (!(((rd_T29 t192 (wrap64 ((t192.length : Int) - 1))).f0) == 0) || (!((((rd_T29 t192 (wrap64 ((t192.length : Int) - 1))).f1).toList) == ([] : List UInt8)) || ((!(((rd_T29 t192 (wrap64 ((t192.length : Int) - 1))).f2.f0) == 0) || (!(((rd_T29 t192 (wrap64 ((t192.length : Int) - 1))).f2.f1) == 0))) || (!(((rd_T29 t192 (wrap64 ((t192.length : Int) - 1))).f3) == (a0.size : Int))))))) else (none)) else (none))) else (if (t192.length : Int) = 0 then (if t193 ≥ 0 then (if t193 < (a0.size : Int) then (if bt202.2.1 = t193 then (if bt202.2.2 = t194 then ((lookoutlaw42_awake.f kj2).bind fun t207 => (some t207)) else (some false)) else (some false)) else (some false)) else (some false)) else (some false)))) else (none)) else (none))) = some r := H
        have A8 := Aside0.mk A80
        clear A80
        replace H := Option.bind_eq_some_iff.mp H
        obtain ⟨⟨t197, t198, t199⟩, A90, H⟩ := H
        replace H : (if a0.size + 1 ≤ 9223372036854775807 then (if (a0 ++ (⟨#[10]⟩ : ByteArray)).size + a1.size ≤ 9223372036854775807 then ((lexer_Tokens.f ((a0 ++ (⟨#[10]⟩ : ByteArray)) ++ a1)).bind fun bt202 => (if t194 = 0 then (if (t192.length : Int) = 0 then (lookoutlaw42_LexerConcat.j1 kj2 a0 t192 t197 t198 t199 bt202.1 bt202.2.1 bt202.2.2 true) else (if 0 ≤ (wrap64 ((t192.length : Int) - 1)) then (if (wrap64 ((t192.length : Int) - 1)) < (t192.length : Int) then (lookoutlaw42_LexerConcat.j1 kj2 a0 t192 t197 t198 t199 bt202.1 bt202.2.1 bt202.2.2 (!(((rd_T29 t192 (wrap64 ((t192.length : Int) - 1))).f0) == 0) || (!((((rd_T29 t192 (wrap64 ((t192.length : Int) - 1))).f1).toList) == ([] : List UInt8)) || ((!(((rd_T29 t192 (wrap64 ((t192.length : Int) - 1))).f2.f0) == 0) || (!(((rd_T29 t192 (wrap64 ((t192.length : Int) - 1))).f2.f1) == 0))) || (!(((rd_T29 t192 (wrap64 ((t192.length : Int) - 1))).f3) == (a0.size : Int))))))) else (none)) else (none))) else (if (t192.length : Int) = 0 then (if t193 ≥ 0 then (if t193 < (a0.size : Int) then (if bt202.2.1 = t193 then (if bt202.2.2 = t194 then ((lookoutlaw42_awake.f kj2).bind fun t207 => (some t207)) else (some false)) else (some false)) else (some false)) else (some false)) else (some false)))) else (none)) else (none)) = some r := H
        have A9 := Aside0.mk A90
        clear A90
        by_cases c10 : a0.size + 1 ≤ 9223372036854775807
        · rw [if_pos c10] at H
          have c10b0 := eq_true c10
          have c10b1 : decide (a0.size + 1 ≤ 9223372036854775807) = true := decide_eq_true c10
          try have c10b2 : (9223372036854775807 < a0.size + 1) = False := eq_false (Nat.not_lt.2 c10)
          by_cases c11 : (a0 ++ (⟨#[10]⟩ : ByteArray)).size + a1.size ≤ 9223372036854775807
          · rw [if_pos c11] at H
            have c11b0 := eq_true c11
            have c11b1 : decide ((a0 ++ (⟨#[10]⟩ : ByteArray)).size + a1.size ≤ 9223372036854775807) = true := decide_eq_true c11
            try have c11b3 : (9223372036854775807 < a0.size + 1 + a1.size) = False := eq_false (Nat.not_lt.2 (by have z_ := c11; simp only [ByteArray.size_append'] at z_; exact z_))
            try have c11b2 : (9223372036854775807 < (a0 ++ (⟨#[10]⟩ : ByteArray)).size + a1.size) = False := eq_false (Nat.not_lt.2 c11)
            replace H := Option.bind_eq_some_iff.mp H
            obtain ⟨⟨t202, t203, t204⟩, A120, H⟩ := H
            replace H : (if t194 = 0 then (if (t192.length : Int) = 0 then (lookoutlaw42_LexerConcat.j1 kj2 a0 t192 t197 t198 t199 t202 t203 t204 true) else (if 0 ≤ (wrap64 ((t192.length : Int) - 1)) then (if (wrap64 ((t192.length : Int) - 1)) < (t192.length : Int) then (lookoutlaw42_LexerConcat.j1 kj2 a0 t192 t197 t198 t199 t202 t203 t204 (!(((rd_T29 t192 (wrap64 ((t192.length : Int) - 1))).f0) == 0) || (!((((rd_T29 t192 (wrap64 ((t192.length : Int) - 1))).f1).toList) == ([] : List UInt8)) || ((!(((rd_T29 t192 (wrap64 ((t192.length : Int) - 1))).f2.f0) == 0) || (!(((rd_T29 t192 (wrap64 ((t192.length : Int) - 1))).f2.f1) == 0))) || (!(((rd_T29 t192 (wrap64 ((t192.length : Int) - 1))).f3) == (a0.size : Int))))))) else (none)) else (none))) else (if (t192.length : Int) = 0 then (if t193 ≥ 0 then (if t193 < (a0.size : Int) then (if t203 = t193 then (if t204 = t194 then ((lookoutlaw42_awake.f kj2).bind fun t207 => (some t207)) else (some false)) else (some false)) else (some false)) else (some false)) else (some false))) = some r := H
            have A12 := Aside0.mk A120
            clear A120
            by_cases c13 : t194 = 0
            · rw [if_pos c13] at H
              have c13b0 : (t194 == 0) = true := beq_iff_eq.mpr c13
              have c13b1 : (t194 != 0) = false := bne_eq_false_iff_eq.mpr c13
              clear c13
              have HC14 := Aside0.mk H
              clear H
              go_upto_region 8 with (first | ((with_reducible refine gate_callee (f := 17) rfl ?_); refine goesL_ (some 28) rfl rfl Tryz.func17 (by kernel_rfl) rfl #[.string a0] rfl (by (try simp only [List.map_toArray, List.map_cons, List.map_nil]); first | done | rfl | (simp only [List.length_drop, List.length_take]; rfl)) ?_; (with_reducible refine (lexer_Tokens.calls a0 t192 t193 t194 _ ?side1 A8.out).mono ?_); (case side1 => exact Tabs.below HT.out (by repeat (first | (with_reducible first | exact HB.out | apply below_alloc | apply pw_below_drewN | apply below_drew1) | exact HB.out))); rintro e w15 ⟨v195, rfl, ho0, hb⟩; refine ⟨_, rfl, ?_⟩; have n0_ := Aside0.mk (Kd.R_lower ho0 (below_size (by repeat (first | (with_reducible first | exact HB.out | apply below_alloc | apply pw_below_drewN | apply below_drew1) | exact HB.out)))); have n1_ := Aside0.mk (below_step (by repeat (first | (with_reducible first | exact HB.out | apply below_alloc | apply pw_below_drewN | apply below_drew1) | exact HB.out)) hb); clear HB; have HO196 := n0_; have HB := n1_; clear n0_ n1_; (try clear hb); (try clear hb2); (try clear hk); (try clear hi); (try clear ho0)) | ((with_reducible refine gate_callee (f := 17) rfl ?_); refine goesL_ (some 34) rfl rfl Tryz.func17 (by kernel_rfl) rfl #[.string a1] rfl (by (try simp only [List.map_toArray, List.map_cons, List.map_nil]); first | done | rfl | (simp only [List.length_drop, List.length_take]; rfl)) ?_; (with_reducible refine (lexer_Tokens.calls a1 t197 t198 t199 _ ?side1 A9.out).mono ?_); (case side1 => exact Tabs.below HT.out (by repeat (first | (with_reducible first | exact HB.out | apply below_alloc | apply pw_below_drewN | apply below_drew1) | exact HB.out))); rintro e w16 ⟨v200, rfl, ho0, hb⟩; refine ⟨_, rfl, ?_⟩; have n0_ := Aside0.mk (Kd.R_elder' (by (with_reducible repeat (first | apply Kd.R_alloc | apply Kd.R_drewN | apply Kd.R_drew)); exact HO196.out) (Kd.R_base ho0) hb); have n1_ := Aside0.mk (Kd.R_lower (Kd.R_new' ho0 (Kd.R_lt (by (with_reducible repeat (first | apply Kd.R_alloc | apply Kd.R_drewN | apply Kd.R_drew)); exact HO196.out))) (below_size (by repeat (first | (with_reducible first | exact HB.out | apply below_alloc | apply pw_below_drewN | apply below_drew1) | exact HB.out)))); have n2_ := Aside0.mk (below_step (by repeat (first | (with_reducible first | exact HB.out | apply below_alloc | apply pw_below_drewN | apply below_drew1) | exact HB.out)) hb); clear HO196; clear HB; have HO196 := n0_; have HO201 := n1_; have HB := n2_; clear n0_ n1_ n2_; (try clear hb); (try clear hb2); (try clear hk); (try clear hi); (try clear ho0)) | ((with_reducible refine gate_callee (f := 17) rfl ?_); refine goesL_ (some 43) rfl rfl Tryz.func17 (by kernel_rfl) rfl #[.string ((a0 ++ (⟨#[10]⟩ : ByteArray)) ++ a1)] rfl (by (try simp only [List.map_toArray, List.map_cons, List.map_nil]); first | done | rfl | (simp only [List.length_drop, List.length_take]; rfl)) ?_; (with_reducible refine (lexer_Tokens.calls ((a0 ++ (⟨#[10]⟩ : ByteArray)) ++ a1) t202 t203 t204 _ ?side1 A12.out).mono ?_); (case side1 => exact Tabs.below HT.out (by repeat (first | (with_reducible first | exact HB.out | apply below_alloc | apply pw_below_drewN | apply below_drew1) | exact HB.out))); rintro e w17 ⟨v205, rfl, ho0, hb⟩; refine ⟨_, rfl, ?_⟩; have n0_ := Aside0.mk (Kd.R_elder' (by (with_reducible repeat (first | apply Kd.R_alloc | apply Kd.R_drewN | apply Kd.R_drew)); exact HO196.out) (Kd.R_base ho0) hb); have n1_ := Aside0.mk (Kd.R_elder' (by (with_reducible repeat (first | apply Kd.R_alloc | apply Kd.R_drewN | apply Kd.R_drew)); exact HO201.out) (Kd.R_base ho0) hb); have n2_ := Aside0.mk (Kd.R_lower (Kd.R_new' (Kd.R_new' ho0 (Kd.R_lt (by (with_reducible repeat (first | apply Kd.R_alloc | apply Kd.R_drewN | apply Kd.R_drew)); exact HO196.out))) (Kd.R_lt (by (with_reducible repeat (first | apply Kd.R_alloc | apply Kd.R_drewN | apply Kd.R_drew)); exact HO201.out))) (below_size (by repeat (first | (with_reducible first | exact HB.out | apply below_alloc | apply pw_below_drewN | apply below_drew1) | exact HB.out)))); have n3_ := Aside0.mk (below_step (by repeat (first | (with_reducible first | exact HB.out | apply below_alloc | apply pw_below_drewN | apply below_drew1) | exact HB.out)) hb); clear HO196; clear HO201; clear HB; have HO196 := n0_; have HO201 := n1_; have HO206 := n2_; have HB := n3_; clear n0_ n1_ n2_ n3_; (try clear hb); (try clear hb2); (try clear hk); (try clear hi); (try clear ho0)))
              (try simp only [Act.put, List.setIfInBounds_toArray, List.set_cons_zero, List.set_cons_succ])
              go_cut [89] (fun v89 wc => ∃ (kq : Nat) (x89_13 : Bool), v89 = .bool x89_13 ∧ Aside0 (lookoutlaw42_LexerConcat.j1 kq a0 t192 t197 t198 t199 t202 t203 t204 x89_13 = some r) ∧ Aside0 (kq ≤ kj2) ∧ Aside0 (Kd.R k29 29 wc w.heap.size (fun k_ => some k_ ≠ (v200 : Value).ownBlock ∧ some k_ ≠ (v205 : Value).ownBlock) v195 t192) ∧ Aside0 (Kd.R k29 29 wc w.heap.size (fun k_ => some k_ ≠ (v195 : Value).ownBlock ∧ some k_ ≠ (v205 : Value).ownBlock) v200 t197) ∧ Aside0 (Kd.R k29 29 wc w.heap.size (fun k_ => some k_ ≠ (v195 : Value).ownBlock ∧ some k_ ≠ (v200 : Value).ownBlock) v205 t202) ∧ Aside0 (Below w.heap.size w wc))
              case first =>
                have H := HC14.out
                clear HC14
                by_cases c18 : (t192.length : Int) = 0
                · rw [if_pos c18] at H
                  have c18b0 : ((t192.length : Int) == 0) = true := beq_iff_eq.mpr c18
                  have c18b1 : ((t192.length : Int) != 0) = false := bne_eq_false_iff_eq.mpr c18
                  clear c18
                  (first | rw [c18b0] | (simp only [i64_w, i32_w]; rw [c18b0]) | skip)
                  have H' := Aside0.mk H
                  clear H
                  obtain ⟨Ao19, co19, eo19⟩ := Kd.R_slice HO196.out
                  subst eo19
                  go_wp2
                  go_meet
                  case rel => exact ⟨_, (true), (by first | rfl | (simp; done) | (simp [*]; done)), H', ⟨by have := HJ2.out; first | omega | exact Nat.le_refl _⟩, ⟨by (with_reducible repeat (first | apply Kd.R_alloc | apply Kd.R_drewN | apply Kd.R_drew)); exact Kd.R_mono HO196.out (fun _ hk => ⟨hk.1.2, hk.2⟩)⟩, ⟨by (with_reducible repeat (first | apply Kd.R_alloc | apply Kd.R_drewN | apply Kd.R_drew)); exact Kd.R_mono HO201.out (fun _ hk => ⟨hk.1.2, hk.2⟩)⟩, ⟨by (with_reducible repeat (first | apply Kd.R_alloc | apply Kd.R_drewN | apply Kd.R_drew)); exact Kd.R_mono HO206.out (fun _ hk => ⟨hk.1.2, hk.2⟩)⟩, ⟨by repeat (first | (with_reducible first | exact HB.out | apply below_alloc | apply pw_below_drewN | apply below_drew1) | exact HB.out)⟩⟩
                · rw [if_neg c18] at H
                  have c18b0 : ((t192.length : Int) == 0) = false := beq_eq_false_iff_ne.mpr c18
                  have c18b1 : ((t192.length : Int) != 0) = true := bne_iff_ne.mpr c18
                  have c18b2 : ¬ (t192 = []) := fun h_ => c18 (by rw [h_]; rfl)
                  (first | rw [c18b0] | (simp only [i64_w, i32_w]; rw [c18b0]) | skip)
                  obtain ⟨ji20, hji20⟩ : ∃ j_ : Int, (wrap64 ((t192.length : Int) - 1)) = j_ := ⟨_, rfl⟩
                  replace H : (if 0 ≤ (ji20) then (if (ji20) < (t192.length : Int) then (lookoutlaw42_LexerConcat.j1 kj2 a0 t192 t197 t198 t199 t202 t203 t204 (!(((rd_T29 t192 (ji20)).f0) == 0) || (!((((rd_T29 t192 (ji20)).f1).toList) == ([] : List UInt8)) || ((!(((rd_T29 t192 (ji20)).f2.f0) == 0) || (!(((rd_T29 t192 (ji20)).f2.f1) == 0))) || (!(((rd_T29 t192 (ji20)).f3) == (a0.size : Int))))))) else (none)) else (none)) = some r := by first | (rw [hji20] at H; exact H) | (simp only [hji20] at H ⊢; exact H)
                  have hji20w : (IntKind.i64.wrap ((t192.length : Int) - 1)) = ji20 := (i64_w _).trans hji20
                  by_cases c21 : 0 ≤ (ji20)
                  · rw [if_pos c21] at H
                    have c21b0 : decide (0 ≤ (ji20)) = true := decide_eq_true c21
                    clear c21
                    by_cases c22 : (ji20) < (t192.length : Int)
                    · rw [if_pos c22] at H
                      have c22b0 : decide ((ji20) < (t192.length : Int)) = true := decide_eq_true c22
                      clear c22
                      have H' := Aside0.mk H
                      clear H
                      obtain ⟨Ao23, co23, eo23⟩ := Kd.R_slice HO196.out
                      subst eo23
                      have p208 : 0 ≤ ((ji20) : Int) := of_decide_eq_true (by first | (with_reducible assumption) | assumption)
                      have q208 : (ji20) < (t192.length : Int) := of_decide_eq_true (by first | (with_reducible assumption) | assumption)
                      obtain ⟨ad208, e208, hx208_0, hx208_1, hx208_2, hx208_3, hx208_4⟩ := at_T29 (Kd.R_reads' HO196.out).2.2 (ji20) p208 q208
                      cases e208
                      replace p208 := eq_true p208
                      replace q208 := eq_true q208
                      go_wp2
                      go_meet
                      case rel => exact ⟨_, ((!(((rd_T29 t192 (ji20)).f0) == 0) || (!((((rd_T29 t192 (ji20)).f1).toList) == ([] : List UInt8)) || ((!(((rd_T29 t192 (ji20)).f2.f0) == 0) || (!(((rd_T29 t192 (ji20)).f2.f1) == 0))) || (!(((rd_T29 t192 (ji20)).f3) == (a0.size : Int))))))), (by first | rfl | (simp; done) | (simp only [← hji20] <;> (first | rfl | simp)) | (simp [*]; done)), H', ⟨by have := HJ2.out; first | omega | exact Nat.le_refl _⟩, ⟨by (with_reducible repeat (first | apply Kd.R_alloc | apply Kd.R_drewN | apply Kd.R_drew)); exact Kd.R_mono HO196.out (fun _ hk => ⟨hk.1.2, hk.2⟩)⟩, ⟨by (with_reducible repeat (first | apply Kd.R_alloc | apply Kd.R_drewN | apply Kd.R_drew)); exact Kd.R_mono HO201.out (fun _ hk => ⟨hk.1.2, hk.2⟩)⟩, ⟨by (with_reducible repeat (first | apply Kd.R_alloc | apply Kd.R_drewN | apply Kd.R_drew)); exact Kd.R_mono HO206.out (fun _ hk => ⟨hk.1.2, hk.2⟩)⟩, ⟨by repeat (first | (with_reducible first | exact HB.out | apply below_alloc | apply pw_below_drewN | apply below_drew1) | exact HB.out)⟩⟩
                    · rw [if_neg c22] at H
                      exact absurd H (by simp)
                  · rw [if_neg c21] at H
                    exact absurd H (by simp)
              case rest =>
                (try clear hji20w)
                (try clear hji20)
                clear HC14
                try clear c1
                try clear c2
                try clear p2
                try clear q2
                try clear hx2
                try clear c4
                try clear c4b0
                try clear c4b1
                try clear c5
                try clear p6
                try clear c10
                try clear c10b0
                try clear c10b1
                try clear c10b2
                try clear c11
                try clear c11b0
                try clear c11b1
                try clear c11b2
                try clear c13
                try clear c13b0
                try clear c13b1
                try clear c17
                try clear c18
                try clear c18b0
                try clear c18b1
                try clear c18b2
                try clear p20
                try clear q20
                try clear hx20
                try clear c21
                try clear c21b0
                try clear c22
                try clear c22b0
                try clear hx208_0
                try clear hx208_1
                try clear hx208_2
                try clear hx208_3
                try clear hx208_4
                try clear p2
                try clear p208
                try clear q208
                obtain ⟨kq, x89_13, rfl, HA, HJ13, HO_5, HO_8, HO_11, HB⟩ := hcut
                cases kq with
                | zero => exact absurd HA.out (by simp [lookoutlaw42_LexerConcat.j1])
                | succ kj13 =>
                  have H := HA.out
                  clear HA
                  simp only [lookoutlaw42_LexerConcat.j1] at H
                  by_cases c24 : x89_13 = true
                  · subst c24
                    have H1 : (some false) = some r := by rw [if_pos rfl] at H; exact H
                    clear H
                    have H := H1
                    clear H1
                    obtain rfl := Option.some.inj H
                    go_wp2
                    go_ret
                    exact ⟨by first | rfl | (simp [errW_none, errW_some] <;> rfl) | (simp [*, errW_none, errW_some] <;> rfl), by repeat (first | (with_reducible first | exact HB.out | apply below_alloc | apply pw_below_drewN | apply below_drew1) | exact HB.out)⟩
                  · replace c24 := Bool.eq_false_iff.mpr c24
                    subst c24
                    have H1 : (if t199 = 0 then (if 0 ≤ (wrap64 ((t192.length : Int) - 1)) then (if (wrap64 ((t192.length : Int) - 1)) ≤ (t192.length : Int) then ((slices_Clone_Token.f (t192.take ((wrap64 ((t192.length : Int) - 1)) : Int).toNat)).bind fun t214 => (lookoutlaw42_LexerConcat.l0 kj13 a0 t202 t204 t214 t197 (t197.length : Int) 0)) else (none)) else (none)) else (if t204 = t199 then (if t203 = (wrap64 ((wrap64 (t198 + (a0.size : Int))) + 1)) then ((lookoutlaw42_awake.f kj13).bind fun t209 => (some t209)) else (some false)) else (some false))) = some r := by rw [if_neg (show ¬ (false = true) by decide)] at H; exact H
                    clear H
                    have H := H1
                    clear H1
                    by_cases c25 : t199 = 0
                    · rw [if_pos c25] at H
                      have c25b0 : (t199 == 0) = true := beq_iff_eq.mpr c25
                      have c25b1 : (t199 != 0) = false := bne_eq_false_iff_eq.mpr c25
                      clear c25
                      obtain ⟨ji26, hji26⟩ : ∃ j_ : Int, (wrap64 ((t192.length : Int) - 1)) = j_ := ⟨_, rfl⟩
                      replace H : (if 0 ≤ (ji26) then (if (ji26) ≤ (t192.length : Int) then ((slices_Clone_Token.f (t192.take ((ji26) : Int).toNat)).bind fun t214 => (lookoutlaw42_LexerConcat.l0 kj13 a0 t202 t204 t214 t197 (t197.length : Int) 0)) else (none)) else (none)) = some r := by first | (rw [hji26] at H; exact H) | (simp only [hji26] at H ⊢; exact H)
                      have hji26w : (IntKind.i64.wrap ((t192.length : Int) - 1)) = ji26 := (i64_w _).trans hji26
                      by_cases c27 : 0 ≤ (ji26)
                      · rw [if_pos c27] at H
                        have c27b0 := eq_true c27
                        have c27b1 : decide (0 ≤ (ji26)) = true := decide_eq_true c27
                        clear c27
                        by_cases c28 : (ji26) ≤ (t192.length : Int)
                        · rw [if_pos c28] at H
                          have c28b0 := eq_true c28
                          have c28b1 : decide ((ji26) ≤ (t192.length : Int)) = true := decide_eq_true c28
                          clear c28
                          obtain ⟨y210, hy210⟩ : ∃ y_ : List (S29), y_ = (t192.take ((ji26) : Int).toNat) := ⟨_, rfl⟩
                          replace H : ((slices_Clone_Token.f y210).bind fun t214 => (lookoutlaw42_LexerConcat.l0 kj13 a0 t202 t204 t214 t197 (t197.length : Int) 0)) = some r := by first | (rw [hy210]; with_reducible exact H) | (have H2_ := (Option.bind_some _ _).symm.trans H; rw [hy210]; with_reducible exact H2_) | (have H2_ := (Option.bind_some _ _).symm.trans H; with_reducible exact H2_) | with_reducible exact H | (rw [hy210]; exact H) | exact H
                          have Ny210 := Aside0.mk hy210
                          clear hy210
                          replace H := Option.bind_eq_some_iff.mp H
                          obtain ⟨t214, A290, H⟩ := H
                          replace H : (lookoutlaw42_LexerConcat.l0 kj13 a0 t202 t204 t214 t197 (t197.length : Int) 0) = some r := H
                          have A29 := Aside0.mk A290
                          clear A290
                          have H' := Aside0.mk H
                          clear H
                          obtain ⟨Ao30, co30, eo30⟩ := Kd.R_slice HO_5.out
                          subst eo30
                          have q31 : ((ji26) : Int) ≤ ((t192.length : Int) : Int) := of_decide_eq_true (by first | (with_reducible assumption) | assumption)
                          obtain ⟨i031, hi031, _, hsz31, _⟩ := info_parts info29
                          have hroom31 : t192.length ≤ co30 := (Kd.R_reads' HO_5.out).2.1
                          have hC31 : Kd.C k29 _ Ao30 t192.length t192 := (Kd.R_reads' HO_5.out).2.2
                          have hcut31 := cut_to (P := Tryz.prog) 38 29 .i64 Tryz.underlying38 hi031 Ao30 t192.length co30 (ji26) (of_decide_eq_true (by first | (with_reducible assumption) | assumption)) q31 hroom31
                          have hr31 := Kd.C_take (m := ((ji26) : Int).toNat) hC31 (by omega)
                          have hy31 : y210.length = ((ji26) : Int).toNat := (by rw [Ny210.out, List.length_take]; omega)
                          rw [← Ny210.out] at hr31
                          rw [← hy31] at hcut31
                          have HR213 := Aside0.mk hr31
                          have HC213 := Aside0.mk (show y210.length ≤ co30 from by omega)
                          clear hr31 hC31 hroom31 hi031 hsz31
                          have KY31 := Aside0.mk hy31
                          clear hy31
                          have KL31 := Aside0.mk (show ((ji26) : Int).toNat ≤ t192.length from by omega)
                          replace q31 := eq_true q31
                          go_wp2_with (first | ((with_reducible refine gate_callee (f := 18) rfl ?_); refine goesL_ (some 112) rfl rfl Tryz.func18 (by kernel_rfl) rfl #[.slice Ao30 y210.length co30] rfl (by (try simp only [List.map_toArray, List.map_cons, List.map_nil]); first | done | rfl | (simp only [List.length_drop, List.length_take]; rfl)) ?_; (with_reducible refine (slices_Clone_Token.calls _ _ y210 t214 _ ?side1 ?side2 A29.out).mono ?_); (case side1 => repeat (first | exact (by repeat (first | (with_reducible exact HR213.out) | (with_reducible refine Kd.C_alloc ?_ _) | (with_reducible refine Kd.C_drewN ?_ _) | (with_reducible refine Kd.C_drew ?_) | exact HR213.out)) | (with_reducible refine Kd.C_alloc ?_ _) | (with_reducible refine Kd.C_drewN ?_ _) | (with_reducible refine Kd.C_drew ?_))); (case side2 => exact HC213.out); rintro e w32 ⟨v215, rfl, ho0, hb⟩; refine ⟨_, rfl, ?_⟩; have n0_ := Aside0.mk (Kd.R_elder' (by (with_reducible repeat (first | apply Kd.R_alloc | apply Kd.R_drewN | apply Kd.R_drew)); exact HO_5.out) (Kd.R_base ho0) hb); have n1_ := Aside0.mk (Kd.R_elder' (by (with_reducible repeat (first | apply Kd.R_alloc | apply Kd.R_drewN | apply Kd.R_drew)); exact HO_8.out) (Kd.R_base ho0) hb); have n2_ := Aside0.mk (Kd.R_elder' (by (with_reducible repeat (first | apply Kd.R_alloc | apply Kd.R_drewN | apply Kd.R_drew)); exact HO_11.out) (Kd.R_base ho0) hb); have n3_ := Aside0.mk (Kd.R_lower (Kd.R_new' (Kd.R_new' (Kd.R_new' ho0 (Kd.R_lt (by (with_reducible repeat (first | apply Kd.R_alloc | apply Kd.R_drewN | apply Kd.R_drew)); exact HO_5.out))) (Kd.R_lt (by (with_reducible repeat (first | apply Kd.R_alloc | apply Kd.R_drewN | apply Kd.R_drew)); exact HO_8.out))) (Kd.R_lt (by (with_reducible repeat (first | apply Kd.R_alloc | apply Kd.R_drewN | apply Kd.R_drew)); exact HO_11.out))) (below_size (by repeat (first | (with_reducible first | exact HB.out | apply below_alloc | apply pw_below_drewN | apply below_drew1) | exact HB.out)))); have n4_ := Aside0.mk (Kd.C_below (by repeat (first | (with_reducible exact HR213.out) | (with_reducible refine Kd.C_alloc ?_ _) | (with_reducible refine Kd.C_drewN ?_ _) | (with_reducible refine Kd.C_drew ?_) | exact HR213.out)) hb); have n5_ := Aside0.mk (below_step (by repeat (first | (with_reducible first | exact HB.out | apply below_alloc | apply pw_below_drewN | apply below_drew1) | exact HB.out)) hb); clear HO_5; clear HO_8; clear HO_11; clear HR213; clear HB; have HO_5 := n0_; have HO_8 := n1_; have HO_11 := n2_; have HO216 := n3_; have HR213 := n4_; have HB := n5_; clear n0_ n1_ n2_ n3_ n4_ n5_; (try clear hb); (try clear hb2); (try clear hk); (try clear hi); (try clear ho0); obtain ⟨Ao33, co33, eo33⟩ := Kd.R_slice HO_8.out; subst eo33))
                          go_loopg [14, 115] kj13 (fun kq v14 v115 w' => ∃ (x14_3 : List (S29)) (x115_3 : Int), v115 = .int .i64 x115_3 ∧ Aside0 (lookoutlaw42_LexerConcat.l0 kq a0 t202 t204 x14_3 t197 (t197.length : Int) x115_3 = some r) ∧ Aside0 (kq ≤ kj13) ∧ Aside0 (Kd.R k29 29 w' w.heap.size (fun k_ => some k_ ≠ (v14 : Value).ownBlock ∧ some k_ ≠ ((.slice Ao33 t197.length co33) : Value).ownBlock) v205 t202) ∧ Aside0 (Kd.R k29 29 w' w.heap.size (fun k_ => some k_ ≠ (v205 : Value).ownBlock ∧ some k_ ≠ ((.slice Ao33 t197.length co33) : Value).ownBlock) v14 x14_3) ∧ Aside0 (Kd.R k29 29 w' w.heap.size (fun k_ => some k_ ≠ (v205 : Value).ownBlock ∧ some k_ ≠ (v14 : Value).ownBlock) (.slice Ao33 t197.length co33) t197) ∧ Aside0 (Below w.heap.size w w'))
                          case atStart => exact ⟨(t214), (0), (by first | rfl | (simp; done) | (simp [*]; done)), H', ⟨Nat.le_refl _⟩, ⟨by (with_reducible repeat (first | apply Kd.R_alloc | apply Kd.R_drewN | apply Kd.R_drew)); exact Kd.R_mono HO_11.out (fun _ hk => ⟨hk.2, hk.1.2⟩)⟩, ⟨by (with_reducible repeat (first | apply Kd.R_alloc | apply Kd.R_drewN | apply Kd.R_drew)); exact Kd.R_mono HO216.out (fun _ hk => ⟨hk.2, hk.1.2⟩)⟩, ⟨by (with_reducible repeat (first | apply Kd.R_alloc | apply Kd.R_drewN | apply Kd.R_drew)); exact Kd.R_mono HO_8.out (fun _ hk => ⟨hk.1.2, hk.2⟩)⟩, ⟨by repeat (first | (with_reducible first | exact HB.out | apply below_alloc | apply pw_below_drewN | apply below_drew1) | exact HB.out)⟩⟩
                          case round =>
                            clear H'
                            try clear c1
                            try clear c2
                            try clear p2
                            try clear q2
                            try clear hx2
                            try clear q3
                            try clear c4
                            try clear c4b0
                            try clear c4b1
                            try clear c5
                            try clear p6
                            try clear c10
                            try clear c10b0
                            try clear c10b1
                            try clear c10b2
                            try clear c11
                            try clear c11b0
                            try clear c11b1
                            try clear c11b2
                            try clear c13
                            try clear c13b0
                            try clear c13b1
                            try clear c17
                            try clear c18
                            try clear c18b0
                            try clear c18b1
                            try clear c18b2
                            try clear p20
                            try clear q20
                            try clear hx20
                            try clear c21
                            try clear c21b0
                            try clear c22
                            try clear c22b0
                            try clear c24
                            try clear c25
                            try clear c25b0
                            try clear c25b1
                            try clear c27
                            try clear c27b0
                            try clear c27b1
                            try clear c28
                            try clear c28b0
                            try clear c28b1
                            try clear q31
                            try clear hx208_0
                            try clear hx208_1
                            try clear hx208_2
                            try clear hx208_3
                            try clear hx208_4
                            try clear p2
                            try clear p20
                            try clear p208
                            try clear p6
                            try clear q2
                            try clear q20
                            try clear q208
                            try clear q31
                            obtain ⟨x14_3, x115_3, rfl, HA, HK3, HO_11, HO_14, HO_113, HB⟩ := hrel
                            cases gk with
                            | zero => exact absurd HA.out (by simp [lookoutlaw42_LexerConcat.l0])
                            | succ k3 =>
                              have H := HA.out
                              clear HA
                              simp only [lookoutlaw42_LexerConcat.l0] at H
                              by_cases c34 : x115_3 < (t197.length : Int)
                              · rw [if_pos c34] at H
                                have c34b0 : decide (x115_3 < (t197.length : Int)) = true := decide_eq_true c34
                                clear c34
                                by_cases c35 : 0 ≤ x115_3
                                · rw [if_pos c35] at H
                                  have c35b0 : decide (0 ≤ x115_3) = true := decide_eq_true c35
                                  clear c35
                                  by_cases c36 : x115_3 < (t197.length : Int)
                                  · rw [if_pos c36] at H
                                    have c36b0 : decide (x115_3 < (t197.length : Int)) = true := decide_eq_true c36
                                    clear c36
                                    by_cases c37 : x14_3.length < 2932031007402
                                    · rw [if_pos c37] at H
                                      have LMc37 := Aside0.mk c37
                                      clear c37
                                      obtain ⟨y219, hy219⟩ : ∃ y_ : List (S29), y_ = (x14_3 ++ [(⟨(rd_T29 t197 x115_3).f0, (rd_T29 t197 x115_3).f1, (⟨(rd_T29 t197 x115_3).f2.f0, (rd_T29 t197 x115_3).f2.f1⟩ : S27), wrap64 (((rd_T29 t197 x115_3).f3) + (wrap64 ((a0.size : Int) + 1)))⟩ : S29)]) := ⟨_, rfl⟩
                                      replace H : (lookoutlaw42_LexerConcat.l0 k3 a0 t202 t204 y219 t197 (t197.length : Int) (wrap64 (x115_3 + 1))) = some r := by first | (rw [hy219]; with_reducible exact H) | (have H2_ := (Option.bind_some _ _).symm.trans H; rw [hy219]; with_reducible exact H2_) | (have H2_ := (Option.bind_some _ _).symm.trans H; with_reducible exact H2_) | with_reducible exact H | (rw [hy219]; exact H) | exact H
                                      have Ny219 := Aside0.mk hy219
                                      clear hy219
                                      have H' := Aside0.mk H
                                      clear H
                                      have p217 : 0 ≤ (x115_3 : Int) := of_decide_eq_true (by first | (with_reducible assumption) | assumption)
                                      have q217 : x115_3 < (t197.length : Int) := of_decide_eq_true (by first | (with_reducible assumption) | assumption)
                                      obtain ⟨ad217, e217, hx217_0, hx217_1, hx217_2, hx217_3, hx217_4⟩ := at_T29 (Kd.R_reads' HO_113.out).2.2 x115_3 p217 q217
                                      cases e217
                                      replace p217 := eq_true p217
                                      replace q217 := eq_true q217
                                      go_wp2_with (first | ((with_reducible refine gate_builtin (b := .append) (xs := #[.tmp 126, .tmp 128]) rfl ?_); (try (refine gate_guard (by rfl) ?_; dsimp only)); at_builtin; refine Kd.R_append k29 (w0 := w) w.heap.size rfl (.tmp 126) (.tmp 128) 38 29 (.agg #[(.int .i64 0), (.string ⟨#[]⟩), (.int .i64 0), (.int .i64 0), (.int .i64 0)]) 48 rfl Tryz.underlying38 info29 rfl (by decide) (by omega) u14 x14_3 (⟨(rd_T29 t197 x115_3).f0, (rd_T29 t197 x115_3).f1, (⟨(rd_T29 t197 x115_3).f2.f0, (rd_T29 t197 x115_3).f2.f1⟩ : S27), wrap64 (((rd_T29 t197 x115_3).f3) + (wrap64 ((a0.size : Int) + 1)))⟩ : S29) [.int .i64 ((rd_T29 t197 x115_3).f0), .string ((rd_T29 t197 x115_3).f1), .int .i64 ((rd_T29 t197 x115_3).f2.f0), .int .i64 ((rd_T29 t197 x115_3).f2.f1), .int .i64 (wrap64 (((rd_T29 t197 x115_3).f3) + (wrap64 ((a0.size : Int) + 1))))] (fun k_ => some k_ ≠ (v205 : Value).ownBlock ∧ some k_ ≠ (.slice (some ad217) t197.length co33 : Value).ownBlock ∧ True) (fun _ => False) rfl (by first | (go_simp; done) | (go_simp; rfl)) ?aP (fun _ hk => hk.elim) ?aF ?aO ?aB ?aS ?aL ?_; (case aP => exact k29_mkM _ _ _ (⟨(rd_T29 t197 x115_3).f0, (rd_T29 t197 x115_3).f1, (⟨(rd_T29 t197 x115_3).f2.f0, (rd_T29 t197 x115_3).f2.f1⟩ : S27), wrap64 (((rd_T29 t197 x115_3).f3) + (wrap64 ((a0.size : Int) + 1)))⟩ : S29)); (case aB => exact (by repeat (first | (with_reducible first | exact HB.out | apply below_alloc | apply pw_below_drewN | apply below_drew1) | exact HB.out))); (case aF => exact (fun k_ hk => ⟨Kd.fresh' (Kd.R_lt (by (with_reducible repeat (first | apply Kd.R_alloc | apply Kd.R_drewN | apply Kd.R_drew)); exact HO_11.out)) k_ hk, Kd.fresh' (Kd.R_lt (by (with_reducible repeat (first | apply Kd.R_alloc | apply Kd.R_drewN | apply Kd.R_drew)); exact HO_113.out)) k_ hk, trivial⟩)); (case aO => exact (by (with_reducible repeat (first | apply Kd.R_alloc | apply Kd.R_drewN | apply Kd.R_drew)); exact Kd.R_mono HO_14.out (fun _ hk => ⟨hk.1, hk.2, trivial⟩))); (case aS => exact (below_size (by repeat (first | (with_reducible first | exact HB.out | apply below_alloc | apply pw_below_drewN | apply below_drew1) | exact HB.out)))); (case aL => have := LMc37.out; omega); intro v220 w40 ho hb hg hat; rw [← Ny219.out] at ho; have n0_ := Aside0.mk (Kd.R_after (ok := (fun k_ => some k_ ≠ (.slice (some ad217) t197.length co33 : Value).ownBlock ∧ True)) (by (with_reducible repeat (first | apply Kd.R_alloc | apply Kd.R_drewN | apply Kd.R_drew)); exact Kd.R_mono HO_11.out (fun _ hk => ⟨⟨hk.2, trivial⟩, hk.1⟩)) hg hat); have n1_ := Aside0.mk (Kd.R_after (ok := (fun k_ => some k_ ≠ (v205 : Value).ownBlock ∧ True)) (by (with_reducible repeat (first | apply Kd.R_alloc | apply Kd.R_drewN | apply Kd.R_drew)); exact Kd.R_mono HO_113.out (fun _ hk => ⟨⟨hk.1, trivial⟩, hk.2⟩)) hg hat); have n3_ := Aside0.mk (hb); have n4_ := Aside0.mk (ho); clear HO_11; clear HO_113; clear HB; clear HO_14; have HO_11 := n0_; have HO_113 := n1_; have HB := n3_; have HO221 := n4_; clear n0_ n1_ n3_ n4_; clear ho hb hg hat))
                                      go_roundg k3
                                      case measure => have := HJ2.out; have := HJ13.out; have := HK3.out; omega
                                      case rel => exact ⟨(y219), (wrap64 (x115_3 + 1)), (by first | rfl | (simp; done) | (simp [*]; done)), H', ⟨by have := HJ2.out; have := HJ13.out; have := HK3.out; omega⟩, ⟨by (with_reducible repeat (first | apply Kd.R_alloc | apply Kd.R_drewN | apply Kd.R_drew)); exact Kd.R_mono HO_11.out (fun _ hk => ⟨hk.2, hk.1.1⟩)⟩, ⟨by (with_reducible repeat (first | apply Kd.R_alloc | apply Kd.R_drewN | apply Kd.R_drew)); exact Kd.R_mono HO221.out (fun _ hk => ⟨hk.1, hk.2.1⟩)⟩, ⟨by (with_reducible repeat (first | apply Kd.R_alloc | apply Kd.R_drewN | apply Kd.R_drew)); exact Kd.R_mono HO_113.out (fun _ hk => ⟨hk.1.1, hk.2⟩)⟩, ⟨by repeat (first | (with_reducible first | exact HB.out | apply below_alloc | apply pw_below_drewN | apply below_drew1 | refine below_set ?_ GE218.out) | exact HB.out)⟩⟩
                                    · rw [if_neg c37] at H
                                      exact absurd H (by simp)
                                  · rw [if_neg c36] at H
                                    exact absurd H (by simp)
                                · rw [if_neg c35] at H
                                  exact absurd H (by simp)
                              · rw [if_neg c34] at H
                                have c34b0 : decide (x115_3 < (t197.length : Int)) = false := decide_eq_false c34
                                clear c34
                                by_cases c41 : t204 = 0
                                · rw [if_pos c41] at H
                                  have c41b0 : (t204 == 0) = true := beq_iff_eq.mpr c41
                                  have c41b1 : (t204 != 0) = false := bne_eq_false_iff_eq.mpr c41
                                  clear c41
                                  replace H := Option.bind_eq_some_iff.mp H
                                  obtain ⟨t222, A420, H⟩ := H
                                  replace H : (if t222 = true then ((lookoutlaw42_awake.f k3).bind fun t223 => (some t223)) else (some false)) = some r := H
                                  have A42 := Aside0.mk A420
                                  clear A420
                                  by_cases c43 : t222 = true
                                  · subst c43
                                    have H1 : ((lookoutlaw42_awake.f k3).bind fun t223 => (some t223)) = some r := by rw [if_pos rfl] at H; exact H
                                    clear H
                                    have H := H1
                                    clear H1
                                    replace H := Option.bind_eq_some_iff.mp H
                                    obtain ⟨t223, A440, H⟩ := H
                                    replace H : (some t223) = some r := H
                                    have A44 := Aside0.mk A440
                                    clear A440
                                    obtain rfl := Option.some.inj H
                                    obtain ⟨Ao45, co45, eo45⟩ := Kd.R_slice HO_11.out
                                    subst eo45
                                    obtain ⟨Ao46, co46, eo46⟩ := Kd.R_slice HO_14.out
                                    subst eo46
                                    go_wp2_with (first | (go_at_call 19; (with_reducible refine (lookoutref42_Same.calls k3 _ _ t202 _ _ x14_3 true _ ?side1 ?side2 ?side3 ?side4 A42.out).mono ?_); (case side1 => repeat (first | exact (Kd.R_reads' HO_11.out).2.2 | (with_reducible refine Kd.C_alloc ?_ _) | (with_reducible refine Kd.C_drewN ?_ _) | (with_reducible refine Kd.C_drew ?_))); (case side2 => exact (Kd.R_reads' HO_11.out).2.1); (case side3 => repeat (first | exact (Kd.R_reads' HO_14.out).2.2 | (with_reducible refine Kd.C_alloc ?_ _) | (with_reducible refine Kd.C_drewN ?_ _) | (with_reducible refine Kd.C_drew ?_))); (case side4 => exact (Kd.R_reads' HO_14.out).2.1); rintro e w' ⟨rfl, ⟨nd, rfl⟩⟩) | (go_at_call 11; (with_reducible refine (lookoutlaw42_awake.calls k3  t223 _ ?side1 A44.out).mono ?_); (case side1 => exact Tabs.below HT.out (by repeat (first | (with_reducible first | exact HB.out | apply below_alloc | apply pw_below_drewN | apply below_drew1) | exact HB.out))); rintro e w47 ⟨rfl, hb⟩; have n0_ := Aside0.mk (Kd.R_below (by (with_reducible repeat (first | apply Kd.R_alloc | apply Kd.R_drewN | apply Kd.R_drew)); exact HO_11.out) hb); have n1_ := Aside0.mk (Kd.R_below (by (with_reducible repeat (first | apply Kd.R_alloc | apply Kd.R_drewN | apply Kd.R_drew)); exact HO_14.out) hb); have n2_ := Aside0.mk (Kd.R_below (by (with_reducible repeat (first | apply Kd.R_alloc | apply Kd.R_drewN | apply Kd.R_drew)); exact HO_113.out) hb); have n3_ := Aside0.mk (below_step (by repeat (first | (with_reducible first | exact HB.out | apply below_alloc | apply pw_below_drewN | apply below_drew1) | exact HB.out)) hb); clear HO_11; clear HO_14; clear HO_113; clear HB; have HO_11 := n0_; have HO_14 := n1_; have HO_113 := n2_; have HB := n3_; clear n0_ n1_ n2_ n3_; (try clear hb); (try clear hb2); (try clear hk); (try clear hi)))
                                    go_ret
                                    exact ⟨by first | rfl | (simp [errW_none, errW_some] <;> rfl) | (simp only [← hji26]; first | rfl | (simp [errW_none, errW_some] <;> rfl)) | (simp [*, errW_none, errW_some] <;> rfl), by repeat (first | (with_reducible first | exact HB.out | apply below_alloc | apply pw_below_drewN | apply below_drew1) | exact HB.out)⟩
                                  · replace c43 := Bool.eq_false_iff.mpr c43
                                    subst c43
                                    have H1 : (some false) = some r := by rw [if_neg (show ¬ (false = true) by decide)] at H; exact H
                                    clear H
                                    have H := H1
                                    clear H1
                                    obtain rfl := Option.some.inj H
                                    obtain ⟨Ao48, co48, eo48⟩ := Kd.R_slice HO_11.out
                                    subst eo48
                                    obtain ⟨Ao49, co49, eo49⟩ := Kd.R_slice HO_14.out
                                    subst eo49
                                    go_wp2_with (first | (go_at_call 19; (with_reducible refine (lookoutref42_Same.calls k3 _ _ t202 _ _ x14_3 false _ ?side1 ?side2 ?side3 ?side4 A42.out).mono ?_); (case side1 => repeat (first | exact (Kd.R_reads' HO_11.out).2.2 | (with_reducible refine Kd.C_alloc ?_ _) | (with_reducible refine Kd.C_drewN ?_ _) | (with_reducible refine Kd.C_drew ?_))); (case side2 => exact (Kd.R_reads' HO_11.out).2.1); (case side3 => repeat (first | exact (Kd.R_reads' HO_14.out).2.2 | (with_reducible refine Kd.C_alloc ?_ _) | (with_reducible refine Kd.C_drewN ?_ _) | (with_reducible refine Kd.C_drew ?_))); (case side4 => exact (Kd.R_reads' HO_14.out).2.1); rintro e w' ⟨rfl, ⟨nd, rfl⟩⟩))
                                    go_ret
                                    exact ⟨by first | rfl | (simp [errW_none, errW_some] <;> rfl) | (simp only [← hji26]; first | rfl | (simp [errW_none, errW_some] <;> rfl)) | (simp [*, errW_none, errW_some] <;> rfl), by repeat (first | (with_reducible first | exact HB.out | apply below_alloc | apply pw_below_drewN | apply below_drew1) | exact HB.out)⟩
                                · rw [if_neg c41] at H
                                  have c41b0 : (t204 == 0) = false := beq_eq_false_iff_ne.mpr c41
                                  have c41b1 : (t204 != 0) = true := bne_iff_ne.mpr c41
                                  obtain rfl := Option.some.inj H
                                  go_wp2
                                  go_ret
                                  exact ⟨by first | rfl | (simp [errW_none, errW_some] <;> rfl) | (simp only [← hji26]; first | rfl | (simp [errW_none, errW_some] <;> rfl)) | (simp [*, errW_none, errW_some] <;> rfl), by repeat (first | (with_reducible first | exact HB.out | apply below_alloc | apply pw_below_drewN | apply below_drew1) | exact HB.out)⟩
                        · rw [if_neg c28] at H
                          exact absurd H (by simp)
                      · rw [if_neg c27] at H
                        exact absurd H (by simp)
                    · rw [if_neg c25] at H
                      have c25b0 : (t199 == 0) = false := beq_eq_false_iff_ne.mpr c25
                      have c25b1 : (t199 != 0) = true := bne_iff_ne.mpr c25
                      by_cases c50 : t204 = t199
                      · rw [if_pos c50] at H
                        have c50b0 : (t204 == t199) = true := beq_iff_eq.mpr c50
                        have c50b1 : (t204 != t199) = false := bne_eq_false_iff_eq.mpr c50
                        clear c50
                        by_cases c51 : t203 = (wrap64 ((wrap64 (t198 + (a0.size : Int))) + 1))
                        · rw [if_pos c51] at H
                          have c51b0 : (t203 == (wrap64 ((wrap64 (t198 + (a0.size : Int))) + 1))) = true := beq_iff_eq.mpr c51
                          have c51b1 : (t203 != (wrap64 ((wrap64 (t198 + (a0.size : Int))) + 1))) = false := bne_eq_false_iff_eq.mpr c51
                          clear c51
                          replace H := Option.bind_eq_some_iff.mp H
                          obtain ⟨t209, A520, H⟩ := H
                          replace H : (some t209) = some r := H
                          have A52 := Aside0.mk A520
                          clear A520
                          obtain rfl := Option.some.inj H
                          go_wp2_with (first | (go_at_call 11; (with_reducible refine (lookoutlaw42_awake.calls kj13  t209 _ ?side1 A52.out).mono ?_); (case side1 => exact Tabs.below HT.out (by repeat (first | (with_reducible first | exact HB.out | apply below_alloc | apply pw_below_drewN | apply below_drew1) | exact HB.out))); rintro e w53 ⟨rfl, hb⟩; have n0_ := Aside0.mk (Kd.R_below (by (with_reducible repeat (first | apply Kd.R_alloc | apply Kd.R_drewN | apply Kd.R_drew)); exact HO_5.out) hb); have n1_ := Aside0.mk (Kd.R_below (by (with_reducible repeat (first | apply Kd.R_alloc | apply Kd.R_drewN | apply Kd.R_drew)); exact HO_8.out) hb); have n2_ := Aside0.mk (Kd.R_below (by (with_reducible repeat (first | apply Kd.R_alloc | apply Kd.R_drewN | apply Kd.R_drew)); exact HO_11.out) hb); have n3_ := Aside0.mk (below_step (by repeat (first | (with_reducible first | exact HB.out | apply below_alloc | apply pw_below_drewN | apply below_drew1) | exact HB.out)) hb); clear HO_5; clear HO_8; clear HO_11; clear HB; have HO_5 := n0_; have HO_8 := n1_; have HO_11 := n2_; have HB := n3_; clear n0_ n1_ n2_ n3_; (try clear hb); (try clear hb2); (try clear hk); (try clear hi)))
                          go_ret
                          exact ⟨by first | rfl | (simp [errW_none, errW_some] <;> rfl) | (simp [*, errW_none, errW_some] <;> rfl), by repeat (first | (with_reducible first | exact HB.out | apply below_alloc | apply pw_below_drewN | apply below_drew1) | exact HB.out)⟩
                        · rw [if_neg c51] at H
                          have c51b0 : (t203 == (wrap64 ((wrap64 (t198 + (a0.size : Int))) + 1))) = false := beq_eq_false_iff_ne.mpr c51
                          have c51b1 : (t203 != (wrap64 ((wrap64 (t198 + (a0.size : Int))) + 1))) = true := bne_iff_ne.mpr c51
                          obtain rfl := Option.some.inj H
                          go_wp2
                          go_ret
                          exact ⟨by first | rfl | (simp [errW_none, errW_some] <;> rfl) | (simp [*, errW_none, errW_some] <;> rfl), by repeat (first | (with_reducible first | exact HB.out | apply below_alloc | apply pw_below_drewN | apply below_drew1) | exact HB.out)⟩
                      · rw [if_neg c50] at H
                        have c50b0 : (t204 == t199) = false := beq_eq_false_iff_ne.mpr c50
                        have c50b1 : (t204 != t199) = true := bne_iff_ne.mpr c50
                        obtain rfl := Option.some.inj H
                        go_wp2
                        go_ret
                        exact ⟨by first | rfl | (simp [errW_none, errW_some] <;> rfl) | (simp [*, errW_none, errW_some] <;> rfl), by repeat (first | (with_reducible first | exact HB.out | apply below_alloc | apply pw_below_drewN | apply below_drew1) | exact HB.out)⟩
            · rw [if_neg c13] at H
              have c13b0 : (t194 == 0) = false := beq_eq_false_iff_ne.mpr c13
              have c13b1 : (t194 != 0) = true := bne_iff_ne.mpr c13
              by_cases c54 : (t192.length : Int) = 0
              · rw [if_pos c54] at H
                have c54b0 : ((t192.length : Int) == 0) = true := beq_iff_eq.mpr c54
                have c54b1 : ((t192.length : Int) != 0) = false := bne_eq_false_iff_eq.mpr c54
                clear c54
                by_cases c55 : t193 ≥ 0
                · rw [if_pos c55] at H
                  have c55b0 : decide (0 ≤ t193) = true := decide_eq_true c55
                  clear c55
                  by_cases c56 : t193 < (a0.size : Int)
                  · rw [if_pos c56] at H
                    have c56b0 : decide (t193 < (a0.size : Int)) = true := decide_eq_true c56
                    clear c56
                    by_cases c57 : t203 = t193
                    · rw [if_pos c57] at H
                      have c57b0 : (t203 == t193) = true := beq_iff_eq.mpr c57
                      have c57b1 : (t203 != t193) = false := bne_eq_false_iff_eq.mpr c57
                      clear c57
                      by_cases c58 : t204 = t194
                      · rw [if_pos c58] at H
                        have c58b0 : (t204 == t194) = true := beq_iff_eq.mpr c58
                        have c58b1 : (t204 != t194) = false := bne_eq_false_iff_eq.mpr c58
                        clear c58
                        replace H := Option.bind_eq_some_iff.mp H
                        obtain ⟨t207, A590, H⟩ := H
                        replace H : (some t207) = some r := H
                        have A59 := Aside0.mk A590
                        clear A590
                        obtain rfl := Option.some.inj H
                        go_wp2_with (first | ((with_reducible refine gate_callee (f := 17) rfl ?_); refine goesL_ (some 28) rfl rfl Tryz.func17 (by kernel_rfl) rfl #[.string a0] rfl (by (try simp only [List.map_toArray, List.map_cons, List.map_nil]); first | done | rfl | (simp only [List.length_drop, List.length_take]; rfl)) ?_; (with_reducible refine (lexer_Tokens.calls a0 t192 t193 t194 _ ?side1 A8.out).mono ?_); (case side1 => exact Tabs.below HT.out (by repeat (first | (with_reducible first | exact HB.out | apply below_alloc | apply pw_below_drewN | apply below_drew1) | exact HB.out))); rintro e w60 ⟨v195, rfl, ho0, hb⟩; refine ⟨_, rfl, ?_⟩; have n0_ := Aside0.mk (Kd.R_lower ho0 (below_size (by repeat (first | (with_reducible first | exact HB.out | apply below_alloc | apply pw_below_drewN | apply below_drew1) | exact HB.out)))); have n1_ := Aside0.mk (below_step (by repeat (first | (with_reducible first | exact HB.out | apply below_alloc | apply pw_below_drewN | apply below_drew1) | exact HB.out)) hb); clear HB; have HO196 := n0_; have HB := n1_; clear n0_ n1_; (try clear hb); (try clear hb2); (try clear hk); (try clear hi); (try clear ho0)) | ((with_reducible refine gate_callee (f := 17) rfl ?_); refine goesL_ (some 34) rfl rfl Tryz.func17 (by kernel_rfl) rfl #[.string a1] rfl (by (try simp only [List.map_toArray, List.map_cons, List.map_nil]); first | done | rfl | (simp only [List.length_drop, List.length_take]; rfl)) ?_; (with_reducible refine (lexer_Tokens.calls a1 t197 t198 t199 _ ?side1 A9.out).mono ?_); (case side1 => exact Tabs.below HT.out (by repeat (first | (with_reducible first | exact HB.out | apply below_alloc | apply pw_below_drewN | apply below_drew1) | exact HB.out))); rintro e w61 ⟨v200, rfl, ho0, hb⟩; refine ⟨_, rfl, ?_⟩; have n0_ := Aside0.mk (Kd.R_elder' (by (with_reducible repeat (first | apply Kd.R_alloc | apply Kd.R_drewN | apply Kd.R_drew)); exact HO196.out) (Kd.R_base ho0) hb); have n1_ := Aside0.mk (Kd.R_lower (Kd.R_new' ho0 (Kd.R_lt (by (with_reducible repeat (first | apply Kd.R_alloc | apply Kd.R_drewN | apply Kd.R_drew)); exact HO196.out))) (below_size (by repeat (first | (with_reducible first | exact HB.out | apply below_alloc | apply pw_below_drewN | apply below_drew1) | exact HB.out)))); have n2_ := Aside0.mk (below_step (by repeat (first | (with_reducible first | exact HB.out | apply below_alloc | apply pw_below_drewN | apply below_drew1) | exact HB.out)) hb); clear HO196; clear HB; have HO196 := n0_; have HO201 := n1_; have HB := n2_; clear n0_ n1_ n2_; (try clear hb); (try clear hb2); (try clear hk); (try clear hi); (try clear ho0)) | ((with_reducible refine gate_callee (f := 17) rfl ?_); refine goesL_ (some 43) rfl rfl Tryz.func17 (by kernel_rfl) rfl #[.string ((a0 ++ (⟨#[10]⟩ : ByteArray)) ++ a1)] rfl (by (try simp only [List.map_toArray, List.map_cons, List.map_nil]); first | done | rfl | (simp only [List.length_drop, List.length_take]; rfl)) ?_; (with_reducible refine (lexer_Tokens.calls ((a0 ++ (⟨#[10]⟩ : ByteArray)) ++ a1) t202 t203 t204 _ ?side1 A12.out).mono ?_); (case side1 => exact Tabs.below HT.out (by repeat (first | (with_reducible first | exact HB.out | apply below_alloc | apply pw_below_drewN | apply below_drew1) | exact HB.out))); rintro e w62 ⟨v205, rfl, ho0, hb⟩; refine ⟨_, rfl, ?_⟩; have n0_ := Aside0.mk (Kd.R_elder' (by (with_reducible repeat (first | apply Kd.R_alloc | apply Kd.R_drewN | apply Kd.R_drew)); exact HO196.out) (Kd.R_base ho0) hb); have n1_ := Aside0.mk (Kd.R_elder' (by (with_reducible repeat (first | apply Kd.R_alloc | apply Kd.R_drewN | apply Kd.R_drew)); exact HO201.out) (Kd.R_base ho0) hb); have n2_ := Aside0.mk (Kd.R_lower (Kd.R_new' (Kd.R_new' ho0 (Kd.R_lt (by (with_reducible repeat (first | apply Kd.R_alloc | apply Kd.R_drewN | apply Kd.R_drew)); exact HO196.out))) (Kd.R_lt (by (with_reducible repeat (first | apply Kd.R_alloc | apply Kd.R_drewN | apply Kd.R_drew)); exact HO201.out))) (below_size (by repeat (first | (with_reducible first | exact HB.out | apply below_alloc | apply pw_below_drewN | apply below_drew1) | exact HB.out)))); have n3_ := Aside0.mk (below_step (by repeat (first | (with_reducible first | exact HB.out | apply below_alloc | apply pw_below_drewN | apply below_drew1) | exact HB.out)) hb); clear HO196; clear HO201; clear HB; have HO196 := n0_; have HO201 := n1_; have HO206 := n2_; have HB := n3_; clear n0_ n1_ n2_ n3_; (try clear hb); (try clear hb2); (try clear hk); (try clear hi); (try clear ho0); obtain ⟨Ao63, co63, eo63⟩ := Kd.R_slice HO196.out; subst eo63) | (go_at_call 11; (with_reducible refine (lookoutlaw42_awake.calls kj2  t207 _ ?side1 A59.out).mono ?_); (case side1 => exact Tabs.below HT.out (by repeat (first | (with_reducible first | exact HB.out | apply below_alloc | apply pw_below_drewN | apply below_drew1) | exact HB.out))); rintro e w64 ⟨rfl, hb⟩; have n0_ := Aside0.mk (Kd.R_below (by (with_reducible repeat (first | apply Kd.R_alloc | apply Kd.R_drewN | apply Kd.R_drew)); exact HO196.out) hb); have n1_ := Aside0.mk (Kd.R_below (by (with_reducible repeat (first | apply Kd.R_alloc | apply Kd.R_drewN | apply Kd.R_drew)); exact HO201.out) hb); have n2_ := Aside0.mk (Kd.R_below (by (with_reducible repeat (first | apply Kd.R_alloc | apply Kd.R_drewN | apply Kd.R_drew)); exact HO206.out) hb); have n3_ := Aside0.mk (below_step (by repeat (first | (with_reducible first | exact HB.out | apply below_alloc | apply pw_below_drewN | apply below_drew1) | exact HB.out)) hb); clear HO196; clear HO201; clear HO206; clear HB; have HO196 := n0_; have HO201 := n1_; have HO206 := n2_; have HB := n3_; clear n0_ n1_ n2_ n3_; (try clear hb); (try clear hb2); (try clear hk); (try clear hi)))
                        go_ret
                        exact ⟨by first | rfl | (simp [errW_none, errW_some] <;> rfl) | (simp [*, errW_none, errW_some] <;> rfl), by repeat (first | (with_reducible first | exact HB.out | apply below_alloc | apply pw_below_drewN | apply below_drew1) | exact HB.out)⟩
                      · rw [if_neg c58] at H
                        have c58b0 : (t204 == t194) = false := beq_eq_false_iff_ne.mpr c58
                        have c58b1 : (t204 != t194) = true := bne_iff_ne.mpr c58
                        obtain rfl := Option.some.inj H
                        go_wp2_with (first | ((with_reducible refine gate_callee (f := 17) rfl ?_); refine goesL_ (some 28) rfl rfl Tryz.func17 (by kernel_rfl) rfl #[.string a0] rfl (by (try simp only [List.map_toArray, List.map_cons, List.map_nil]); first | done | rfl | (simp only [List.length_drop, List.length_take]; rfl)) ?_; (with_reducible refine (lexer_Tokens.calls a0 t192 t193 t194 _ ?side1 A8.out).mono ?_); (case side1 => exact Tabs.below HT.out (by repeat (first | (with_reducible first | exact HB.out | apply below_alloc | apply pw_below_drewN | apply below_drew1) | exact HB.out))); rintro e w65 ⟨v195, rfl, ho0, hb⟩; refine ⟨_, rfl, ?_⟩; have n0_ := Aside0.mk (Kd.R_lower ho0 (below_size (by repeat (first | (with_reducible first | exact HB.out | apply below_alloc | apply pw_below_drewN | apply below_drew1) | exact HB.out)))); have n1_ := Aside0.mk (below_step (by repeat (first | (with_reducible first | exact HB.out | apply below_alloc | apply pw_below_drewN | apply below_drew1) | exact HB.out)) hb); clear HB; have HO196 := n0_; have HB := n1_; clear n0_ n1_; (try clear hb); (try clear hb2); (try clear hk); (try clear hi); (try clear ho0)) | ((with_reducible refine gate_callee (f := 17) rfl ?_); refine goesL_ (some 34) rfl rfl Tryz.func17 (by kernel_rfl) rfl #[.string a1] rfl (by (try simp only [List.map_toArray, List.map_cons, List.map_nil]); first | done | rfl | (simp only [List.length_drop, List.length_take]; rfl)) ?_; (with_reducible refine (lexer_Tokens.calls a1 t197 t198 t199 _ ?side1 A9.out).mono ?_); (case side1 => exact Tabs.below HT.out (by repeat (first | (with_reducible first | exact HB.out | apply below_alloc | apply pw_below_drewN | apply below_drew1) | exact HB.out))); rintro e w66 ⟨v200, rfl, ho0, hb⟩; refine ⟨_, rfl, ?_⟩; have n0_ := Aside0.mk (Kd.R_elder' (by (with_reducible repeat (first | apply Kd.R_alloc | apply Kd.R_drewN | apply Kd.R_drew)); exact HO196.out) (Kd.R_base ho0) hb); have n1_ := Aside0.mk (Kd.R_lower (Kd.R_new' ho0 (Kd.R_lt (by (with_reducible repeat (first | apply Kd.R_alloc | apply Kd.R_drewN | apply Kd.R_drew)); exact HO196.out))) (below_size (by repeat (first | (with_reducible first | exact HB.out | apply below_alloc | apply pw_below_drewN | apply below_drew1) | exact HB.out)))); have n2_ := Aside0.mk (below_step (by repeat (first | (with_reducible first | exact HB.out | apply below_alloc | apply pw_below_drewN | apply below_drew1) | exact HB.out)) hb); clear HO196; clear HB; have HO196 := n0_; have HO201 := n1_; have HB := n2_; clear n0_ n1_ n2_; (try clear hb); (try clear hb2); (try clear hk); (try clear hi); (try clear ho0)) | ((with_reducible refine gate_callee (f := 17) rfl ?_); refine goesL_ (some 43) rfl rfl Tryz.func17 (by kernel_rfl) rfl #[.string ((a0 ++ (⟨#[10]⟩ : ByteArray)) ++ a1)] rfl (by (try simp only [List.map_toArray, List.map_cons, List.map_nil]); first | done | rfl | (simp only [List.length_drop, List.length_take]; rfl)) ?_; (with_reducible refine (lexer_Tokens.calls ((a0 ++ (⟨#[10]⟩ : ByteArray)) ++ a1) t202 t203 t204 _ ?side1 A12.out).mono ?_); (case side1 => exact Tabs.below HT.out (by repeat (first | (with_reducible first | exact HB.out | apply below_alloc | apply pw_below_drewN | apply below_drew1) | exact HB.out))); rintro e w67 ⟨v205, rfl, ho0, hb⟩; refine ⟨_, rfl, ?_⟩; have n0_ := Aside0.mk (Kd.R_elder' (by (with_reducible repeat (first | apply Kd.R_alloc | apply Kd.R_drewN | apply Kd.R_drew)); exact HO196.out) (Kd.R_base ho0) hb); have n1_ := Aside0.mk (Kd.R_elder' (by (with_reducible repeat (first | apply Kd.R_alloc | apply Kd.R_drewN | apply Kd.R_drew)); exact HO201.out) (Kd.R_base ho0) hb); have n2_ := Aside0.mk (Kd.R_lower (Kd.R_new' (Kd.R_new' ho0 (Kd.R_lt (by (with_reducible repeat (first | apply Kd.R_alloc | apply Kd.R_drewN | apply Kd.R_drew)); exact HO196.out))) (Kd.R_lt (by (with_reducible repeat (first | apply Kd.R_alloc | apply Kd.R_drewN | apply Kd.R_drew)); exact HO201.out))) (below_size (by repeat (first | (with_reducible first | exact HB.out | apply below_alloc | apply pw_below_drewN | apply below_drew1) | exact HB.out)))); have n3_ := Aside0.mk (below_step (by repeat (first | (with_reducible first | exact HB.out | apply below_alloc | apply pw_below_drewN | apply below_drew1) | exact HB.out)) hb); clear HO196; clear HO201; clear HB; have HO196 := n0_; have HO201 := n1_; have HO206 := n2_; have HB := n3_; clear n0_ n1_ n2_ n3_; (try clear hb); (try clear hb2); (try clear hk); (try clear hi); (try clear ho0); obtain ⟨Ao68, co68, eo68⟩ := Kd.R_slice HO196.out; subst eo68))
                        go_ret
                        exact ⟨by first | rfl | (simp [errW_none, errW_some] <;> rfl) | (simp [*, errW_none, errW_some] <;> rfl), by repeat (first | (with_reducible first | exact HB.out | apply below_alloc | apply pw_below_drewN | apply below_drew1) | exact HB.out)⟩
                    · rw [if_neg c57] at H
                      have c57b0 : (t203 == t193) = false := beq_eq_false_iff_ne.mpr c57
                      have c57b1 : (t203 != t193) = true := bne_iff_ne.mpr c57
                      obtain rfl := Option.some.inj H
                      go_wp2_with (first | ((with_reducible refine gate_callee (f := 17) rfl ?_); refine goesL_ (some 28) rfl rfl Tryz.func17 (by kernel_rfl) rfl #[.string a0] rfl (by (try simp only [List.map_toArray, List.map_cons, List.map_nil]); first | done | rfl | (simp only [List.length_drop, List.length_take]; rfl)) ?_; (with_reducible refine (lexer_Tokens.calls a0 t192 t193 t194 _ ?side1 A8.out).mono ?_); (case side1 => exact Tabs.below HT.out (by repeat (first | (with_reducible first | exact HB.out | apply below_alloc | apply pw_below_drewN | apply below_drew1) | exact HB.out))); rintro e w69 ⟨v195, rfl, ho0, hb⟩; refine ⟨_, rfl, ?_⟩; have n0_ := Aside0.mk (Kd.R_lower ho0 (below_size (by repeat (first | (with_reducible first | exact HB.out | apply below_alloc | apply pw_below_drewN | apply below_drew1) | exact HB.out)))); have n1_ := Aside0.mk (below_step (by repeat (first | (with_reducible first | exact HB.out | apply below_alloc | apply pw_below_drewN | apply below_drew1) | exact HB.out)) hb); clear HB; have HO196 := n0_; have HB := n1_; clear n0_ n1_; (try clear hb); (try clear hb2); (try clear hk); (try clear hi); (try clear ho0)) | ((with_reducible refine gate_callee (f := 17) rfl ?_); refine goesL_ (some 34) rfl rfl Tryz.func17 (by kernel_rfl) rfl #[.string a1] rfl (by (try simp only [List.map_toArray, List.map_cons, List.map_nil]); first | done | rfl | (simp only [List.length_drop, List.length_take]; rfl)) ?_; (with_reducible refine (lexer_Tokens.calls a1 t197 t198 t199 _ ?side1 A9.out).mono ?_); (case side1 => exact Tabs.below HT.out (by repeat (first | (with_reducible first | exact HB.out | apply below_alloc | apply pw_below_drewN | apply below_drew1) | exact HB.out))); rintro e w70 ⟨v200, rfl, ho0, hb⟩; refine ⟨_, rfl, ?_⟩; have n0_ := Aside0.mk (Kd.R_elder' (by (with_reducible repeat (first | apply Kd.R_alloc | apply Kd.R_drewN | apply Kd.R_drew)); exact HO196.out) (Kd.R_base ho0) hb); have n1_ := Aside0.mk (Kd.R_lower (Kd.R_new' ho0 (Kd.R_lt (by (with_reducible repeat (first | apply Kd.R_alloc | apply Kd.R_drewN | apply Kd.R_drew)); exact HO196.out))) (below_size (by repeat (first | (with_reducible first | exact HB.out | apply below_alloc | apply pw_below_drewN | apply below_drew1) | exact HB.out)))); have n2_ := Aside0.mk (below_step (by repeat (first | (with_reducible first | exact HB.out | apply below_alloc | apply pw_below_drewN | apply below_drew1) | exact HB.out)) hb); clear HO196; clear HB; have HO196 := n0_; have HO201 := n1_; have HB := n2_; clear n0_ n1_ n2_; (try clear hb); (try clear hb2); (try clear hk); (try clear hi); (try clear ho0)) | ((with_reducible refine gate_callee (f := 17) rfl ?_); refine goesL_ (some 43) rfl rfl Tryz.func17 (by kernel_rfl) rfl #[.string ((a0 ++ (⟨#[10]⟩ : ByteArray)) ++ a1)] rfl (by (try simp only [List.map_toArray, List.map_cons, List.map_nil]); first | done | rfl | (simp only [List.length_drop, List.length_take]; rfl)) ?_; (with_reducible refine (lexer_Tokens.calls ((a0 ++ (⟨#[10]⟩ : ByteArray)) ++ a1) t202 t203 t204 _ ?side1 A12.out).mono ?_); (case side1 => exact Tabs.below HT.out (by repeat (first | (with_reducible first | exact HB.out | apply below_alloc | apply pw_below_drewN | apply below_drew1) | exact HB.out))); rintro e w71 ⟨v205, rfl, ho0, hb⟩; refine ⟨_, rfl, ?_⟩; have n0_ := Aside0.mk (Kd.R_elder' (by (with_reducible repeat (first | apply Kd.R_alloc | apply Kd.R_drewN | apply Kd.R_drew)); exact HO196.out) (Kd.R_base ho0) hb); have n1_ := Aside0.mk (Kd.R_elder' (by (with_reducible repeat (first | apply Kd.R_alloc | apply Kd.R_drewN | apply Kd.R_drew)); exact HO201.out) (Kd.R_base ho0) hb); have n2_ := Aside0.mk (Kd.R_lower (Kd.R_new' (Kd.R_new' ho0 (Kd.R_lt (by (with_reducible repeat (first | apply Kd.R_alloc | apply Kd.R_drewN | apply Kd.R_drew)); exact HO196.out))) (Kd.R_lt (by (with_reducible repeat (first | apply Kd.R_alloc | apply Kd.R_drewN | apply Kd.R_drew)); exact HO201.out))) (below_size (by repeat (first | (with_reducible first | exact HB.out | apply below_alloc | apply pw_below_drewN | apply below_drew1) | exact HB.out)))); have n3_ := Aside0.mk (below_step (by repeat (first | (with_reducible first | exact HB.out | apply below_alloc | apply pw_below_drewN | apply below_drew1) | exact HB.out)) hb); clear HO196; clear HO201; clear HB; have HO196 := n0_; have HO201 := n1_; have HO206 := n2_; have HB := n3_; clear n0_ n1_ n2_ n3_; (try clear hb); (try clear hb2); (try clear hk); (try clear hi); (try clear ho0); obtain ⟨Ao72, co72, eo72⟩ := Kd.R_slice HO196.out; subst eo72))
                      go_ret
                      exact ⟨by first | rfl | (simp [errW_none, errW_some] <;> rfl) | (simp [*, errW_none, errW_some] <;> rfl), by repeat (first | (with_reducible first | exact HB.out | apply below_alloc | apply pw_below_drewN | apply below_drew1) | exact HB.out)⟩
                  · rw [if_neg c56] at H
                    have c56b0 : decide (t193 < (a0.size : Int)) = false := decide_eq_false c56
                    clear c56
                    obtain rfl := Option.some.inj H
                    go_wp2_with (first | ((with_reducible refine gate_callee (f := 17) rfl ?_); refine goesL_ (some 28) rfl rfl Tryz.func17 (by kernel_rfl) rfl #[.string a0] rfl (by (try simp only [List.map_toArray, List.map_cons, List.map_nil]); first | done | rfl | (simp only [List.length_drop, List.length_take]; rfl)) ?_; (with_reducible refine (lexer_Tokens.calls a0 t192 t193 t194 _ ?side1 A8.out).mono ?_); (case side1 => exact Tabs.below HT.out (by repeat (first | (with_reducible first | exact HB.out | apply below_alloc | apply pw_below_drewN | apply below_drew1) | exact HB.out))); rintro e w73 ⟨v195, rfl, ho0, hb⟩; refine ⟨_, rfl, ?_⟩; have n0_ := Aside0.mk (Kd.R_lower ho0 (below_size (by repeat (first | (with_reducible first | exact HB.out | apply below_alloc | apply pw_below_drewN | apply below_drew1) | exact HB.out)))); have n1_ := Aside0.mk (below_step (by repeat (first | (with_reducible first | exact HB.out | apply below_alloc | apply pw_below_drewN | apply below_drew1) | exact HB.out)) hb); clear HB; have HO196 := n0_; have HB := n1_; clear n0_ n1_; (try clear hb); (try clear hb2); (try clear hk); (try clear hi); (try clear ho0)) | ((with_reducible refine gate_callee (f := 17) rfl ?_); refine goesL_ (some 34) rfl rfl Tryz.func17 (by kernel_rfl) rfl #[.string a1] rfl (by (try simp only [List.map_toArray, List.map_cons, List.map_nil]); first | done | rfl | (simp only [List.length_drop, List.length_take]; rfl)) ?_; (with_reducible refine (lexer_Tokens.calls a1 t197 t198 t199 _ ?side1 A9.out).mono ?_); (case side1 => exact Tabs.below HT.out (by repeat (first | (with_reducible first | exact HB.out | apply below_alloc | apply pw_below_drewN | apply below_drew1) | exact HB.out))); rintro e w74 ⟨v200, rfl, ho0, hb⟩; refine ⟨_, rfl, ?_⟩; have n0_ := Aside0.mk (Kd.R_elder' (by (with_reducible repeat (first | apply Kd.R_alloc | apply Kd.R_drewN | apply Kd.R_drew)); exact HO196.out) (Kd.R_base ho0) hb); have n1_ := Aside0.mk (Kd.R_lower (Kd.R_new' ho0 (Kd.R_lt (by (with_reducible repeat (first | apply Kd.R_alloc | apply Kd.R_drewN | apply Kd.R_drew)); exact HO196.out))) (below_size (by repeat (first | (with_reducible first | exact HB.out | apply below_alloc | apply pw_below_drewN | apply below_drew1) | exact HB.out)))); have n2_ := Aside0.mk (below_step (by repeat (first | (with_reducible first | exact HB.out | apply below_alloc | apply pw_below_drewN | apply below_drew1) | exact HB.out)) hb); clear HO196; clear HB; have HO196 := n0_; have HO201 := n1_; have HB := n2_; clear n0_ n1_ n2_; (try clear hb); (try clear hb2); (try clear hk); (try clear hi); (try clear ho0)) | ((with_reducible refine gate_callee (f := 17) rfl ?_); refine goesL_ (some 43) rfl rfl Tryz.func17 (by kernel_rfl) rfl #[.string ((a0 ++ (⟨#[10]⟩ : ByteArray)) ++ a1)] rfl (by (try simp only [List.map_toArray, List.map_cons, List.map_nil]); first | done | rfl | (simp only [List.length_drop, List.length_take]; rfl)) ?_; (with_reducible refine (lexer_Tokens.calls ((a0 ++ (⟨#[10]⟩ : ByteArray)) ++ a1) t202 t203 t204 _ ?side1 A12.out).mono ?_); (case side1 => exact Tabs.below HT.out (by repeat (first | (with_reducible first | exact HB.out | apply below_alloc | apply pw_below_drewN | apply below_drew1) | exact HB.out))); rintro e w75 ⟨v205, rfl, ho0, hb⟩; refine ⟨_, rfl, ?_⟩; have n0_ := Aside0.mk (Kd.R_elder' (by (with_reducible repeat (first | apply Kd.R_alloc | apply Kd.R_drewN | apply Kd.R_drew)); exact HO196.out) (Kd.R_base ho0) hb); have n1_ := Aside0.mk (Kd.R_elder' (by (with_reducible repeat (first | apply Kd.R_alloc | apply Kd.R_drewN | apply Kd.R_drew)); exact HO201.out) (Kd.R_base ho0) hb); have n2_ := Aside0.mk (Kd.R_lower (Kd.R_new' (Kd.R_new' ho0 (Kd.R_lt (by (with_reducible repeat (first | apply Kd.R_alloc | apply Kd.R_drewN | apply Kd.R_drew)); exact HO196.out))) (Kd.R_lt (by (with_reducible repeat (first | apply Kd.R_alloc | apply Kd.R_drewN | apply Kd.R_drew)); exact HO201.out))) (below_size (by repeat (first | (with_reducible first | exact HB.out | apply below_alloc | apply pw_below_drewN | apply below_drew1) | exact HB.out)))); have n3_ := Aside0.mk (below_step (by repeat (first | (with_reducible first | exact HB.out | apply below_alloc | apply pw_below_drewN | apply below_drew1) | exact HB.out)) hb); clear HO196; clear HO201; clear HB; have HO196 := n0_; have HO201 := n1_; have HO206 := n2_; have HB := n3_; clear n0_ n1_ n2_ n3_; (try clear hb); (try clear hb2); (try clear hk); (try clear hi); (try clear ho0); obtain ⟨Ao76, co76, eo76⟩ := Kd.R_slice HO196.out; subst eo76))
                    go_ret
                    exact ⟨by first | rfl | (simp [errW_none, errW_some] <;> rfl) | (simp [*, errW_none, errW_some] <;> rfl), by repeat (first | (with_reducible first | exact HB.out | apply below_alloc | apply pw_below_drewN | apply below_drew1) | exact HB.out)⟩
                · rw [if_neg c55] at H
                  have c55b0 : decide (0 ≤ t193) = false := decide_eq_false c55
                  clear c55
                  obtain rfl := Option.some.inj H
                  go_wp2_with (first | ((with_reducible refine gate_callee (f := 17) rfl ?_); refine goesL_ (some 28) rfl rfl Tryz.func17 (by kernel_rfl) rfl #[.string a0] rfl (by (try simp only [List.map_toArray, List.map_cons, List.map_nil]); first | done | rfl | (simp only [List.length_drop, List.length_take]; rfl)) ?_; (with_reducible refine (lexer_Tokens.calls a0 t192 t193 t194 _ ?side1 A8.out).mono ?_); (case side1 => exact Tabs.below HT.out (by repeat (first | (with_reducible first | exact HB.out | apply below_alloc | apply pw_below_drewN | apply below_drew1) | exact HB.out))); rintro e w77 ⟨v195, rfl, ho0, hb⟩; refine ⟨_, rfl, ?_⟩; have n0_ := Aside0.mk (Kd.R_lower ho0 (below_size (by repeat (first | (with_reducible first | exact HB.out | apply below_alloc | apply pw_below_drewN | apply below_drew1) | exact HB.out)))); have n1_ := Aside0.mk (below_step (by repeat (first | (with_reducible first | exact HB.out | apply below_alloc | apply pw_below_drewN | apply below_drew1) | exact HB.out)) hb); clear HB; have HO196 := n0_; have HB := n1_; clear n0_ n1_; (try clear hb); (try clear hb2); (try clear hk); (try clear hi); (try clear ho0)) | ((with_reducible refine gate_callee (f := 17) rfl ?_); refine goesL_ (some 34) rfl rfl Tryz.func17 (by kernel_rfl) rfl #[.string a1] rfl (by (try simp only [List.map_toArray, List.map_cons, List.map_nil]); first | done | rfl | (simp only [List.length_drop, List.length_take]; rfl)) ?_; (with_reducible refine (lexer_Tokens.calls a1 t197 t198 t199 _ ?side1 A9.out).mono ?_); (case side1 => exact Tabs.below HT.out (by repeat (first | (with_reducible first | exact HB.out | apply below_alloc | apply pw_below_drewN | apply below_drew1) | exact HB.out))); rintro e w78 ⟨v200, rfl, ho0, hb⟩; refine ⟨_, rfl, ?_⟩; have n0_ := Aside0.mk (Kd.R_elder' (by (with_reducible repeat (first | apply Kd.R_alloc | apply Kd.R_drewN | apply Kd.R_drew)); exact HO196.out) (Kd.R_base ho0) hb); have n1_ := Aside0.mk (Kd.R_lower (Kd.R_new' ho0 (Kd.R_lt (by (with_reducible repeat (first | apply Kd.R_alloc | apply Kd.R_drewN | apply Kd.R_drew)); exact HO196.out))) (below_size (by repeat (first | (with_reducible first | exact HB.out | apply below_alloc | apply pw_below_drewN | apply below_drew1) | exact HB.out)))); have n2_ := Aside0.mk (below_step (by repeat (first | (with_reducible first | exact HB.out | apply below_alloc | apply pw_below_drewN | apply below_drew1) | exact HB.out)) hb); clear HO196; clear HB; have HO196 := n0_; have HO201 := n1_; have HB := n2_; clear n0_ n1_ n2_; (try clear hb); (try clear hb2); (try clear hk); (try clear hi); (try clear ho0)) | ((with_reducible refine gate_callee (f := 17) rfl ?_); refine goesL_ (some 43) rfl rfl Tryz.func17 (by kernel_rfl) rfl #[.string ((a0 ++ (⟨#[10]⟩ : ByteArray)) ++ a1)] rfl (by (try simp only [List.map_toArray, List.map_cons, List.map_nil]); first | done | rfl | (simp only [List.length_drop, List.length_take]; rfl)) ?_; (with_reducible refine (lexer_Tokens.calls ((a0 ++ (⟨#[10]⟩ : ByteArray)) ++ a1) t202 t203 t204 _ ?side1 A12.out).mono ?_); (case side1 => exact Tabs.below HT.out (by repeat (first | (with_reducible first | exact HB.out | apply below_alloc | apply pw_below_drewN | apply below_drew1) | exact HB.out))); rintro e w79 ⟨v205, rfl, ho0, hb⟩; refine ⟨_, rfl, ?_⟩; have n0_ := Aside0.mk (Kd.R_elder' (by (with_reducible repeat (first | apply Kd.R_alloc | apply Kd.R_drewN | apply Kd.R_drew)); exact HO196.out) (Kd.R_base ho0) hb); have n1_ := Aside0.mk (Kd.R_elder' (by (with_reducible repeat (first | apply Kd.R_alloc | apply Kd.R_drewN | apply Kd.R_drew)); exact HO201.out) (Kd.R_base ho0) hb); have n2_ := Aside0.mk (Kd.R_lower (Kd.R_new' (Kd.R_new' ho0 (Kd.R_lt (by (with_reducible repeat (first | apply Kd.R_alloc | apply Kd.R_drewN | apply Kd.R_drew)); exact HO196.out))) (Kd.R_lt (by (with_reducible repeat (first | apply Kd.R_alloc | apply Kd.R_drewN | apply Kd.R_drew)); exact HO201.out))) (below_size (by repeat (first | (with_reducible first | exact HB.out | apply below_alloc | apply pw_below_drewN | apply below_drew1) | exact HB.out)))); have n3_ := Aside0.mk (below_step (by repeat (first | (with_reducible first | exact HB.out | apply below_alloc | apply pw_below_drewN | apply below_drew1) | exact HB.out)) hb); clear HO196; clear HO201; clear HB; have HO196 := n0_; have HO201 := n1_; have HO206 := n2_; have HB := n3_; clear n0_ n1_ n2_ n3_; (try clear hb); (try clear hb2); (try clear hk); (try clear hi); (try clear ho0); obtain ⟨Ao80, co80, eo80⟩ := Kd.R_slice HO196.out; subst eo80))
                  go_ret
                  exact ⟨by first | rfl | (simp [errW_none, errW_some] <;> rfl) | (simp [*, errW_none, errW_some] <;> rfl), by repeat (first | (with_reducible first | exact HB.out | apply below_alloc | apply pw_below_drewN | apply below_drew1) | exact HB.out)⟩
              · rw [if_neg c54] at H
                have c54b0 : ((t192.length : Int) == 0) = false := beq_eq_false_iff_ne.mpr c54
                have c54b1 : ((t192.length : Int) != 0) = true := bne_iff_ne.mpr c54
                have c54b2 : ¬ (t192 = []) := fun h_ => c54 (by rw [h_]; rfl)
                obtain rfl := Option.some.inj H
                go_wp2_with (first | ((with_reducible refine gate_callee (f := 17) rfl ?_); refine goesL_ (some 28) rfl rfl Tryz.func17 (by kernel_rfl) rfl #[.string a0] rfl (by (try simp only [List.map_toArray, List.map_cons, List.map_nil]); first | done | rfl | (simp only [List.length_drop, List.length_take]; rfl)) ?_; (with_reducible refine (lexer_Tokens.calls a0 t192 t193 t194 _ ?side1 A8.out).mono ?_); (case side1 => exact Tabs.below HT.out (by repeat (first | (with_reducible first | exact HB.out | apply below_alloc | apply pw_below_drewN | apply below_drew1) | exact HB.out))); rintro e w81 ⟨v195, rfl, ho0, hb⟩; refine ⟨_, rfl, ?_⟩; have n0_ := Aside0.mk (Kd.R_lower ho0 (below_size (by repeat (first | (with_reducible first | exact HB.out | apply below_alloc | apply pw_below_drewN | apply below_drew1) | exact HB.out)))); have n1_ := Aside0.mk (below_step (by repeat (first | (with_reducible first | exact HB.out | apply below_alloc | apply pw_below_drewN | apply below_drew1) | exact HB.out)) hb); clear HB; have HO196 := n0_; have HB := n1_; clear n0_ n1_; (try clear hb); (try clear hb2); (try clear hk); (try clear hi); (try clear ho0)) | ((with_reducible refine gate_callee (f := 17) rfl ?_); refine goesL_ (some 34) rfl rfl Tryz.func17 (by kernel_rfl) rfl #[.string a1] rfl (by (try simp only [List.map_toArray, List.map_cons, List.map_nil]); first | done | rfl | (simp only [List.length_drop, List.length_take]; rfl)) ?_; (with_reducible refine (lexer_Tokens.calls a1 t197 t198 t199 _ ?side1 A9.out).mono ?_); (case side1 => exact Tabs.below HT.out (by repeat (first | (with_reducible first | exact HB.out | apply below_alloc | apply pw_below_drewN | apply below_drew1) | exact HB.out))); rintro e w82 ⟨v200, rfl, ho0, hb⟩; refine ⟨_, rfl, ?_⟩; have n0_ := Aside0.mk (Kd.R_elder' (by (with_reducible repeat (first | apply Kd.R_alloc | apply Kd.R_drewN | apply Kd.R_drew)); exact HO196.out) (Kd.R_base ho0) hb); have n1_ := Aside0.mk (Kd.R_lower (Kd.R_new' ho0 (Kd.R_lt (by (with_reducible repeat (first | apply Kd.R_alloc | apply Kd.R_drewN | apply Kd.R_drew)); exact HO196.out))) (below_size (by repeat (first | (with_reducible first | exact HB.out | apply below_alloc | apply pw_below_drewN | apply below_drew1) | exact HB.out)))); have n2_ := Aside0.mk (below_step (by repeat (first | (with_reducible first | exact HB.out | apply below_alloc | apply pw_below_drewN | apply below_drew1) | exact HB.out)) hb); clear HO196; clear HB; have HO196 := n0_; have HO201 := n1_; have HB := n2_; clear n0_ n1_ n2_; (try clear hb); (try clear hb2); (try clear hk); (try clear hi); (try clear ho0)) | ((with_reducible refine gate_callee (f := 17) rfl ?_); refine goesL_ (some 43) rfl rfl Tryz.func17 (by kernel_rfl) rfl #[.string ((a0 ++ (⟨#[10]⟩ : ByteArray)) ++ a1)] rfl (by (try simp only [List.map_toArray, List.map_cons, List.map_nil]); first | done | rfl | (simp only [List.length_drop, List.length_take]; rfl)) ?_; (with_reducible refine (lexer_Tokens.calls ((a0 ++ (⟨#[10]⟩ : ByteArray)) ++ a1) t202 t203 t204 _ ?side1 A12.out).mono ?_); (case side1 => exact Tabs.below HT.out (by repeat (first | (with_reducible first | exact HB.out | apply below_alloc | apply pw_below_drewN | apply below_drew1) | exact HB.out))); rintro e w83 ⟨v205, rfl, ho0, hb⟩; refine ⟨_, rfl, ?_⟩; have n0_ := Aside0.mk (Kd.R_elder' (by (with_reducible repeat (first | apply Kd.R_alloc | apply Kd.R_drewN | apply Kd.R_drew)); exact HO196.out) (Kd.R_base ho0) hb); have n1_ := Aside0.mk (Kd.R_elder' (by (with_reducible repeat (first | apply Kd.R_alloc | apply Kd.R_drewN | apply Kd.R_drew)); exact HO201.out) (Kd.R_base ho0) hb); have n2_ := Aside0.mk (Kd.R_lower (Kd.R_new' (Kd.R_new' ho0 (Kd.R_lt (by (with_reducible repeat (first | apply Kd.R_alloc | apply Kd.R_drewN | apply Kd.R_drew)); exact HO196.out))) (Kd.R_lt (by (with_reducible repeat (first | apply Kd.R_alloc | apply Kd.R_drewN | apply Kd.R_drew)); exact HO201.out))) (below_size (by repeat (first | (with_reducible first | exact HB.out | apply below_alloc | apply pw_below_drewN | apply below_drew1) | exact HB.out)))); have n3_ := Aside0.mk (below_step (by repeat (first | (with_reducible first | exact HB.out | apply below_alloc | apply pw_below_drewN | apply below_drew1) | exact HB.out)) hb); clear HO196; clear HO201; clear HB; have HO196 := n0_; have HO201 := n1_; have HO206 := n2_; have HB := n3_; clear n0_ n1_ n2_ n3_; (try clear hb); (try clear hb2); (try clear hk); (try clear hi); (try clear ho0); obtain ⟨Ao84, co84, eo84⟩ := Kd.R_slice HO196.out; subst eo84))
                go_ret
                exact ⟨by first | rfl | (simp [errW_none, errW_some] <;> rfl) | (simp [*, errW_none, errW_some] <;> rfl), by repeat (first | (with_reducible first | exact HB.out | apply below_alloc | apply pw_below_drewN | apply below_drew1) | exact HB.out)⟩
          · rw [if_neg c11] at H
            exact absurd H (by simp)
        · rw [if_neg c10] at H
          exact absurd H (by simp)
end Go.Proofs.YteokilkcchdeiaaGreatDoor.Q
end
section
namespace Go.Proofs.YteokilkcchdeiaaGreatDoor.Q
open Go.Proofs.YteokilkcchdeiaaGreatDoor
open Go.Proofs.YteokilkcchdeiaaGreatDoor.X
open Go.RowKit Go.Proofs.YteokilkcchdeiaaGreatDoorW.PrintWords Go.Proofs.YteokilkcchdeiaaGreatDoorW.PrintLast Go.Proofs.YteokilkcchdeiaaGreatDoorW.PrintMore
attribute [local go_sem] max2_int min2_int max_two min_two max_three min_three max_four min_four   -- for this text's walks alone
set_option linter.unusedVariables false
set_option linter.unusedSimpArgs false
end Go.Proofs.YteokilkcchdeiaaGreatDoor.Q
end
section
namespace Go.Proofs.YteokilkcchdeiaaGreatDoor.X
open Go.RowKit Go.Shelf Go.Proofs.YteokilkcchdeiaaGreatDoor Go.Proofs.YteokilkcchdeiaaGreatDoorW.PrintWords Go.Proofs.YteokilkcchdeiaaGreatDoorW.PrintLast Go.Proofs.YteokilkcchdeiaaGreatDoorW.PrintMore Go.Proofs.YteokilkcchdeiaaGreatDoor.Q
set_option linter.unusedVariables false
set_option maxRecDepth 100000 in
theorem awake_t : lookoutlaw42_awake.f 60 = some true := by decide +kernel
theorem awake_k (k : Nat) : lookoutlaw42_awake.f (60 + k) = some true := more_rounds (g := fun k => lookoutlaw42_awake.f k) lookoutlaw42_awake.mono 60 k _ awake_t
attribute [local irreducible] runN numV
end Go.Proofs.YteokilkcchdeiaaGreatDoor.X
end
section
namespace Go.Proofs.YteokilkcchdeiaaGreatDoor.X
open Go.RowKit Go.Shelf Go.Proofs.YteokilkcchdeiaaGreatDoor Go.Proofs.YteokilkcchdeiaaGreatDoorW.PrintWords Go.Proofs.YteokilkcchdeiaaGreatDoorW.PrintLast Go.Proofs.YteokilkcchdeiaaGreatDoorW.PrintMore Go.Proofs.YteokilkcchdeiaaGreatDoor.Q
set_option linter.unusedVariables false
theorem runN_nl (p : Int → Bool) (h : p 10 = false) (t : List UInt8) : ∀ l : List UInt8, runN p (l ++ 10 :: t) = runN p l
  | [] => by
    show runN p (10 :: t) = runN p []
    unfold runN
    exact if_neg (by rw [show (((10 : UInt8).toNat : Nat) : Int) = 10 from rfl, h]; decide)
  | c :: l => by
    rw [List.cons_append]
    conv => lhs; unfold runN
    conv => rhs; unfold runN
    rw [runN_nl p h t l]
theorem drop_nl (t l : List UInt8) (n : Nat) (h : n ≤ l.length) : (l ++ 10 :: t).drop n = l.drop n ++ 10 :: t := List.drop_append_of_le_length h
theorem take_nl (t l : List UInt8) (n : Nat) (h : n ≤ l.length) : (l ++ 10 :: t).take n = l.take n := List.take_append_of_le_length h
theorem partN_nl (t : List UInt8) : ∀ l : List UInt8, partN (l ++ 10 :: t) = partN l
  | [] => by
    show partN (10 :: t) = partN []
    unfold partN
    rw [if_neg (by show ¬ letB (10 : Int) = true; decide), if_neg (by show ¬ letB (0 : Int) = true; decide)]
  | c :: l => by
    have h := runN_nl wordB (by decide) t (c :: l)
    unfold partN
    rw [h]; rfl
theorem contB_nl (t : List UInt8) : ∀ l : List UInt8, contB (l ++ 10 :: t) = contB l
  | [] => by show wordB (10 : Int) = wordB (0 : Int); decide
  | c :: l => rfl
theorem get46_nl (t l : List UInt8) (n : Nat) (h : n ≤ l.length) : ((l ++ 10 :: t).getD n 0 = 46) ↔ (l.getD n 0 = 46) := by
  by_cases hn : n < l.length
  · rw [List.getD_eq_getElem?_getD, List.getD_eq_getElem?_getD, List.getElem?_append_left hn]
  · obtain rfl : n = l.length := by omega
    rw [List.getD_eq_getElem?_getD, List.getD_eq_getElem?_getD, List.getElem?_append_right (Nat.le_refl _), Nat.sub_self, List.getElem?_eq_none (Nat.le_refl l.length)]
    exact ⟨fun h => absurd (show (10 : UInt8) = 46 from h) (by decide), fun h => absurd (show (0 : UInt8) = 46 from h) (by decide)⟩
theorem nameN_nl (t l : List UInt8) : ∀ (m k k' n : Nat), l.length - n ≤ m → n ≤ l.length → m < k → m < k' → nameN k (l ++ 10 :: t) n = nameN k' l n := by
  intro m
  induction m using Nat.strongRecOn with
  | _ m ih =>
    intro k k' n h1 h2 h3 h4
    obtain ⟨k, rfl⟩ : ∃ q, k = q + 1 := ⟨k - 1, by omega⟩
    obtain ⟨k', rfl⟩ : ∃ q, k' = q + 1 := ⟨k' - 1, by omega⟩
    unfold nameN
    by_cases hn : n < l.length
    · have e1 : ((l ++ 10 :: t).getD n 0 = 46) ↔ (l.getD n 0 = 46) := get46_nl t l n h2
      have e2 : partN ((l ++ 10 :: t).drop (n + 1)) = partN (l.drop (n + 1)) := by rw [drop_nl t l _ (by omega), partN_nl]
      have hp := partN_le (l.drop (n + 1))
      rw [List.length_drop] at hp
      rw [e2]
      by_cases hc : 0 < n ∧ n < l.length ∧ l.getD n 0 = 46 ∧ partN (l.drop (n + 1)) ≠ 0
      · rw [if_pos hc, if_pos ⟨hc.1, by rw [List.length_append]; omega, e1.2 hc.2.2.1, hc.2.2.2⟩]
        exact ih (l.length - (n + 1 + partN (l.drop (n + 1)))) (by omega) _ _ _ (Nat.le_refl _) (by omega) (by omega) (by omega)
      · rw [if_neg hc, if_neg (fun h => hc ⟨h.1, hn, e1.1 h.2.2.1, h.2.2.2⟩)]
    · obtain rfl : n = l.length := by omega
      have e1 : ¬ ((l ++ 10 :: t).getD l.length 0 = 46) := by
        rw [get46_nl t l _ (Nat.le_refl _), getD_end _ _ (Nat.le_refl _)]; decide
      rw [if_neg (fun h => e1 h.2.2.1), if_neg (fun h => absurd h.2.1 (by omega))]
theorem nameR_nl (t l : List UInt8) : nameR (l ++ 10 :: t) = nameR l := by
  have h := nameN_nl t l l.length ((l ++ 10 :: t).length + 1) (l.length + 1) (partN l) (by omega) (partN_le l) (by rw [List.length_append]; omega) (by omega)
  unfold nameR
  rw [partN_nl, h]
  unfold nameF
  rw [take_nl t l _ (nameN_le l _ _ (partN_le l)).2]
theorem pre_nl (t : List UInt8) : ∀ (u l : List UInt8), (∀ c ∈ u, c ≠ 10) → u.isPrefixOf (l ++ 10 :: t) = u.isPrefixOf l
  | [], l, _ => by simp [List.isPrefixOf]
  | c :: u, [], h => by
    have := h c (by simp)
    simp [List.isPrefixOf, this]
  | c :: u, d :: l, h => by
    rw [List.cons_append]
    simp only [List.isPrefixOf]
    rw [pre_nl t u l (fun x hx => h x (by simp [hx]))]
theorem unitP_nl (t l : List UInt8) : unitP (l ++ 10 :: t) = unitP l := by
  have h : ∀ us : List (List UInt8 × Int), (∀ u ∈ us, ∀ c ∈ u.1, c ≠ 10) → us.find? (fun u => u.1.isPrefixOf (l ++ 10 :: t)) = us.find? (fun u => u.1.isPrefixOf l) := by
    intro us
    induction us with
    | nil => intro _; rfl
    | cons u us ih =>
      intro hu
      rw [List.find?_cons, List.find?_cons, pre_nl t u.1 l (hu u (by simp)), ih (fun v hv => hu v (by simp [hv]))]
  unfold unitP
  rw [h unitsP (by decide)]
theorem signF_nl (t l : List UInt8) : ∀ xs : List (List UInt8), (∀ u ∈ xs, ∀ c ∈ u, c ≠ 10) → signF xs (l ++ 10 :: t) = signF xs l
  | [], _ => rfl
  | x :: xs, h => by
    unfold signF
    rw [pre_nl t x l (h x (by simp)), signF_nl t l xs (fun u hu => h u (by simp [hu]))]
theorem signR_nl (t l : List UInt8) : signR (l ++ 10 :: t) = signR l := signF_nl t l signsL (by decide +kernel)
theorem durEnd_nl (t l : List UInt8) (n : Nat) (h : n ≤ l.length) (s : Int) (a b c : Bool) : durEnd (l ++ 10 :: t) n s a b c = durEnd l n s a b c := by
  unfold durEnd
  rw [drop_nl t l n h, contB_nl, take_nl t l n h]
attribute [local irreducible] sumN farN numV unitP
theorem durGo_nl (t l : List UInt8) : ∀ (m k k' n : Nat) (s b : Int) (x y z : Bool), l.length - n ≤ m → n ≤ l.length → m < k → m < k' → durGo k (l ++ 10 :: t) n s b x y z = durGo k' l n s b x y z := by
  intro m
  induction m using Nat.strongRecOn with
  | _ m ih =>
    intro k k' n s b x y z h1 h2 h3 h4
    obtain ⟨k, rfl⟩ : ∃ q, k = q + 1 := ⟨k - 1, by omega⟩
    obtain ⟨k', rfl⟩ : ∃ q, k' = q + 1 := ⟨k' - 1, by omega⟩
    have hd : runN digB ((l ++ 10 :: t).drop n) = runN digB (l.drop n) := by rw [drop_nl t l n h2, runN_nl digB (by decide)]
    have hle := runN_le digB (l.drop n)
    rw [List.length_drop] at hle
    have hu : unitP ((l ++ 10 :: t).drop (n + runN digB (l.drop n))) = unitP (l.drop (n + runN digB (l.drop n))) := by rw [drop_nl t l _ (by omega), unitP_nl]
    have hv : ((l ++ 10 :: t).drop n).take (runN digB (l.drop n)) = (l.drop n).take (runN digB (l.drop n)) := by
      rw [drop_nl t l n h2, take_nl t _ _ (by rw [List.length_drop]; omega)]
    rw [durGo_succ k _ n _ _ s b x y z hd hu, durGo_succ k' l n _ _ s b x y z rfl rfl, durEnd_nl t l n h2, hv]
    by_cases hc : runN digB (l.drop n) = 0 ∨ (unitP (l.drop (n + runN digB (l.drop n)))).2 < 0
    · rw [if_pos hc, if_pos hc]
    · rw [if_neg hc, if_neg hc]
      have hul := unitP_len (l.drop (n + runN digB (l.drop n))) (by omega)
      rw [List.length_drop] at hul
      exact ih (l.length - (n + (runN digB (l.drop n) + (unitP (l.drop (n + runN digB (l.drop n)))).1.length))) (by omega) _ _ _ _ _ _ _ _ (Nat.le_refl _) (by omega) (by omega) (by omega)
theorem durR_nl (t l : List UInt8) : durR (l ++ 10 :: t) = durR l :=
  durGo_nl t l l.length _ _ 0 0 (-1) false false false (by omega) (by omega) (by rw [List.length_append]; omega) (by omega)
theorem numEnd_nl (t l : List UInt8) (n p : Nat) (ds : List UInt8) (h : n ≤ l.length) : numEnd (l ++ 10 :: t) n p ds = numEnd l n p ds := by
  unfold numEnd
  rw [drop_nl t l n h, contB_nl, take_nl t l n h]
theorem numR_nl (t l : List UInt8) : numR (l ++ 10 :: t) = numR l := by
  have hw : runN digB (l ++ 10 :: t) = runN digB l := runN_nl digB (by decide) t l
  have hle := runN_le digB l
  unfold numR
  simp only [hw]
  by_cases h0 : runN digB l = 0
  · rw [if_pos h0, if_pos h0]
  · rw [if_neg h0, if_neg h0]
    have h46 := get46_nl t l (runN digB l) hle
    by_cases hc : l.getD (runN digB l) 0 = 46
    · have hlt : runN digB l < l.length := by
        by_cases hlt : runN digB l < l.length
        · exact hlt
        · rw [getD_end _ _ (by omega)] at hc; exact absurd hc (by decide)
      have hp : runN digB ((l ++ 10 :: t).drop (runN digB l + 1)) = runN digB (l.drop (runN digB l + 1)) := by rw [drop_nl t l _ (by omega), runN_nl digB (by decide)]
      have hple := runN_le digB (l.drop (runN digB l + 1))
      rw [List.length_drop] at hple
      rw [if_pos hc, if_pos (h46.2 hc), hp, numEnd_nl t l _ _ _ (by omega)]
      have hds : numDigs (l ++ 10 :: t) (runN digB l) (runN digB (l.drop (runN digB l + 1))) = numDigs l (runN digB l) (runN digB (l.drop (runN digB l + 1))) := by
        unfold numDigs
        rw [take_nl t l _ hle, drop_nl t l _ (by omega), take_nl t _ _ (by rw [List.length_drop]; omega)]
      rw [hds]
    · rw [if_neg hc, if_neg (fun h => hc (h46.1 h)), numEnd_nl t l _ _ _ hle, take_nl t l _ hle]
theorem textGo_nl (t : List UInt8) : ∀ (l : List UInt8) (i : Int) (acc : List UInt8), i ≤ (textGo l i acc).2.1 ∧ i ≤ (textGo (l ++ 10 :: t) i acc).2.1 ∧ (textGo (l ++ 10 :: t) i acc).2.2 = (textGo l i acc).2.2 ∧ ((textGo l i acc).2.2 = 0 → textGo (l ++ 10 :: t) i acc = textGo l i acc)
  | [], i, acc => by
    rw [show ([] ++ 10 :: t : List UInt8) = 10 :: t from rfl, textGo_line]
    refine ⟨by simp [textGo], by simp, by simp [textGo], fun h => by simp [textGo] at h⟩
  | [c], i, acc => by
    rw [show ([c] ++ 10 :: t : List UInt8) = c :: 10 :: t from rfl]
    by_cases h34 : c = 34
    · subst h34
      rw [textGo_quote, textGo_quote]
      exact ⟨by simp; omega, by simp; omega, rfl, fun _ => rfl⟩
    · by_cases h10 : c = 10
      · subst h10
        rw [textGo_line, textGo_line]
        exact ⟨by simp, by simp, rfl, fun _ => rfl⟩
      · by_cases h92 : c = 92
        · subst h92
          rw [textGo_bad_end, textGo_bad 10 t i acc (by decide) (by decide) (by decide)]
          exact ⟨by simp; omega, by simp; omega, rfl, fun h => by simp at h⟩
        · rw [textGo_other c (10 :: t) i acc h34 h10 h92, textGo_line]
          have e : textGo [c] i acc = ([], i + 1, 3) := by simp [textGo, h34, h10, h92]
          rw [e]
          exact ⟨by simp; omega, by simp; omega, rfl, fun h => by simp at h⟩
  | c :: d :: l, i, acc => by
    rw [show (c :: d :: l ++ 10 :: t : List UInt8) = c :: d :: (l ++ 10 :: t) from rfl]
    by_cases h34 : c = 34
    · subst h34
      rw [textGo_quote, textGo_quote]
      exact ⟨by simp; omega, by simp; omega, rfl, fun _ => rfl⟩
    · by_cases h10 : c = 10
      · subst h10
        rw [textGo_line, textGo_line]
        exact ⟨by simp, by simp, rfl, fun _ => rfl⟩
      · by_cases h92 : c = 92
        · subst h92
          by_cases h110 : d = 110
          · subst h110
            rw [textGo_n, textGo_n]
            have := textGo_nl t l (i + 2) (acc ++ [10])
            exact ⟨by omega, by omega, this.2.2.1, this.2.2.2⟩
          · by_cases hq : d = 92 ∨ d = 34
            · rw [textGo_esc d _ _ _ hq, textGo_esc d _ _ _ hq]
              have := textGo_nl t l (i + 2) (acc ++ [d])
              exact ⟨by omega, by omega, this.2.2.1, this.2.2.2⟩
            · rw [textGo_bad d _ _ _ h110 (fun h => hq (.inl h)) (fun h => hq (.inr h)), textGo_bad d _ _ _ h110 (fun h => hq (.inl h)) (fun h => hq (.inr h))]
              exact ⟨by simp; omega, by simp; omega, rfl, fun _ => rfl⟩
        · rw [textGo_other c _ _ _ h34 h10 h92, textGo_other c _ _ _ h34 h10 h92]
          have := textGo_nl t (d :: l) (i + 1) (acc ++ [c])
          rw [List.cons_append] at this
          exact ⟨by omega, by omega, this.2.2.1, this.2.2.2⟩
def Rel (r r' : Rd) : Prop := (0 < r'.size ↔ 0 < r.size) ∧ r'.err = r.err ∧ (r.err = 0 → r' = r)
theorem textRd_nl (t l : List UInt8) (h : l ≠ []) : Rel (textRd l) (textRd (l ++ 10 :: t)) := by
  obtain ⟨c, l, rfl⟩ := List.exists_cons_of_ne_nil h
  unfold textRd
  rw [List.cons_append]
  simp only [List.headD_cons, List.drop_succ_cons, List.drop_zero]
  by_cases h34 : c = 34
  · rw [if_pos h34, if_pos h34]
    obtain ⟨g1, g2, g3, g4⟩ := textGo_nl t l 1 []
    generalize textGo l 1 [] = p at g1 g3 g4 ⊢
    generalize textGo (l ++ 10 :: t) 1 [] = q at g2 g3 g4 ⊢
    obtain ⟨p1, p2, p3⟩ := p
    obtain ⟨q1, q2, q3⟩ := q
    simp only at g1 g2 g3 g4
    subst g3
    by_cases h3 : q3 = 0
    · subst h3
      have := g4 rfl
      rw [this]
      exact ⟨Iff.rfl, rfl, fun _ => rfl⟩
    · unfold textR rdOf7
      simp only [if_neg h3]
      exact ⟨by simp only; omega, rfl, fun h => absurd h h3⟩
  · rw [if_neg h34, if_neg h34]
    exact ⟨Iff.rfl, rfl, fun _ => rfl⟩
theorem F0_nl (t l : List UInt8) (h : l ≠ []) : (F0 (l ++ 10 :: t)).err = (F0 l).err ∧ ((F0 l).err = 0 → F0 (l ++ 10 :: t) = F0 l) := by
  obtain ⟨t1, t2, t3⟩ := textRd_nl t l h
  unfold F0
  rw [nameR_nl, durR_nl, numR_nl, signR_nl]
  unfold firstOf
  split
  · exact ⟨rfl, fun _ => rfl⟩
  · split
    · exact ⟨rfl, fun _ => rfl⟩
    · split
      · exact ⟨rfl, fun _ => rfl⟩
      · by_cases h3 : 0 < (textRd l).size
        · rw [if_pos h3, if_pos (t1.2 h3)]
          unfold pick
          rw [t2]
          by_cases he : (textRd l).err = 0
          · rw [if_pos he, if_pos he, t3 he]; exact ⟨rfl, fun _ => rfl⟩
          · rw [if_neg he, if_neg he]; exact ⟨rfl, fun h => absurd h he⟩
        · rw [if_neg h3, if_neg (fun h => h3 (t1.1 h))]
          exact ⟨rfl, fun _ => rfl⟩
theorem blankF (c : UInt8) (l : List UInt8) : blankG false (c :: l) = if c = 32 ∨ c = 9 ∨ c = 10 then 1 + blankG false l else if c = 35 then 1 + blankG true l else 0 := by rw [blankG]
theorem blankT (c : UInt8) (l : List UInt8) : blankG true (c :: l) = if c = 10 then 1 + blankG false l else 1 + blankG true l := by rw [blankG]
theorem blank_nl (t : List UInt8) : ∀ (b : Bool) (l : List UInt8), (blankG b l < l.length → blankG b (l ++ 10 :: t) = blankG b l) ∧ (blankG b l = l.length → blankG b (l ++ 10 :: t) = l.length + 1 + blankG false t)
  | false, [] => by
    refine ⟨fun h => absurd h (by simp), fun _ => ?_⟩
    show blankG false (10 :: t) = _
    simp [blankG]
  | true, [] => by
    refine ⟨fun h => absurd h (by simp), fun _ => ?_⟩
    show blankG true (10 :: t) = _
    simp [blankG]
  | false, c :: l => by
    obtain ⟨f1, f2⟩ := blank_nl t false l
    obtain ⟨g1, g2⟩ := blank_nl t true l
    rw [List.cons_append, blankF, blankF]
    simp only [List.length_cons]
    split
    · exact ⟨fun h => by rw [f1 (by omega)], fun h => by rw [f2 (by omega)]; omega⟩
    · split
      · exact ⟨fun h => by rw [g1 (by omega)], fun h => by rw [g2 (by omega)]; omega⟩
      · exact ⟨fun _ => rfl, fun h => absurd h (by omega)⟩
  | true, c :: l => by
    obtain ⟨f1, f2⟩ := blank_nl t false l
    obtain ⟨g1, g2⟩ := blank_nl t true l
    rw [List.cons_append, blankT, blankT]
    simp only [List.length_cons]
    split
    · exact ⟨fun h => by rw [f1 (by omega)], fun h => by rw [f2 (by omega)]; omega⟩
    · exact ⟨fun h => by rw [g1 (by omega)], fun h => by rw [g2 (by omega)]; omega⟩
attribute [local irreducible] F0 blankG
theorem seq_fuel : ∀ (m k k' : Nat) (l : List UInt8) (i : Nat), l.length ≤ m → m < k → m < k' → seqT X0 k l i = seqT X0 k' l i := by
  intro m
  induction m using Nat.strongRecOn with
  | _ m ih =>
    intro k k' l i h1 h2 h3
    obtain ⟨k, rfl⟩ : ∃ q, k = q + 1 := ⟨k - 1, by omega⟩
    obtain ⟨k', rfl⟩ : ∃ q, k' = q + 1 := ⟨k' - 1, by omega⟩
    by_cases hl : l = []
    · subst hl; rw [seqT_nil, seqT_nil]
    · by_cases he : (F0 l).err = 0
      · obtain ⟨s1, s2⟩ := F0_size l hl he
        rw [seqT_ok X0 k l i (F0 l) rfl hl he, seqT_ok X0 k' l i (F0 l) rfl hl he]
        have hpos : 0 < l.length := List.length_pos_iff.2 hl
        have hlen : (l.drop ((F0 l).size.toNat + blankG false (l.drop (F0 l).size.toNat))).length ≤ l.length - 1 := by rw [List.length_drop]; omega
        congr 1
        exact ih (l.length - 1) (by omega) _ _ _ _ hlen (by omega) (by omega)
      · rw [seqT_bad X0 k l i (F0 l) rfl hl he, seqT_bad X0 k' l i (F0 l) rfl hl he]
def shiftR (d : Nat) (r : Rd) : Rd := { r with at_ := r.at_ + d }
theorem seq_shift (d : Nat) : ∀ (k : Nat) (l : List UInt8) (i : Nat), seqT X0 k l (i + d) = (seqT X0 k l i).map (shiftR d)
  | 0, _, _ => rfl
  | k + 1, l, i => by
    by_cases hl : l = []
    · subst hl; rw [seqT_nil, seqT_nil]; rfl
    · by_cases he : (F0 l).err = 0
      · rw [seqT_ok X0 k l _ (F0 l) rfl hl he, seqT_ok X0 k l i (F0 l) rfl hl he, List.map_cons]
        rw [show ∀ n : Nat, i + d + n = (i + n) + d from fun n => by omega, seq_shift d k]
        congr 1
      · rw [seqT_bad X0 k l _ (F0 l) rfl hl he, seqT_bad X0 k l i (F0 l) rfl hl he]
        rfl
def goodR (ys : List Rd) : Prop := ∀ x ∈ ys, x.err = 0
def sq (l : List UInt8) : List Rd := seqT X0 4001 (l.drop (blankG false l)) (blankG false l)
def sameErr (ys zs : List Rd) (lo hi : Nat) : Prop := ∃ x z, ys.getLast? = some x ∧ zs.getLast? = some z ∧ x.err ≠ 0 ∧ z.err = x.err ∧ z.at_ = x.at_ ∧ (lo : Int) ≤ x.at_ ∧ x.at_ < hi
theorem seq_nl (t : List UInt8) : ∀ (m k k' K : Nat) (l : List UInt8) (i : Nat), l.length ≤ m → l ≠ [] → m + 1 + t.length < k → m < k' → t.length < K →
    (goodR (seqT X0 k' l i) ∧ seqT X0 k (l ++ 10 :: t) i = seqT X0 k' l i ++ seqT X0 K (t.drop (blankG false t)) (i + l.length + 1 + blankG false t)) ∨ sameErr (seqT X0 k' l i) (seqT X0 k (l ++ 10 :: t) i) i (i + l.length) := by
  intro m
  induction m using Nat.strongRecOn with
  | _ m ih =>
    intro k k' K l i h1 hl h2 h3 h4
    obtain ⟨k, rfl⟩ : ∃ q, k = q + 1 := ⟨k - 1, by omega⟩
    obtain ⟨k', rfl⟩ : ∃ q, k' = q + 1 := ⟨k' - 1, by omega⟩
    have hl2 : l ++ 10 :: t ≠ [] := by simp
    have hpos : 0 < l.length := List.length_pos_iff.2 hl
    obtain ⟨e1, e2⟩ := F0_nl t l hl
    by_cases he : (F0 l).err = 0
    · obtain ⟨s1, s2⟩ := F0_size l hl he
      have hF := e2 he
      rw [seqT_ok X0 k' l i (F0 l) rfl hl he, seqT_ok X0 k (l ++ 10 :: t) i (F0 l) hF hl2 he]
      obtain ⟨n, hn⟩ : ∃ n : Nat, (F0 l).size = n := ⟨(F0 l).size.toNat, by omega⟩
      have hXB : ∀ x, X0.B x = blankG false x := fun _ => rfl
      rw [hn, Int.toNat_natCast, hXB, hXB, drop_nl t l n (by omega)]
      obtain ⟨b1, b2⟩ := blank_nl t false (l.drop n)
      have hb := blankG_le false (l.drop n)
      rw [List.length_drop] at b1 b2 hb
      by_cases hlt : blankG false (l.drop n) < l.length - n
      · rw [b1 hlt, drop_nl t l _ (by omega)]
        have hne : l.drop (n + blankG false (l.drop n)) ≠ [] := by
          intro h
          have := congrArg List.length h
          rw [List.length_drop, List.length_nil] at this
          omega
        rcases ih (l.length - 1) (by omega) k k' K (l.drop (n + blankG false (l.drop n))) (i + (n + blankG false (l.drop n))) (by rw [List.length_drop]; omega) hne (by omega) (by omega) h4 with ⟨g1, g2⟩ | ⟨x, z, g1, g2, g3, g4, g5, g6, g7⟩
        · refine .inl ⟨?_, ?_⟩
          · intro x hx
            rcases List.mem_cons.1 hx with rfl | hx
            · exact he
            · exact g1 x hx
          · rw [g2, List.cons_append, List.length_drop]
            congr 3
            omega
        · refine .inr ⟨x, z, ?_, ?_, g3, g4, g5, by omega, by rw [List.length_drop] at g7; omega⟩
          · rw [List.getLast?_cons, g1]; rfl
          · rw [List.getLast?_cons, g2]; rfl
      · have heq : blankG false (l.drop n) = l.length - n := by omega
        rw [b2 heq, heq]
        have hd : l.drop (n + (l.length - n)) = [] := List.drop_eq_nil_of_le (by omega)
        rw [hd, seqT_nil]
        refine .inl ⟨?_, ?_⟩
        · intro x hx
          rcases List.mem_cons.1 hx with rfl | hx
          · exact he
          · cases hx
        · have hd2 : (l ++ 10 :: t).drop (n + (l.length - n + 1 + blankG false t)) = t.drop (blankG false t) := by
            rw [show n + (l.length - n + 1 + blankG false t) = l.length + (1 + blankG false t) from by omega, ← List.drop_drop, List.drop_left, Nat.add_comm 1, List.drop_succ_cons]
          rw [hd2, List.cons_append, List.nil_append]
          congr 1
          rw [show i + (n + (l.length - n + 1 + blankG false t)) = i + l.length + 1 + blankG false t from by omega]
          exact seq_fuel t.length _ _ _ _ (by rw [List.length_drop]; omega) (by omega) (by omega)
    · rw [seqT_bad X0 k' l i (F0 l) rfl hl he, seqT_bad X0 k (l ++ 10 :: t) i (F0 (l ++ 10 :: t)) rfl hl2 (by show ¬ (F0 (l ++ 10 :: t)).err = 0; rw [e1]; exact he)]
      exact .inr ⟨_, _, rfl, rfl, he, e1, rfl, Int.le_refl _, by show (i : Int) < ((i + l.length : Nat) : Int); omega⟩
theorem sq_nl (l t : List UInt8) (h : l.length + 1 + t.length ≤ 4000) :
    (goodR (sq l) ∧ sq (l ++ 10 :: t) = sq l ++ (sq t).map (shiftR (l.length + 1))) ∨ sameErr (sq l) (sq (l ++ 10 :: t)) 0 l.length := by
  obtain ⟨b1, b2⟩ := blank_nl t false l
  have hb := blankG_le false l
  have htl : ∀ n, n = l.length + 1 → seqT X0 4001 (t.drop (blankG false t)) (n + blankG false t) = (sq t).map (shiftR (l.length + 1)) := by
    rintro n rfl
    unfold sq
    rw [Nat.add_comm, seq_shift]
  by_cases hlt : blankG false l < l.length
  · have hu : sq (l ++ 10 :: t) = seqT X0 4001 (l.drop (blankG false l) ++ 10 :: t) (blankG false l) := by
      unfold sq; rw [b1 hlt, drop_nl t l _ hb]
    have hne : l.drop (blankG false l) ≠ [] := by
      intro h
      have := congrArg List.length h
      rw [List.length_drop, List.length_nil] at this
      omega
    rw [hu]
    rcases seq_nl t l.length 4001 4001 4001 (l.drop (blankG false l)) (blankG false l) (by rw [List.length_drop]; omega) hne (by omega) (by omega) (by omega) with ⟨g1, g2⟩ | ⟨x, z, g1, g2, g3, g4, g5, g6, g7⟩
    · refine .inl ⟨g1, ?_⟩
      rw [g2, htl _ (by rw [List.length_drop]; omega)]; rfl
    · exact .inr ⟨x, z, g1, g2, g3, g4, g5, by omega, by rw [List.length_drop] at g7; omega⟩
  · have heq : blankG false l = l.length := by omega
    have hs : sq l = [] := by
      unfold sq; rw [heq, List.drop_length, seqT_nil]
    refine .inl ⟨(by rw [hs]; intro x hx; cases hx), ?_⟩
    rw [hs, List.nil_append, ← htl _ rfl]
    unfold sq
    rw [b2 heq]
    congr 1
    rw [show l.length + 1 + blankG false t = l.length + (1 + blankG false t) from by omega, ← List.drop_drop, List.drop_left, Nat.add_comm 1, List.drop_succ_cons]
end Go.Proofs.YteokilkcchdeiaaGreatDoor.X
end
section
namespace Go.Proofs.YteokilkcchdeiaaGreatDoor.X
open Go.RowKit Go.Shelf Go.Proofs.YteokilkcchdeiaaGreatDoor Go.Proofs.YteokilkcchdeiaaGreatDoorW.PrintWords Go.Proofs.YteokilkcchdeiaaGreatDoorW.PrintLast Go.Proofs.YteokilkcchdeiaaGreatDoorW.PrintMore Go.Proofs.YteokilkcchdeiaaGreatDoor.Q
set_option linter.unusedVariables false
theorem same_l (l : List S29) : ∀ (m i k : Nat), l.length - i ≤ m → i ≤ l.length → l.length ≤ 100000 → m < k → lookoutref42_Same.l0 k l l i = some true := by
  intro m
  induction m with
  | zero =>
    intro i k h1 h2 h3 h4
    obtain ⟨k, rfl⟩ : ∃ q, k = q + 1 := ⟨k - 1, by omega⟩
    unfold lookoutref42_Same.l0
    rw [if_neg (by omega)]
  | succ m ih =>
    intro i k h1 h2 h3 h4
    obtain ⟨k, rfl⟩ : ∃ q, k = q + 1 := ⟨k - 1, by omega⟩
    unfold lookoutref42_Same.l0
    by_cases hi : i < l.length
    · rw [if_pos (by omega), if_pos (by omega), if_pos (by omega), if_neg (by simp), w64 (n := (i : Int) + 1) (by omega) (by omega), show ((i : Int) + 1) = ((i + 1 : Nat) : Int) from by omega]
      exact ih (i + 1) k (by omega) (by omega) h3 (by omega)
    · rw [if_neg (by omega)]
theorem same_t (l : List S29) (k : Nat) (h : l.length ≤ 100000) (hk : l.length < k) : lookoutref42_Same.f k l l = some true := by
  unfold lookoutref42_Same.f
  rw [if_pos rfl]
  exact same_l l l.length 0 k (by omega) (by omega) h hk
theorem seq_at : ∀ (k : Nat) (l : List UInt8) (i : Nat), ∀ x ∈ seqT X0 k l i, (i : Int) ≤ x.at_ ∧ x.at_ ≤ i + l.length
  | 0, _, _, x, hx => by cases hx
  | k + 1, l, i, x, hx => by
    by_cases hl : l = []
    · subst hl; rw [seqT_nil] at hx; cases hx
    · by_cases he : (F0 l).err = 0
      · rw [seqT_ok X0 k l i (F0 l) rfl hl he] at hx
        rcases List.mem_cons.1 hx with rfl | hx
        · exact ⟨Int.le_refl _, by show (i : Int) ≤ (i : Int) + l.length; omega⟩
        · have h := seq_at k _ _ x hx
          obtain ⟨s1, s2⟩ := F0_size l hl he
          have hb := X0.hB (l.drop (F0 l).size.toNat)
          rw [List.length_drop] at h hb
          omega
      · rw [seqT_bad X0 k l i (F0 l) rfl hl he] at hx
        rcases List.mem_cons.1 hx with rfl | hx
        · exact ⟨Int.le_refl _, by show (i : Int) ≤ (i : Int) + l.length; omega⟩
        · cases hx
theorem seq_last : ∀ (k : Nat) (l : List UInt8) (i : Nat), goodR (seqT X0 k l i) ∨ ∃ x, (seqT X0 k l i).getLast? = some x ∧ x.err ≠ 0
  | 0, _, _ => .inl (fun x hx => by cases hx)
  | k + 1, l, i => by
    by_cases hl : l = []
    · subst hl; rw [seqT_nil]; exact .inl (fun x hx => by cases hx)
    · by_cases he : (F0 l).err = 0
      · rw [seqT_ok X0 k l i (F0 l) rfl hl he]
        rcases seq_last k (l.drop ((F0 l).size.toNat + X0.B (l.drop (F0 l).size.toNat))) (i + ((F0 l).size.toNat + X0.B (l.drop (F0 l).size.toNat))) with h | ⟨x, h1, h2⟩
        · refine .inl (fun x hx => ?_)
          rcases List.mem_cons.1 hx with rfl | hx
          · exact he
          · exact h x hx
        · exact .inr ⟨x, by rw [List.getLast?_cons, h1]; rfl, h2⟩
      · rw [seqT_bad X0 k l i (F0 l) rfl hl he]
        exact .inr ⟨_, rfl, he⟩
theorem tokens_sq (s : ByteArray) (h : s.size ≤ 4000) : tokensOf X0 s = tokR (sq s.data.toList) s.size := by
  unfold tokensOf; rw [if_neg (by omega)]; rfl
def tokE (n : Int) : S29 := ⟨0, ⟨#[]⟩, ⟨0, 0⟩, n⟩
def shiftS (d : Int) (x : S29) : S29 := ⟨x.f0, x.f1, ⟨x.f2.f0, x.f2.f1⟩, wrap64 (x.f3 + d)⟩
theorem tokens_good {s : ByteArray} (h : s.size ≤ 4000) (hg : goodR (sq s.data.toList)) : tokensOf X0 s = ((sq s.data.toList).map tokS ++ [tokE s.size], 0, 0) := by
  rw [tokens_sq s h, tokR_ok hg]; rfl
theorem tokens_bad {s : ByteArray} (h : s.size ≤ 4000) {x : Rd} (hx : (sq s.data.toList).getLast? = some x) (he : x.err ≠ 0) : tokensOf X0 s = ([], x.at_, x.err) := by
  rw [tokens_sq s h, tokR_bad hx he]
theorem sq_len (l : List UInt8) : (sq l).length ≤ 4001 := seqT_len X0 _ _ _
theorem concat_l (s : ByteArray) (c : List S29) (b : List S29) (hb : b.length ≤ 5000) (hc : c.length ≤ 10000) (hs : s.size ≤ 4000) : ∀ (m i k : Nat) (acc : List S29), b.length - i ≤ m → i ≤ b.length → m + 20000 < k → acc ++ (b.drop i).map (shiftS (s.size + 1)) = c →
    lookoutlaw42_LexerConcat.l0 k s c 0 acc b b.length i = some true := by
  intro m
  induction m with
  | zero =>
    intro i k acc h1 h2 h3 h4
    obtain ⟨k, rfl⟩ : ∃ q, k = q + 1 := ⟨k - 1, by omega⟩
    have hd : b.drop i = [] := List.drop_eq_nil_of_le (by omega)
    rw [hd, List.map_nil, List.append_nil] at h4
    subst h4
    unfold lookoutlaw42_LexerConcat.l0
    rw [if_neg (by omega), if_pos rfl, same_t acc k (by omega) (by omega), Option.bind_some, if_pos rfl, show k = 60 + (k - 60) from by omega, awake_k]
    rfl
  | succ m ih =>
    intro i k acc h1 h2 h3 h4
    by_cases hi : i < b.length
    · obtain ⟨k, rfl⟩ : ∃ q, k = q + 1 := ⟨k - 1, by omega⟩
      have hal : acc.length ≤ c.length := by rw [← h4, List.length_append]; omega
      have hr : rd_T29 b i = b[i] := by
        unfold rd_T29
        rw [Int.toNat_natCast, List.getD_eq_getElem?_getD, List.getElem?_eq_getElem hi]; rfl
      unfold lookoutlaw42_LexerConcat.l0
      rw [if_pos (by omega), if_pos (by omega), if_pos (by omega), if_pos (by omega), w64 (n := (i : Int) + 1) (by omega) (by omega), show ((i : Int) + 1) = ((i + 1 : Nat) : Int) from by omega, w64 (n := (s.size : Int) + 1) (by omega) (by omega)]
      refine ih (i + 1) k _ (by omega) (by omega) (by omega) ?_
      rw [← h4, List.drop_eq_getElem_cons hi, List.map_cons, List.append_assoc, hr]
      rfl
    · exact ih i k acc (by omega) h2 (by omega) h4
theorem concat_j1 (s t u : ByteArray) (hs : s.size ≤ 600) (ht : t.size ≤ 600) (hu : u.data.toList = s.data.toList ++ 10 :: t.data.toList) (hus : u.size = s.size + 1 + t.size) (k : Nat) (hk : 30000 ≤ k)
    (hg : goodR (sq s.data.toList)) (hq : sq u.data.toList = sq s.data.toList ++ (sq t.data.toList).map (shiftR (s.data.toList.length + 1))) :
    lookoutlaw42_LexerConcat.j1 k s ((sq s.data.toList).map tokS ++ [tokE s.size]) (tokensOf X0 t).1 (tokensOf X0 t).2.1 (tokensOf X0 t).2.2 (tokensOf X0 u).1 (tokensOf X0 u).2.1 (tokensOf X0 u).2.2 false = some true := by
  obtain ⟨k, rfl⟩ : ∃ q, k = q + 1 := ⟨k - 1, by omega⟩
  have hl := sq_len s.data.toList
  have hl2 := sq_len t.data.toList
  have hsl : s.data.toList.length = s.size := tl_size s
  unfold lookoutlaw42_LexerConcat.j1
  (try dsimp only)
  rw [if_neg Bool.false_ne_true]
  rcases seq_last 4001 (t.data.toList.drop (blankG false t.data.toList)) (blankG false t.data.toList) with hgt | ⟨x, hx, he⟩
  · have hgt2 : goodR (sq t.data.toList) := hgt
    have hgu : goodR (sq u.data.toList) := by
      rw [hq]
      intro x hx
      rcases List.mem_append.1 hx with hx | hx
      · exact hg x hx
      · obtain ⟨y, hy, rfl⟩ := List.mem_map.1 hx
        exact hgt2 y hy
    rw [tokens_good (by omega) hgt2, tokens_good (by omega) hgu]
    dsimp only
    have hlen : ((((sq s.data.toList).map tokS ++ [tokE s.size]).length : Nat) : Int) - 1 = ((sq s.data.toList).length : Nat) := by
      rw [List.length_append, List.length_map]; simp
    rw [if_pos rfl, hlen, w64 (n := (((sq s.data.toList).length : Nat) : Int)) (by omega) (by omega), if_pos (by omega), if_pos (by rw [List.length_append, List.length_map]; simp; omega), Int.toNat_natCast]
    have htake : ((sq s.data.toList).map tokS ++ [tokE s.size]).take (sq s.data.toList).length = (sq s.data.toList).map tokS := by
      have := List.take_left (l₁ := (sq s.data.toList).map tokS) (l₂ := [tokE s.size])
      rw [List.length_map] at this
      exact this
    rw [htake]
    unfold slices_Clone_Token.f
    rw [if_pos (by rw [List.length_map]; omega), Option.bind_some]
    refine concat_l s _ _ (by rw [List.length_append, List.length_map]; simp; omega) (by rw [List.length_append, List.length_map, hq, List.length_append, List.length_map]; simp; omega) (by omega) 5000 0 k _ (by rw [List.length_append, List.length_map]; simp; omega) (by omega) (by omega) ?_
    rw [List.drop_zero, hq, List.map_append, List.map_append, List.append_assoc, List.append_cancel_left_eq]
    have hE : shiftS (s.size + 1) (tokE t.size) = tokE u.size := by
      show (⟨0, ⟨#[]⟩, ⟨0, 0⟩, wrap64 ((t.size : Int) + ((s.size : Int) + 1))⟩ : S29) = ⟨0, ⟨#[]⟩, ⟨0, 0⟩, (u.size : Int)⟩
      rw [w64 (n := (t.size : Int) + ((s.size : Int) + 1)) (by omega) (by omega), hus, show (t.size : Int) + ((s.size : Int) + 1) = ((s.size + 1 + t.size : Nat) : Int) from by omega]
    rw [List.map_cons, List.map_nil, hE]
    congr 1
    rw [List.map_map, List.map_map]
    refine List.map_congr_left (fun x hx => ?_)
    have hb := blankG_le false t.data.toList
    have hat := seq_at _ _ _ x hx
    rw [List.length_drop, tl_size] at hat
    rw [tl_size] at hb
    show shiftS (s.size + 1) (tokS x) = tokS (shiftR (s.data.toList.length + 1) x)
    unfold shiftS tokS shiftR
    rw [w64 (n := x.at_ + ((s.size : Int) + 1)) (by omega) (by omega), hsl]
    congr 1
  · have hxl : (sq t.data.toList).getLast? = some x := hx
    have hxu : (sq u.data.toList).getLast? = some (shiftR (s.data.toList.length + 1) x) := by
      rw [hq, List.getLast?_append, List.getLast?_map, hxl]; rfl
    rw [tokens_bad (by omega) hxl he, tokens_bad (by omega) hxu he]
    dsimp only
    have hb := blankG_le false t.data.toList
    have hat := seq_at _ _ _ x (List.mem_of_getLast? hx)
    rw [List.length_drop, tl_size] at hat
    rw [tl_size] at hb
    rw [if_neg he, if_pos (show (shiftR (s.data.toList.length + 1) x).err = x.err from rfl), w64 (n := x.at_ + (s.size : Int)) (by omega) (by omega), w64 (by omega) (by omega), if_pos (by show x.at_ + ((s.data.toList.length + 1 : Nat) : Int) = _; rw [hsl]; omega), show k = 60 + (k - 60) from by omega, awake_k]
    rfl
theorem concat_t (s t : ByteArray) (k : Nat) (hk : 40000 ≤ k) : lookoutlaw42_LexerConcat.f k s t = some true := by
  obtain ⟨k, rfl⟩ : ∃ q, k = q + 1 := ⟨k - 1, by omega⟩
  have hA : lookoutlaw42_awake.f k = some true := by rw [show k = 60 + (k - 60) from by omega]; exact awake_k _
  have hlong : lookoutlaw42_LexerConcat.j0 (k + 1) s t true = some true := by
    unfold lookoutlaw42_LexerConcat.j0
    (try dsimp only)
    rw [if_pos rfl, hA]; rfl
  unfold lookoutlaw42_LexerConcat.f
  by_cases hs : (s.size : Int) > 600
  · rw [if_pos hs]; exact hlong
  · rw [if_neg hs]
    by_cases ht : (t.size : Int) > 600
    · rw [decide_eq_true ht]; exact hlong
    · rw [decide_eq_false ht]
      have hus : ((s ++ (⟨#[10]⟩ : ByteArray)) ++ t).size = s.size + 1 + t.size := by
        rw [ByteArray.size_append', ByteArray.size_append']; rfl
      have hu : ((s ++ (⟨#[10]⟩ : ByteArray)) ++ t).data.toList = s.data.toList ++ 10 :: t.data.toList := by
        simp
      have hsz1 : (s ++ (⟨#[10]⟩ : ByteArray)).size = s.size + 1 := by rw [ByteArray.size_append']; rfl
      generalize hU : (s ++ (⟨#[10]⟩ : ByteArray)) ++ t = u at hus hu
      unfold lookoutlaw42_LexerConcat.j0
      (try dsimp only)
      rw [if_neg Bool.false_ne_true]
      unfold lexer_Tokens.f
      rw [Option.bind_some, Option.bind_some, if_pos (by omega), if_pos (by omega), hU, Option.bind_some]
      rcases sq_nl s.data.toList t.data.toList (by rw [tl_size, tl_size]; omega) with ⟨hg, hq⟩ | ⟨x, z, g1, g2, g3, g4, g5, g6, g7⟩
      · rw [← hu] at hq
        rw [tokens_good (s := s) (by omega) hg]
        have hl := sq_len s.data.toList
        have hlen : ((((sq s.data.toList).map tokS ++ [tokE s.size]).length : Nat) : Int) = (((sq s.data.toList).length + 1 : Nat) : Int) := by
          rw [List.length_append, List.length_map]; rfl
        dsimp only
        rw [if_pos rfl, hlen, if_neg (by omega), w64 (n := (((sq s.data.toList).length + 1 : Nat) : Int) - 1) (by omega) (by omega), if_pos (by omega), if_pos (by omega)]
        have hlast : rd_T29 ((sq s.data.toList).map tokS ++ [tokE s.size]) ((((sq s.data.toList).length + 1 : Nat) : Int) - 1) = tokE s.size := by
          unfold rd_T29
          rw [show ((((sq s.data.toList).length + 1 : Nat) : Int) - 1).toNat = ((sq s.data.toList).map tokS).length from by rw [List.length_map]; omega, List.getD_eq_getElem?_getD, List.getElem?_append_right (Nat.le_refl _), Nat.sub_self]
          rfl
        rw [hlast]
        have hbool : (!((tokE s.size).f0 == 0) || (!((tokE s.size).f1.toList == ([] : List UInt8)) || ((!((tokE s.size).f2.f0 == 0) || (!((tokE s.size).f2.f1 == 0))) || (!((tokE s.size).f3 == (s.size : Int)))))) = false := by
          have h1 : (tokE s.size).f1.toList = [] := by rw [Lib.toList_data]; rfl
          rw [h1]
          simp [tokE]
        rw [hbool]
        exact concat_j1 s t u (by omega) (by omega) hu hus k (by omega) hg hq
      · rw [← hu] at g2
        rw [tokens_bad (s := s) (by omega) g1 g3, tokens_bad (s := u) (by omega) g2 (by rw [g4]; exact g3)]
        dsimp only
        rw [tl_size] at g7
        rw [if_neg g3, if_pos (by simp), if_pos (by omega), if_pos (by omega), if_pos g5, if_pos g4, hA]
        rfl
theorem concat_r (s t : ByteArray) : lookoutlaw42_LexerConcat.f 40000 s t = some true := concat_t s t 40000 (Nat.le_refl _)
end Go.Proofs.YteokilkcchdeiaaGreatDoor.X
end
