/- What the proofs of the lexer's laws share, part 5 of 5. -/
import Derived.Test.YteokilkcchdeiaaGreatDoorJ1
import Derived.Test.YteokilkcchdeiaaGreatDoorJ3
import Derived.Test.YteokilkcchdeiaaGreatDoorJ4
import Derived.Shelf.Strings.Builder1
import Derived.Shelf.Strings.Builder2
import Derived.Shelf.Strings.Trim
import Derived.Shelf.Small.Utf8
import Derived.Shelf.Small.Strs
import Derived.Shelf.Strings.BuilderF
import Derived.Shelf.Strings.BuilderK
import Derived.Shelf.Strconv.Atoi
import Derived.Shelf.Strconv.Itoa0
import Derived.Shelf.Strconv.Itoa1
import Derived.Shelf.LaysM
import Derived.Shelf.Strconv.Itoa2
import Derived.Shelf.Strconv.Itoa3
import Derived.Shelf.Strconv.AtoiErrFast
import Derived.Shelf.Strconv.ParseIntEmpty
import Derived.Shelf.Strconv.AtoiFail
import Derived.Shelf.Strconv.Clone
import Derived.Shelf.Strconv.SyntaxError
import Derived.Shelf.LaysC
import Derived.Shelf.Strconv.ToError
import Derived.Shelf.Strconv.AtoiErr
import Derived.Shelf.Strconv.ErrVar
import Derived.Shelf.Strconv.Lower
import Derived.Shelf.Strconv.ParseUint10
import Derived.Shelf.Strconv.ParseUint10Empty
import Derived.Shelf.Strconv.ParseUint10Any
import Derived.Shelf.Strconv.ParseInt10
import Derived.Shelf.Strconv.AtoiLong
import Derived.Shelf.Strconv.AtoiInnerAll
import Derived.Shelf.Strconv.RangeError
import Derived.Shelf.Strconv.ToErrorRange
import Derived.Shelf.Strconv.AtoiAll
import Derived.Shelf.Strconv.ErrVarAll
import Derived.Shelf.Strings.Search1
import Derived.Shelf.Strings.Search2
import Derived.Shelf.Strings.Search3
import Derived.Shelf.Strings.Cut
import Derived.Shelf.Strings.Count
import Derived.Shelf.Strings.Shaped
import Derived.Shelf.Strings.LastIndex
import Derived.Shelf.Strings.LastIndexAll
import Derived.Shelf.Strings.Prefix
import Derived.Shelf.Strings.Split
import Derived.Shelf.Strings.Fields
import Derived.Shelf.Strings.Replace
import Derived.Shelf.Strings.SplitShaped
import Derived.Shelf.Unicode.Latin
import Derived.Shelf.Unicode.Decode
import Derived.Shelf.Strings.Runes
import Derived.Shelf.Strings.RuneCount
import Derived.Shelf.Strings.AsciiSet
import Derived.Shelf.Strings.Explode
import Derived.Shelf.Bits.Mul64
import Derived.Shelf.Strings.Repeat
import Derived.Shelf.Unicode.DecodeSlow
import Derived.Shelf.Unicode.Is16White
import Derived.Shelf.Unicode.IsSpaceAny
import Derived.Shelf.Unicode.Is16Any
import Derived.Shelf.Unicode.Is32Any
import Derived.Shelf.Unicode.ExclAny
import Derived.Test.YteokilkcchdeiaaGreatDoorProg
import Derived.Shelf.Strings.SlTrimAscii
import Derived.Lib.SliceRun
import Derived.Lib.ItoaMem
set_option linter.unusedVariables false
set_option linter.unusedSimpArgs false
section
namespace Go.Proofs.YteokilkcchdeiaaGreatDoor.Q
open Go.Proofs.YteokilkcchdeiaaGreatDoor
open Go.Proofs.YteokilkcchdeiaaGreatDoor.X
open Go.RowKit Go.Proofs.YteokilkcchdeiaaGreatDoorW.PrintWords Go.Proofs.YteokilkcchdeiaaGreatDoorW.PrintLast Go.Proofs.YteokilkcchdeiaaGreatDoorW.PrintMore
attribute [local go_sem] max2_int min2_int max_two min_two max_three min_three max_four min_four   -- for this text's walks alone
set_option linter.unusedVariables false
set_option linter.unusedSimpArgs false
attribute [local go_sem high] eqA29
def lookoutlaw42_awake.f (k : Nat)  : Option (Bool) := (lexer_Tokens.f (⟨#[114, 97, 116, 101, 40, 120, 91, 49, 104, 51, 48, 109, 93, 41, 32, 62, 32, 48, 46, 53, 32, 35, 32, 104, 97, 108, 102]⟩ : ByteArray)).bind fun bt114 => ((lexer_Duration.f 90500).bind fun bt119 => (if bt114.2.2 = 0 then (if bt119.2 = 0 then (if (bt114.1.length : Int) = 10 then (if 4 < (bt114.1.length : Int) then (if (((rd_T29 bt114.1 4).f0) == 3 && ((((rd_T29 bt114.1 4).f1).toList) == ([49, 104, 51, 48, 109] : List UInt8) && ((((rd_T29 bt114.1 4).f2.f0) == 5400000 && (((rd_T29 bt114.1 4).f2.f1) == 1)) && (((rd_T29 bt114.1 4).f3) == 7)))) = true then (if 8 < (bt114.1.length : Int) then (if (((rd_T29 bt114.1 8).f0) == 2 && ((((rd_T29 bt114.1 8).f1).toList) == ([48, 46, 53] : List UInt8) && ((((rd_T29 bt114.1 8).f2.f0) == 1 && (((rd_T29 bt114.1 8).f2.f1) == 2)) && (((rd_T29 bt114.1 8).f3) == 17)))) = true then (if 9 < (bt114.1.length : Int) then (if (((rd_T29 bt114.1 9).f0) == 0 && ((((rd_T29 bt114.1 9).f1).toList) == ([] : List UInt8) && ((((rd_T29 bt114.1 9).f2.f0) == 0 && (((rd_T29 bt114.1 9).f2.f1) == 0)) && (((rd_T29 bt114.1 9).f3) == 27)))) = true then ((lexer_Number.f k 9 10).bind fun t124 => (if t124.toList = ([48, 46, 57] : List UInt8) then ((lexer_Number.f k (-1) 3).bind fun t125 => (if t125.toList = ([45, 49, 47, 51] : List UInt8) then (some (bt119.1.toList == ([49, 109, 51, 48, 115, 53, 48, 48, 109, 115] : List UInt8))) else (some false))) else (some false))) else (some false)) else (none)) else (some false)) else (none)) else (some false)) else (none)) else (some false)) else (some false)) else (some false)))
theorem lookoutlaw42_awake.mono : ∀ k, LeO (lookoutlaw42_awake.f k ) (lookoutlaw42_awake.f (k + 1) ) := by
  intro  k
  unfold lookoutlaw42_awake.f
  repeat' first
      | (with_reducible exact lexer_Number.mono _ _ _)
      | (with_reducible exact LeO.refl _)
      | (with_reducible exact LeO.none _)
      | (with_reducible refine LeO.ite ?_ ?_)
      | (with_reducible refine LeO.bind ?_ (fun _ => ?_))
      | exact lexer_Number.mono _ _ _
      | exact LeO.none _
      | refine LeO.ite ?_ ?_
      | refine LeO.bind ?_ (fun _ => ?_)
set_option maxHeartbeats 8000000 in
set_option maxRecDepth 100000 in
theorem lookoutlaw42_awake.calls (k : Nat)  (r : Bool) (w : World) (hT : Tabs w) (h : lookoutlaw42_awake.f k  = some r) :
    Calls Tryz.prog 11 #[] w fun e w' => e = .returned (.bool r) ∧ Below w.heap.size w w' := by
  have hu29 := Tryz.underlying29
  have hu27 := Tryz.underlying27
  have HT := Aside0.mk hT
  clear hT
  have HB := Aside0.mk (Below.refl w.heap.size w)
  have H : ((lexer_Tokens.f (⟨#[114, 97, 116, 101, 40, 120, 91, 49, 104, 51, 48, 109, 93, 41, 32, 62, 32, 48, 46, 53, 32, 35, 32, 104, 97, 108, 102]⟩ : ByteArray)).bind fun bt114 => ((lexer_Duration.f 90500).bind fun bt119 => (if bt114.2.2 = 0 then (if bt119.2 = 0 then (if (bt114.1.length : Int) = 10 then (if 4 < (bt114.1.length : Int) then (if (((rd_T29 bt114.1 4).f0) == 3 && ((((rd_T29 bt114.1 4).f1).toList) == ([49, 104, 51, 48, 109] : List UInt8) && ((((rd_T29 bt114.1 4).f2.f0) == 5400000 && (((rd_T29 bt114.1 4).f2.f1) == 1)) && (((rd_T29 bt114.1 4).f3) == 7)))) = true then (if 8 < (bt114.1.length : Int) then (if (((rd_T29 bt114.1 8).f0) == 2 && ((((rd_T29 bt114.1 8).f1).toList) == ([48, 46, 53] : List UInt8) && ((((rd_T29 bt114.1 8).f2.f0) == 1 && (((rd_T29 bt114.1 8).f2.f1) == 2)) && (((rd_T29 bt114.1 8).f3) == 17)))) = true then (if 9 < (bt114.1.length : Int) then (if (((rd_T29 bt114.1 9).f0) == 0 && ((((rd_T29 bt114.1 9).f1).toList) == ([] : List UInt8) && ((((rd_T29 bt114.1 9).f2.f0) == 0 && (((rd_T29 bt114.1 9).f2.f1) == 0)) && (((rd_T29 bt114.1 9).f3) == 27)))) = true then ((lexer_Number.f k 9 10).bind fun t124 => (if t124.toList = ([48, 46, 57] : List UInt8) then ((lexer_Number.f k (-1) 3).bind fun t125 => (if t125.toList = ([45, 49, 47, 51] : List UInt8) then (some (bt119.1.toList == ([49, 109, 51, 48, 115, 53, 48, 48, 109, 115] : List UInt8))) else (some false))) else (some false))) else (some false)) else (none)) else (some false)) else (none)) else (some false)) else (none)) else (some false)) else (some false)) else (some false)))) = some r := h
  clear h
  replace H := Option.bind_eq_some_iff.mp H
  obtain ⟨⟨t114, t115, t116⟩, A10, H⟩ := H
  replace H : ((lexer_Duration.f 90500).bind fun bt119 => (if t116 = 0 then (if bt119.2 = 0 then (if (t114.length : Int) = 10 then (if 4 < (t114.length : Int) then (if (((rd_T29 t114 4).f0) == 3 && ((((rd_T29 t114 4).f1).toList) == ([49, 104, 51, 48, 109] : List UInt8) && ((((rd_T29 t114 4).f2.f0) == 5400000 && (((rd_T29 t114 4).f2.f1) == 1)) && (((rd_T29 t114 4).f3) == 7)))) = true then (if 8 < (t114.length : Int) then (if (((rd_T29 t114 8).f0) == 2 && ((((rd_T29 t114 8).f1).toList) == ([48, 46, 53] : List UInt8) && ((((rd_T29 t114 8).f2.f0) == 1 && (((rd_T29 t114 8).f2.f1) == 2)) && (((rd_T29 t114 8).f3) == 17)))) = true then (if 9 < (t114.length : Int) then (if (((rd_T29 t114 9).f0) == 0 && ((((rd_T29 t114 9).f1).toList) == ([] : List UInt8) && ((((rd_T29 t114 9).f2.f0) == 0 && (((rd_T29 t114 9).f2.f1) == 0)) && (((rd_T29 t114 9).f3) == 27)))) = true then ((lexer_Number.f k 9 10).bind fun t124 => (if t124.toList = ([48, 46, 57] : List UInt8) then ((lexer_Number.f k (-1) 3).bind fun t125 => (if t125.toList = ([45, 49, 47, 51] : List UInt8) then (some (bt119.1.toList == ([49, 109, 51, 48, 115, 53, 48, 48, 109, 115] : List UInt8))) else (some false))) else (some false))) else (some false)) else (none)) else (some false)) else (none)) else (some false)) else (none)) else (some false)) else (some false)) else (some false))) = some r := H
  have A1 := Aside0.mk A10
  clear A10
  replace H := Option.bind_eq_some_iff.mp H
  obtain ⟨⟨t119, t120⟩, A20, H⟩ := H
  replace H : (if t116 = 0 then (if t120 = 0 then (if (t114.length : Int) = 10 then (if 4 < (t114.length : Int) then (if (((rd_T29 t114 4).f0) == 3 && ((((rd_T29 t114 4).f1).toList) == ([49, 104, 51, 48, 109] : List UInt8) && ((((rd_T29 t114 4).f2.f0) == 5400000 && (((rd_T29 t114 4).f2.f1) == 1)) && (((rd_T29 t114 4).f3) == 7)))) = true then (if 8 < (t114.length : Int) then (if (((rd_T29 t114 8).f0) == 2 && ((((rd_T29 t114 8).f1).toList) == ([48, 46, 53] : List UInt8) && ((((rd_T29 t114 8).f2.f0) == 1 && (((rd_T29 t114 8).f2.f1) == 2)) && (((rd_T29 t114 8).f3) == 17)))) = true then (if 9 < (t114.length : Int) then (if (((rd_T29 t114 9).f0) == 0 && ((((rd_T29 t114 9).f1).toList) == ([] : List UInt8) && ((((rd_T29 t114 9).f2.f0) == 0 && (((rd_T29 t114 9).f2.f1) == 0)) && (((rd_T29 t114 9).f3) == 27)))) = true then ((lexer_Number.f k 9 10).bind fun t124 => (if t124.toList = ([48, 46, 57] : List UInt8) then ((lexer_Number.f k (-1) 3).bind fun t125 => (if t125.toList = ([45, 49, 47, 51] : List UInt8) then (some (t119.toList == ([49, 109, 51, 48, 115, 53, 48, 48, 109, 115] : List UInt8))) else (some false))) else (some false))) else (some false)) else (none)) else (some false)) else (none)) else (some false)) else (none)) else (some false)) else (some false)) else (some false)) = some r := H
  have A2 := Aside0.mk A20
  clear A20
  by_cases c3 : t116 = 0
  · rw [if_pos c3] at H
    have c3b0 : (t116 == 0) = true := beq_iff_eq.mpr c3
    have c3b1 : (t116 != 0) = false := bne_eq_false_iff_eq.mpr c3
    clear c3
    by_cases c4 : t120 = 0
    · rw [if_pos c4] at H
      have c4b0 : (t120 == 0) = true := beq_iff_eq.mpr c4
      have c4b1 : (t120 != 0) = false := bne_eq_false_iff_eq.mpr c4
      clear c4
      by_cases c5 : (t114.length : Int) = 10
      · rw [if_pos c5] at H
        have c5b0 : ((t114.length : Int) == 10) = true := beq_iff_eq.mpr c5
        have c5b1 : ((t114.length : Int) != 10) = false := bne_eq_false_iff_eq.mpr c5
        clear c5
        by_cases c6 : 4 < (t114.length : Int)
        · rw [if_pos c6] at H
          have c6b0 : decide (4 < (t114.length : Int)) = true := decide_eq_true c6
          have c6b1 : decide (4 < t114.length) = true := decide_eq_true (by omega)
          clear c6
          by_cases c7 : (((rd_T29 t114 4).f0) == 3 && ((((rd_T29 t114 4).f1).toList) == ([49, 104, 51, 48, 109] : List UInt8) && ((((rd_T29 t114 4).f2.f0) == 5400000 && (((rd_T29 t114 4).f2.f1) == 1)) && (((rd_T29 t114 4).f3) == 7)))) = true
          · rw [if_pos c7] at H
            have c7b0 : (((rd_T29 t114 4).f0) == 3 && ((((rd_T29 t114 4).f1).toList) == ([49, 104, 51, 48, 109] : List UInt8) && ((((rd_T29 t114 4).f2.f0) == 5400000 && (((rd_T29 t114 4).f2.f1) == 1)) && (((rd_T29 t114 4).f3) == 7)))) = true := c7
            (try (have c7b1 : decide (((rd_T29 t114 4).f0) = 3 && ((((rd_T29 t114 4).f1).toList) == ([49, 104, 51, 48, 109] : List UInt8) && ((((rd_T29 t114 4).f2.f0) == 5400000 && (((rd_T29 t114 4).f2.f1) == 1)) && (((rd_T29 t114 4).f3) == 7)))) = true := by simpa using c7))
            (try (have c7b2 : (((rd_T29 t114 4).f0) == 3 && ((((rd_T29 t114 4).f1).toList) == ([49, 104, 51, 48, 109] : List UInt8) && ((((rd_T29 t114 4).f2.f0) == 5400000 && (((rd_T29 t114 4).f2.f1) == 1)) && (((rd_T29 t114 4).f3) == 7)))) = true := by simpa using c7))
            clear c7
            by_cases c8 : 8 < (t114.length : Int)
            · rw [if_pos c8] at H
              have c8b0 : decide (8 < (t114.length : Int)) = true := decide_eq_true c8
              have c8b1 : decide (8 < t114.length) = true := decide_eq_true (by omega)
              clear c8
              by_cases c9 : (((rd_T29 t114 8).f0) == 2 && ((((rd_T29 t114 8).f1).toList) == ([48, 46, 53] : List UInt8) && ((((rd_T29 t114 8).f2.f0) == 1 && (((rd_T29 t114 8).f2.f1) == 2)) && (((rd_T29 t114 8).f3) == 17)))) = true
              · rw [if_pos c9] at H
                have c9b0 : (((rd_T29 t114 8).f0) == 2 && ((((rd_T29 t114 8).f1).toList) == ([48, 46, 53] : List UInt8) && ((((rd_T29 t114 8).f2.f0) == 1 && (((rd_T29 t114 8).f2.f1) == 2)) && (((rd_T29 t114 8).f3) == 17)))) = true := c9
                (try (have c9b1 : decide (((rd_T29 t114 8).f0) = 2 && ((((rd_T29 t114 8).f1).toList) == ([48, 46, 53] : List UInt8) && ((((rd_T29 t114 8).f2.f0) == 1 && (((rd_T29 t114 8).f2.f1) == 2)) && (((rd_T29 t114 8).f3) == 17)))) = true := by simpa using c9))
                (try (have c9b2 : (((rd_T29 t114 8).f0) == 2 && ((((rd_T29 t114 8).f1).toList) == ([48, 46, 53] : List UInt8) && ((((rd_T29 t114 8).f2.f0) == 1 && (((rd_T29 t114 8).f2.f1) == 2)) && (((rd_T29 t114 8).f3) == 17)))) = true := by simpa using c9))
                clear c9
                by_cases c10 : 9 < (t114.length : Int)
                · rw [if_pos c10] at H
                  have c10b0 : decide (9 < (t114.length : Int)) = true := decide_eq_true c10
                  have c10b1 : decide (9 < t114.length) = true := decide_eq_true (by omega)
                  clear c10
                  by_cases c11 : (((rd_T29 t114 9).f0) == 0 && ((((rd_T29 t114 9).f1).toList) == ([] : List UInt8) && ((((rd_T29 t114 9).f2.f0) == 0 && (((rd_T29 t114 9).f2.f1) == 0)) && (((rd_T29 t114 9).f3) == 27)))) = true
                  · rw [if_pos c11] at H
                    have c11b0 : (((rd_T29 t114 9).f0) == 0 && ((((rd_T29 t114 9).f1).toList) == ([] : List UInt8) && ((((rd_T29 t114 9).f2.f0) == 0 && (((rd_T29 t114 9).f2.f1) == 0)) && (((rd_T29 t114 9).f3) == 27)))) = true := c11
                    (try (have c11b1 : decide (((rd_T29 t114 9).f0) = 0 && ((((rd_T29 t114 9).f1).toList) == ([] : List UInt8) && ((((rd_T29 t114 9).f2.f0) == 0 && (((rd_T29 t114 9).f2.f1) == 0)) && (((rd_T29 t114 9).f3) == 27)))) = true := by simpa using c11))
                    (try (have c11b2 : (((rd_T29 t114 9).f0) == 0 && ((((rd_T29 t114 9).f1).toList) == ([] : List UInt8) && ((((rd_T29 t114 9).f2.f0) == 0 && (((rd_T29 t114 9).f2.f1) == 0)) && (((rd_T29 t114 9).f3) == 27)))) = true := by simpa using c11))
                    have c11b9 := c11b0; simp only [Bool.and_eq_true, beq_iff_eq] at c11b9
                    clear c11
                    replace H := Option.bind_eq_some_iff.mp H
                    obtain ⟨t124, A120, H⟩ := H
                    replace H : (if t124.toList = ([48, 46, 57] : List UInt8) then ((lexer_Number.f k (-1) 3).bind fun t125 => (if t125.toList = ([45, 49, 47, 51] : List UInt8) then (some (t119.toList == ([49, 109, 51, 48, 115, 53, 48, 48, 109, 115] : List UInt8))) else (some false))) else (some false)) = some r := H
                    have A12 := Aside0.mk A120
                    clear A120
                    by_cases c13 : t124.toList = ([48, 46, 57] : List UInt8)
                    · rw [if_pos c13] at H
                      have c13b0 : (t124.toList == ([48, 46, 57] : List UInt8)) = true := beq_iff_eq.mpr c13
                      have c13b1 : (t124.toList != ([48, 46, 57] : List UInt8)) = false := bne_eq_false_iff_eq.mpr c13
                      clear c13
                      replace H := Option.bind_eq_some_iff.mp H
                      obtain ⟨t125, A140, H⟩ := H
                      replace H : (if t125.toList = ([45, 49, 47, 51] : List UInt8) then (some (t119.toList == ([49, 109, 51, 48, 115, 53, 48, 48, 109, 115] : List UInt8))) else (some false)) = some r := H
                      have A14 := Aside0.mk A140
                      clear A140
                      by_cases c15 : t125.toList = ([45, 49, 47, 51] : List UInt8)
                      · rw [if_pos c15] at H
                        have c15b0 : (t125.toList == ([45, 49, 47, 51] : List UInt8)) = true := beq_iff_eq.mpr c15
                        have c15b1 : (t125.toList != ([45, 49, 47, 51] : List UInt8)) = false := bne_eq_false_iff_eq.mpr c15
                        clear c15
                        obtain rfl := Option.some.inj H
                        go_enter Tryz.func11, Tryz.ntmps11
                        go_wp2_with (first | ((with_reducible refine gate_callee (f := 17) rfl ?_); refine goesL_ (some 7) rfl rfl Tryz.func17 (by kernel_rfl) rfl #[.string (⟨#[114, 97, 116, 101, 40, 120, 91, 49, 104, 51, 48, 109, 93, 41, 32, 62, 32, 48, 46, 53, 32, 35, 32, 104, 97, 108, 102]⟩ : ByteArray)] rfl (by (try simp only [List.map_toArray, List.map_cons, List.map_nil]); first | done | rfl | (simp only [List.length_drop, List.length_take]; rfl)) ?_; (with_reducible refine (lexer_Tokens.calls (⟨#[114, 97, 116, 101, 40, 120, 91, 49, 104, 51, 48, 109, 93, 41, 32, 62, 32, 48, 46, 53, 32, 35, 32, 104, 97, 108, 102]⟩ : ByteArray) t114 t115 t116 _ ?side1 A1.out).mono ?_); (case side1 => exact Tabs.below HT.out (by repeat (first | (with_reducible first | exact HB.out | apply below_alloc | apply pw_below_drewN | apply below_drew1) | exact HB.out))); rintro e w16 ⟨v117, rfl, ho0, hb⟩; refine ⟨_, rfl, ?_⟩; have n0_ := Aside0.mk (Kd.R_lower ho0 (below_size (by repeat (first | (with_reducible first | exact HB.out | apply below_alloc | apply pw_below_drewN | apply below_drew1) | exact HB.out)))); have n1_ := Aside0.mk (below_step (by repeat (first | (with_reducible first | exact HB.out | apply below_alloc | apply pw_below_drewN | apply below_drew1) | exact HB.out)) hb); clear HB; have HO118 := n0_; have HB := n1_; clear n0_ n1_; (try clear hb); (try clear hb2); (try clear hk); (try clear hi); (try clear ho0)) | ((with_reducible refine gate_callee (f := 10) rfl ?_); refine goesL_ (some 12) rfl rfl Tryz.func10 (by kernel_rfl) rfl #[.int .i64 90500] rfl (by (try simp only [List.map_toArray, List.map_cons, List.map_nil]); first | done | rfl | (simp only [List.length_drop, List.length_take]; rfl)) ?_; (with_reducible refine (lexer_Duration.calls 90500 t119 t120 _ ?side1 A2.out).mono ?_); (case side1 => exact Tabs.below HT.out (by repeat (first | (with_reducible first | exact HB.out | apply below_alloc | apply pw_below_drewN | apply below_drew1) | exact HB.out))); rintro e w17 ⟨rfl, hb⟩; refine ⟨_, rfl, ?_⟩; have n0_ := Aside0.mk (Kd.R_below (by (with_reducible repeat (first | apply Kd.R_alloc | apply Kd.R_drewN | apply Kd.R_drew)); exact HO118.out) hb); have n1_ := Aside0.mk (below_step (by repeat (first | (with_reducible first | exact HB.out | apply below_alloc | apply pw_below_drewN | apply below_drew1) | exact HB.out)) hb); clear HO118; clear HB; have HO118 := n0_; have HB := n1_; clear n0_ n1_; (try clear hb); (try clear hb2); (try clear hk); (try clear hi); obtain ⟨Ao18, co18, eo18⟩ := Kd.R_slice HO118.out; subst eo18; have p121 : 0 ≤ (4 : Int) := (by omega); have q121 : 4 < (t114.length : Int) := of_decide_eq_true (by first | (with_reducible assumption) | assumption); obtain ⟨ad121, e121, hx121_0, hx121_1, hx121_2, hx121_3, hx121_4⟩ := at_T29 (Kd.R_reads' HO118.out).2.2 4 p121 q121; cases e121; (try simp only [show (4 : Int).toNat = 4 from rfl, Nat.reduceMul, Nat.reduceEqDiff, Go.Addr.add, ↓reduceIte] at hx121_0); (try simp only [show (4 : Int).toNat = 4 from rfl, Nat.reduceMul, Nat.reduceEqDiff, Go.Addr.add, ↓reduceIte] at hx121_1); (try simp only [show (4 : Int).toNat = 4 from rfl, Nat.reduceMul, Nat.reduceEqDiff, Go.Addr.add, ↓reduceIte] at hx121_2); (try simp only [show (4 : Int).toNat = 4 from rfl, Nat.reduceMul, Nat.reduceEqDiff, Go.Addr.add, ↓reduceIte] at hx121_3); (try simp only [show (4 : Int).toNat = 4 from rfl, Nat.reduceMul, Nat.reduceEqDiff, Go.Addr.add, ↓reduceIte] at hx121_4); have qi121 : (4 < t114.length) = True := eq_true (by omega); (try rw [show ((4 : Int)).toNat = 4 from rfl] at hx121_0); (try rw [show 4 * 5 = 20 from rfl] at hx121_0); (try rw [show ((4 : Int)).toNat = 4 from rfl] at hx121_1); (try rw [show 4 * 5 = 20 from rfl] at hx121_1); (try rw [show ((4 : Int)).toNat = 4 from rfl] at hx121_2); (try rw [show 4 * 5 = 20 from rfl] at hx121_2); (try rw [show ((4 : Int)).toNat = 4 from rfl] at hx121_3); (try rw [show 4 * 5 = 20 from rfl] at hx121_3); (try rw [show ((4 : Int)).toNat = 4 from rfl] at hx121_4); (try rw [show 4 * 5 = 20 from rfl] at hx121_4); replace p121 := eq_true p121; replace q121 := eq_true q121; have p122 : 0 ≤ (8 : Int) := (by omega); have q122 : 8 < (t114.length : Int) := of_decide_eq_true (by first | (with_reducible assumption) | assumption); obtain ⟨ad122, e122, hx122_0, hx122_1, hx122_2, hx122_3, hx122_4⟩ := at_T29 (Kd.R_reads' HO118.out).2.2 8 p122 q122; obtain rfl : ad121 = ad122 := (by injection e122); (try simp only [show (8 : Int).toNat = 8 from rfl, Nat.reduceMul, Nat.reduceEqDiff, Go.Addr.add, ↓reduceIte] at hx122_0); (try simp only [show (8 : Int).toNat = 8 from rfl, Nat.reduceMul, Nat.reduceEqDiff, Go.Addr.add, ↓reduceIte] at hx122_1); (try simp only [show (8 : Int).toNat = 8 from rfl, Nat.reduceMul, Nat.reduceEqDiff, Go.Addr.add, ↓reduceIte] at hx122_2); (try simp only [show (8 : Int).toNat = 8 from rfl, Nat.reduceMul, Nat.reduceEqDiff, Go.Addr.add, ↓reduceIte] at hx122_3); (try simp only [show (8 : Int).toNat = 8 from rfl, Nat.reduceMul, Nat.reduceEqDiff, Go.Addr.add, ↓reduceIte] at hx122_4); have qi122 : (8 < t114.length) = True := eq_true (by omega); (try rw [show ((8 : Int)).toNat = 8 from rfl] at hx122_0); (try rw [show 8 * 5 = 40 from rfl] at hx122_0); (try rw [show ((8 : Int)).toNat = 8 from rfl] at hx122_1); (try rw [show 8 * 5 = 40 from rfl] at hx122_1); (try rw [show ((8 : Int)).toNat = 8 from rfl] at hx122_2); (try rw [show 8 * 5 = 40 from rfl] at hx122_2); (try rw [show ((8 : Int)).toNat = 8 from rfl] at hx122_3); (try rw [show 8 * 5 = 40 from rfl] at hx122_3); (try rw [show ((8 : Int)).toNat = 8 from rfl] at hx122_4); (try rw [show 8 * 5 = 40 from rfl] at hx122_4); replace p122 := eq_true p122; replace q122 := eq_true q122; have p123 : 0 ≤ (9 : Int) := (by omega); have q123 : 9 < (t114.length : Int) := of_decide_eq_true (by first | (with_reducible assumption) | assumption); obtain ⟨ad123, e123, hx123_0, hx123_1, hx123_2, hx123_3, hx123_4⟩ := at_T29 (Kd.R_reads' HO118.out).2.2 9 p123 q123; obtain rfl : ad121 = ad123 := (by injection e123); (try simp only [show (9 : Int).toNat = 9 from rfl, Nat.reduceMul, Nat.reduceEqDiff, Go.Addr.add, ↓reduceIte] at hx123_0); (try simp only [show (9 : Int).toNat = 9 from rfl, Nat.reduceMul, Nat.reduceEqDiff, Go.Addr.add, ↓reduceIte] at hx123_1); (try simp only [show (9 : Int).toNat = 9 from rfl, Nat.reduceMul, Nat.reduceEqDiff, Go.Addr.add, ↓reduceIte] at hx123_2); (try simp only [show (9 : Int).toNat = 9 from rfl, Nat.reduceMul, Nat.reduceEqDiff, Go.Addr.add, ↓reduceIte] at hx123_3); (try simp only [show (9 : Int).toNat = 9 from rfl, Nat.reduceMul, Nat.reduceEqDiff, Go.Addr.add, ↓reduceIte] at hx123_4); have qi123 : (9 < t114.length) = True := eq_true (by omega); (try rw [show ((9 : Int)).toNat = 9 from rfl] at hx123_0); (try rw [show 9 * 5 = 45 from rfl] at hx123_0); (try rw [show ((9 : Int)).toNat = 9 from rfl] at hx123_1); (try rw [show 9 * 5 = 45 from rfl] at hx123_1); (try rw [show ((9 : Int)).toNat = 9 from rfl] at hx123_2); (try rw [show 9 * 5 = 45 from rfl] at hx123_2); (try rw [show ((9 : Int)).toNat = 9 from rfl] at hx123_3); (try rw [show 9 * 5 = 45 from rfl] at hx123_3); (try rw [show ((9 : Int)).toNat = 9 from rfl] at hx123_4); (try rw [show 9 * 5 = 45 from rfl] at hx123_4); replace p123 := eq_true p123; replace q123 := eq_true q123) | (go_at_call 13; (with_reducible refine (lexer_Number.calls k 9 10 t124 _ ?side1 A12.out).mono ?_); (case side1 => exact Tabs.below HT.out (by repeat (first | (with_reducible first | exact HB.out | apply below_alloc | apply pw_below_drewN | apply below_drew1) | exact HB.out))); rintro e w19 ⟨rfl, hb⟩; have n0_ := Aside0.mk (Kd.R_below (by (with_reducible repeat (first | apply Kd.R_alloc | apply Kd.R_drewN | apply Kd.R_drew)); exact HO118.out) hb); have n1_ := Aside0.mk (below_step (by repeat (first | (with_reducible first | exact HB.out | apply below_alloc | apply pw_below_drewN | apply below_drew1) | exact HB.out)) hb); clear HO118; clear HB; have HO118 := n0_; have HB := n1_; clear n0_ n1_; (try clear hb); (try clear hb2); (try clear hk); (try clear hi)) | (go_at_call 13; (with_reducible refine (lexer_Number.calls k (-1) 3 t125 _ ?side1 A14.out).mono ?_); (case side1 => exact Tabs.below HT.out (by repeat (first | (with_reducible first | exact HB.out | apply below_alloc | apply pw_below_drewN | apply below_drew1) | exact HB.out))); rintro e w20 ⟨rfl, hb⟩; have n0_ := Aside0.mk (Kd.R_below (by (with_reducible repeat (first | apply Kd.R_alloc | apply Kd.R_drewN | apply Kd.R_drew)); exact HO118.out) hb); have n1_ := Aside0.mk (below_step (by repeat (first | (with_reducible first | exact HB.out | apply below_alloc | apply pw_below_drewN | apply below_drew1) | exact HB.out)) hb); clear HO118; clear HB; have HO118 := n0_; have HB := n1_; clear n0_ n1_; (try clear hb); (try clear hb2); (try clear hk); (try clear hi)))
                        go_ret
                        exact ⟨by first | rfl | (simp [errW_none, errW_some] <;> rfl) | (simp [*, errW_none, errW_some] <;> rfl), by repeat (first | (with_reducible first | exact HB.out | apply below_alloc | apply pw_below_drewN | apply below_drew1) | exact HB.out)⟩
                      · rw [if_neg c15] at H
                        have c15b0 : (t125.toList == ([45, 49, 47, 51] : List UInt8)) = false := beq_eq_false_iff_ne.mpr c15
                        have c15b1 : (t125.toList != ([45, 49, 47, 51] : List UInt8)) = true := bne_iff_ne.mpr c15
                        obtain rfl := Option.some.inj H
                        go_enter Tryz.func11, Tryz.ntmps11
                        go_wp2_with (first | ((with_reducible refine gate_callee (f := 17) rfl ?_); refine goesL_ (some 7) rfl rfl Tryz.func17 (by kernel_rfl) rfl #[.string (⟨#[114, 97, 116, 101, 40, 120, 91, 49, 104, 51, 48, 109, 93, 41, 32, 62, 32, 48, 46, 53, 32, 35, 32, 104, 97, 108, 102]⟩ : ByteArray)] rfl (by (try simp only [List.map_toArray, List.map_cons, List.map_nil]); first | done | rfl | (simp only [List.length_drop, List.length_take]; rfl)) ?_; (with_reducible refine (lexer_Tokens.calls (⟨#[114, 97, 116, 101, 40, 120, 91, 49, 104, 51, 48, 109, 93, 41, 32, 62, 32, 48, 46, 53, 32, 35, 32, 104, 97, 108, 102]⟩ : ByteArray) t114 t115 t116 _ ?side1 A1.out).mono ?_); (case side1 => exact Tabs.below HT.out (by repeat (first | (with_reducible first | exact HB.out | apply below_alloc | apply pw_below_drewN | apply below_drew1) | exact HB.out))); rintro e w21 ⟨v117, rfl, ho0, hb⟩; refine ⟨_, rfl, ?_⟩; have n0_ := Aside0.mk (Kd.R_lower ho0 (below_size (by repeat (first | (with_reducible first | exact HB.out | apply below_alloc | apply pw_below_drewN | apply below_drew1) | exact HB.out)))); have n1_ := Aside0.mk (below_step (by repeat (first | (with_reducible first | exact HB.out | apply below_alloc | apply pw_below_drewN | apply below_drew1) | exact HB.out)) hb); clear HB; have HO118 := n0_; have HB := n1_; clear n0_ n1_; (try clear hb); (try clear hb2); (try clear hk); (try clear hi); (try clear ho0)) | ((with_reducible refine gate_callee (f := 10) rfl ?_); refine goesL_ (some 12) rfl rfl Tryz.func10 (by kernel_rfl) rfl #[.int .i64 90500] rfl (by (try simp only [List.map_toArray, List.map_cons, List.map_nil]); first | done | rfl | (simp only [List.length_drop, List.length_take]; rfl)) ?_; (with_reducible refine (lexer_Duration.calls 90500 t119 t120 _ ?side1 A2.out).mono ?_); (case side1 => exact Tabs.below HT.out (by repeat (first | (with_reducible first | exact HB.out | apply below_alloc | apply pw_below_drewN | apply below_drew1) | exact HB.out))); rintro e w22 ⟨rfl, hb⟩; refine ⟨_, rfl, ?_⟩; have n0_ := Aside0.mk (Kd.R_below (by (with_reducible repeat (first | apply Kd.R_alloc | apply Kd.R_drewN | apply Kd.R_drew)); exact HO118.out) hb); have n1_ := Aside0.mk (below_step (by repeat (first | (with_reducible first | exact HB.out | apply below_alloc | apply pw_below_drewN | apply below_drew1) | exact HB.out)) hb); clear HO118; clear HB; have HO118 := n0_; have HB := n1_; clear n0_ n1_; (try clear hb); (try clear hb2); (try clear hk); (try clear hi); obtain ⟨Ao23, co23, eo23⟩ := Kd.R_slice HO118.out; subst eo23; have p121 : 0 ≤ (4 : Int) := (by omega); have q121 : 4 < (t114.length : Int) := of_decide_eq_true (by first | (with_reducible assumption) | assumption); obtain ⟨ad121, e121, hx121_0, hx121_1, hx121_2, hx121_3, hx121_4⟩ := at_T29 (Kd.R_reads' HO118.out).2.2 4 p121 q121; cases e121; (try simp only [show (4 : Int).toNat = 4 from rfl, Nat.reduceMul, Nat.reduceEqDiff, Go.Addr.add, ↓reduceIte] at hx121_0); (try simp only [show (4 : Int).toNat = 4 from rfl, Nat.reduceMul, Nat.reduceEqDiff, Go.Addr.add, ↓reduceIte] at hx121_1); (try simp only [show (4 : Int).toNat = 4 from rfl, Nat.reduceMul, Nat.reduceEqDiff, Go.Addr.add, ↓reduceIte] at hx121_2); (try simp only [show (4 : Int).toNat = 4 from rfl, Nat.reduceMul, Nat.reduceEqDiff, Go.Addr.add, ↓reduceIte] at hx121_3); (try simp only [show (4 : Int).toNat = 4 from rfl, Nat.reduceMul, Nat.reduceEqDiff, Go.Addr.add, ↓reduceIte] at hx121_4); have qi121 : (4 < t114.length) = True := eq_true (by omega); (try rw [show ((4 : Int)).toNat = 4 from rfl] at hx121_0); (try rw [show 4 * 5 = 20 from rfl] at hx121_0); (try rw [show ((4 : Int)).toNat = 4 from rfl] at hx121_1); (try rw [show 4 * 5 = 20 from rfl] at hx121_1); (try rw [show ((4 : Int)).toNat = 4 from rfl] at hx121_2); (try rw [show 4 * 5 = 20 from rfl] at hx121_2); (try rw [show ((4 : Int)).toNat = 4 from rfl] at hx121_3); (try rw [show 4 * 5 = 20 from rfl] at hx121_3); (try rw [show ((4 : Int)).toNat = 4 from rfl] at hx121_4); (try rw [show 4 * 5 = 20 from rfl] at hx121_4); replace p121 := eq_true p121; replace q121 := eq_true q121; have p122 : 0 ≤ (8 : Int) := (by omega); have q122 : 8 < (t114.length : Int) := of_decide_eq_true (by first | (with_reducible assumption) | assumption); obtain ⟨ad122, e122, hx122_0, hx122_1, hx122_2, hx122_3, hx122_4⟩ := at_T29 (Kd.R_reads' HO118.out).2.2 8 p122 q122; obtain rfl : ad121 = ad122 := (by injection e122); (try simp only [show (8 : Int).toNat = 8 from rfl, Nat.reduceMul, Nat.reduceEqDiff, Go.Addr.add, ↓reduceIte] at hx122_0); (try simp only [show (8 : Int).toNat = 8 from rfl, Nat.reduceMul, Nat.reduceEqDiff, Go.Addr.add, ↓reduceIte] at hx122_1); (try simp only [show (8 : Int).toNat = 8 from rfl, Nat.reduceMul, Nat.reduceEqDiff, Go.Addr.add, ↓reduceIte] at hx122_2); (try simp only [show (8 : Int).toNat = 8 from rfl, Nat.reduceMul, Nat.reduceEqDiff, Go.Addr.add, ↓reduceIte] at hx122_3); (try simp only [show (8 : Int).toNat = 8 from rfl, Nat.reduceMul, Nat.reduceEqDiff, Go.Addr.add, ↓reduceIte] at hx122_4); have qi122 : (8 < t114.length) = True := eq_true (by omega); (try rw [show ((8 : Int)).toNat = 8 from rfl] at hx122_0); (try rw [show 8 * 5 = 40 from rfl] at hx122_0); (try rw [show ((8 : Int)).toNat = 8 from rfl] at hx122_1); (try rw [show 8 * 5 = 40 from rfl] at hx122_1); (try rw [show ((8 : Int)).toNat = 8 from rfl] at hx122_2); (try rw [show 8 * 5 = 40 from rfl] at hx122_2); (try rw [show ((8 : Int)).toNat = 8 from rfl] at hx122_3); (try rw [show 8 * 5 = 40 from rfl] at hx122_3); (try rw [show ((8 : Int)).toNat = 8 from rfl] at hx122_4); (try rw [show 8 * 5 = 40 from rfl] at hx122_4); replace p122 := eq_true p122; replace q122 := eq_true q122; have p123 : 0 ≤ (9 : Int) := (by omega); have q123 : 9 < (t114.length : Int) := of_decide_eq_true (by first | (with_reducible assumption) | assumption); obtain ⟨ad123, e123, hx123_0, hx123_1, hx123_2, hx123_3, hx123_4⟩ := at_T29 (Kd.R_reads' HO118.out).2.2 9 p123 q123; obtain rfl : ad121 = ad123 := (by injection e123); (try simp only [show (9 : Int).toNat = 9 from rfl, Nat.reduceMul, Nat.reduceEqDiff, Go.Addr.add, ↓reduceIte] at hx123_0); (try simp only [show (9 : Int).toNat = 9 from rfl, Nat.reduceMul, Nat.reduceEqDiff, Go.Addr.add, ↓reduceIte] at hx123_1); (try simp only [show (9 : Int).toNat = 9 from rfl, Nat.reduceMul, Nat.reduceEqDiff, Go.Addr.add, ↓reduceIte] at hx123_2); (try simp only [show (9 : Int).toNat = 9 from rfl, Nat.reduceMul, Nat.reduceEqDiff, Go.Addr.add, ↓reduceIte] at hx123_3); (try simp only [show (9 : Int).toNat = 9 from rfl, Nat.reduceMul, Nat.reduceEqDiff, Go.Addr.add, ↓reduceIte] at hx123_4); have qi123 : (9 < t114.length) = True := eq_true (by omega); (try rw [show ((9 : Int)).toNat = 9 from rfl] at hx123_0); (try rw [show 9 * 5 = 45 from rfl] at hx123_0); (try rw [show ((9 : Int)).toNat = 9 from rfl] at hx123_1); (try rw [show 9 * 5 = 45 from rfl] at hx123_1); (try rw [show ((9 : Int)).toNat = 9 from rfl] at hx123_2); (try rw [show 9 * 5 = 45 from rfl] at hx123_2); (try rw [show ((9 : Int)).toNat = 9 from rfl] at hx123_3); (try rw [show 9 * 5 = 45 from rfl] at hx123_3); (try rw [show ((9 : Int)).toNat = 9 from rfl] at hx123_4); (try rw [show 9 * 5 = 45 from rfl] at hx123_4); replace p123 := eq_true p123; replace q123 := eq_true q123) | (go_at_call 13; (with_reducible refine (lexer_Number.calls k 9 10 t124 _ ?side1 A12.out).mono ?_); (case side1 => exact Tabs.below HT.out (by repeat (first | (with_reducible first | exact HB.out | apply below_alloc | apply pw_below_drewN | apply below_drew1) | exact HB.out))); rintro e w24 ⟨rfl, hb⟩; have n0_ := Aside0.mk (Kd.R_below (by (with_reducible repeat (first | apply Kd.R_alloc | apply Kd.R_drewN | apply Kd.R_drew)); exact HO118.out) hb); have n1_ := Aside0.mk (below_step (by repeat (first | (with_reducible first | exact HB.out | apply below_alloc | apply pw_below_drewN | apply below_drew1) | exact HB.out)) hb); clear HO118; clear HB; have HO118 := n0_; have HB := n1_; clear n0_ n1_; (try clear hb); (try clear hb2); (try clear hk); (try clear hi)) | (go_at_call 13; (with_reducible refine (lexer_Number.calls k (-1) 3 t125 _ ?side1 A14.out).mono ?_); (case side1 => exact Tabs.below HT.out (by repeat (first | (with_reducible first | exact HB.out | apply below_alloc | apply pw_below_drewN | apply below_drew1) | exact HB.out))); rintro e w25 ⟨rfl, hb⟩; have n0_ := Aside0.mk (Kd.R_below (by (with_reducible repeat (first | apply Kd.R_alloc | apply Kd.R_drewN | apply Kd.R_drew)); exact HO118.out) hb); have n1_ := Aside0.mk (below_step (by repeat (first | (with_reducible first | exact HB.out | apply below_alloc | apply pw_below_drewN | apply below_drew1) | exact HB.out)) hb); clear HO118; clear HB; have HO118 := n0_; have HB := n1_; clear n0_ n1_; (try clear hb); (try clear hb2); (try clear hk); (try clear hi)))
                        go_ret
                        exact ⟨by first | rfl | (simp [errW_none, errW_some] <;> rfl) | (simp [*, errW_none, errW_some] <;> rfl), by repeat (first | (with_reducible first | exact HB.out | apply below_alloc | apply pw_below_drewN | apply below_drew1) | exact HB.out)⟩
                    · rw [if_neg c13] at H
                      have c13b0 : (t124.toList == ([48, 46, 57] : List UInt8)) = false := beq_eq_false_iff_ne.mpr c13
                      have c13b1 : (t124.toList != ([48, 46, 57] : List UInt8)) = true := bne_iff_ne.mpr c13
                      obtain rfl := Option.some.inj H
                      go_enter Tryz.func11, Tryz.ntmps11
                      go_wp2_with (first | ((with_reducible refine gate_callee (f := 17) rfl ?_); refine goesL_ (some 7) rfl rfl Tryz.func17 (by kernel_rfl) rfl #[.string (⟨#[114, 97, 116, 101, 40, 120, 91, 49, 104, 51, 48, 109, 93, 41, 32, 62, 32, 48, 46, 53, 32, 35, 32, 104, 97, 108, 102]⟩ : ByteArray)] rfl (by (try simp only [List.map_toArray, List.map_cons, List.map_nil]); first | done | rfl | (simp only [List.length_drop, List.length_take]; rfl)) ?_; (with_reducible refine (lexer_Tokens.calls (⟨#[114, 97, 116, 101, 40, 120, 91, 49, 104, 51, 48, 109, 93, 41, 32, 62, 32, 48, 46, 53, 32, 35, 32, 104, 97, 108, 102]⟩ : ByteArray) t114 t115 t116 _ ?side1 A1.out).mono ?_); (case side1 => exact Tabs.below HT.out (by repeat (first | (with_reducible first | exact HB.out | apply below_alloc | apply pw_below_drewN | apply below_drew1) | exact HB.out))); rintro e w26 ⟨v117, rfl, ho0, hb⟩; refine ⟨_, rfl, ?_⟩; have n0_ := Aside0.mk (Kd.R_lower ho0 (below_size (by repeat (first | (with_reducible first | exact HB.out | apply below_alloc | apply pw_below_drewN | apply below_drew1) | exact HB.out)))); have n1_ := Aside0.mk (below_step (by repeat (first | (with_reducible first | exact HB.out | apply below_alloc | apply pw_below_drewN | apply below_drew1) | exact HB.out)) hb); clear HB; have HO118 := n0_; have HB := n1_; clear n0_ n1_; (try clear hb); (try clear hb2); (try clear hk); (try clear hi); (try clear ho0)) | ((with_reducible refine gate_callee (f := 10) rfl ?_); refine goesL_ (some 12) rfl rfl Tryz.func10 (by kernel_rfl) rfl #[.int .i64 90500] rfl (by (try simp only [List.map_toArray, List.map_cons, List.map_nil]); first | done | rfl | (simp only [List.length_drop, List.length_take]; rfl)) ?_; (with_reducible refine (lexer_Duration.calls 90500 t119 t120 _ ?side1 A2.out).mono ?_); (case side1 => exact Tabs.below HT.out (by repeat (first | (with_reducible first | exact HB.out | apply below_alloc | apply pw_below_drewN | apply below_drew1) | exact HB.out))); rintro e w27 ⟨rfl, hb⟩; refine ⟨_, rfl, ?_⟩; have n0_ := Aside0.mk (Kd.R_below (by (with_reducible repeat (first | apply Kd.R_alloc | apply Kd.R_drewN | apply Kd.R_drew)); exact HO118.out) hb); have n1_ := Aside0.mk (below_step (by repeat (first | (with_reducible first | exact HB.out | apply below_alloc | apply pw_below_drewN | apply below_drew1) | exact HB.out)) hb); clear HO118; clear HB; have HO118 := n0_; have HB := n1_; clear n0_ n1_; (try clear hb); (try clear hb2); (try clear hk); (try clear hi); obtain ⟨Ao28, co28, eo28⟩ := Kd.R_slice HO118.out; subst eo28; have p121 : 0 ≤ (4 : Int) := (by omega); have q121 : 4 < (t114.length : Int) := of_decide_eq_true (by first | (with_reducible assumption) | assumption); obtain ⟨ad121, e121, hx121_0, hx121_1, hx121_2, hx121_3, hx121_4⟩ := at_T29 (Kd.R_reads' HO118.out).2.2 4 p121 q121; cases e121; (try simp only [show (4 : Int).toNat = 4 from rfl, Nat.reduceMul, Nat.reduceEqDiff, Go.Addr.add, ↓reduceIte] at hx121_0); (try simp only [show (4 : Int).toNat = 4 from rfl, Nat.reduceMul, Nat.reduceEqDiff, Go.Addr.add, ↓reduceIte] at hx121_1); (try simp only [show (4 : Int).toNat = 4 from rfl, Nat.reduceMul, Nat.reduceEqDiff, Go.Addr.add, ↓reduceIte] at hx121_2); (try simp only [show (4 : Int).toNat = 4 from rfl, Nat.reduceMul, Nat.reduceEqDiff, Go.Addr.add, ↓reduceIte] at hx121_3); (try simp only [show (4 : Int).toNat = 4 from rfl, Nat.reduceMul, Nat.reduceEqDiff, Go.Addr.add, ↓reduceIte] at hx121_4); have qi121 : (4 < t114.length) = True := eq_true (by omega); (try rw [show ((4 : Int)).toNat = 4 from rfl] at hx121_0); (try rw [show 4 * 5 = 20 from rfl] at hx121_0); (try rw [show ((4 : Int)).toNat = 4 from rfl] at hx121_1); (try rw [show 4 * 5 = 20 from rfl] at hx121_1); (try rw [show ((4 : Int)).toNat = 4 from rfl] at hx121_2); (try rw [show 4 * 5 = 20 from rfl] at hx121_2); (try rw [show ((4 : Int)).toNat = 4 from rfl] at hx121_3); (try rw [show 4 * 5 = 20 from rfl] at hx121_3); (try rw [show ((4 : Int)).toNat = 4 from rfl] at hx121_4); (try rw [show 4 * 5 = 20 from rfl] at hx121_4); replace p121 := eq_true p121; replace q121 := eq_true q121; have p122 : 0 ≤ (8 : Int) := (by omega); have q122 : 8 < (t114.length : Int) := of_decide_eq_true (by first | (with_reducible assumption) | assumption); obtain ⟨ad122, e122, hx122_0, hx122_1, hx122_2, hx122_3, hx122_4⟩ := at_T29 (Kd.R_reads' HO118.out).2.2 8 p122 q122; obtain rfl : ad121 = ad122 := (by injection e122); (try simp only [show (8 : Int).toNat = 8 from rfl, Nat.reduceMul, Nat.reduceEqDiff, Go.Addr.add, ↓reduceIte] at hx122_0); (try simp only [show (8 : Int).toNat = 8 from rfl, Nat.reduceMul, Nat.reduceEqDiff, Go.Addr.add, ↓reduceIte] at hx122_1); (try simp only [show (8 : Int).toNat = 8 from rfl, Nat.reduceMul, Nat.reduceEqDiff, Go.Addr.add, ↓reduceIte] at hx122_2); (try simp only [show (8 : Int).toNat = 8 from rfl, Nat.reduceMul, Nat.reduceEqDiff, Go.Addr.add, ↓reduceIte] at hx122_3); (try simp only [show (8 : Int).toNat = 8 from rfl, Nat.reduceMul, Nat.reduceEqDiff, Go.Addr.add, ↓reduceIte] at hx122_4); have qi122 : (8 < t114.length) = True := eq_true (by omega); (try rw [show ((8 : Int)).toNat = 8 from rfl] at hx122_0); (try rw [show 8 * 5 = 40 from rfl] at hx122_0); (try rw [show ((8 : Int)).toNat = 8 from rfl] at hx122_1); (try rw [show 8 * 5 = 40 from rfl] at hx122_1); (try rw [show ((8 : Int)).toNat = 8 from rfl] at hx122_2); (try rw [show 8 * 5 = 40 from rfl] at hx122_2); (try rw [show ((8 : Int)).toNat = 8 from rfl] at hx122_3); (try rw [show 8 * 5 = 40 from rfl] at hx122_3); (try rw [show ((8 : Int)).toNat = 8 from rfl] at hx122_4); (try rw [show 8 * 5 = 40 from rfl] at hx122_4); replace p122 := eq_true p122; replace q122 := eq_true q122; have p123 : 0 ≤ (9 : Int) := (by omega); have q123 : 9 < (t114.length : Int) := of_decide_eq_true (by first | (with_reducible assumption) | assumption); obtain ⟨ad123, e123, hx123_0, hx123_1, hx123_2, hx123_3, hx123_4⟩ := at_T29 (Kd.R_reads' HO118.out).2.2 9 p123 q123; obtain rfl : ad121 = ad123 := (by injection e123); (try simp only [show (9 : Int).toNat = 9 from rfl, Nat.reduceMul, Nat.reduceEqDiff, Go.Addr.add, ↓reduceIte] at hx123_0); (try simp only [show (9 : Int).toNat = 9 from rfl, Nat.reduceMul, Nat.reduceEqDiff, Go.Addr.add, ↓reduceIte] at hx123_1); (try simp only [show (9 : Int).toNat = 9 from rfl, Nat.reduceMul, Nat.reduceEqDiff, Go.Addr.add, ↓reduceIte] at hx123_2); (try simp only [show (9 : Int).toNat = 9 from rfl, Nat.reduceMul, Nat.reduceEqDiff, Go.Addr.add, ↓reduceIte] at hx123_3); (try simp only [show (9 : Int).toNat = 9 from rfl, Nat.reduceMul, Nat.reduceEqDiff, Go.Addr.add, ↓reduceIte] at hx123_4); have qi123 : (9 < t114.length) = True := eq_true (by omega); (try rw [show ((9 : Int)).toNat = 9 from rfl] at hx123_0); (try rw [show 9 * 5 = 45 from rfl] at hx123_0); (try rw [show ((9 : Int)).toNat = 9 from rfl] at hx123_1); (try rw [show 9 * 5 = 45 from rfl] at hx123_1); (try rw [show ((9 : Int)).toNat = 9 from rfl] at hx123_2); (try rw [show 9 * 5 = 45 from rfl] at hx123_2); (try rw [show ((9 : Int)).toNat = 9 from rfl] at hx123_3); (try rw [show 9 * 5 = 45 from rfl] at hx123_3); (try rw [show ((9 : Int)).toNat = 9 from rfl] at hx123_4); (try rw [show 9 * 5 = 45 from rfl] at hx123_4); replace p123 := eq_true p123; replace q123 := eq_true q123) | (go_at_call 13; (with_reducible refine (lexer_Number.calls k 9 10 t124 _ ?side1 A12.out).mono ?_); (case side1 => exact Tabs.below HT.out (by repeat (first | (with_reducible first | exact HB.out | apply below_alloc | apply pw_below_drewN | apply below_drew1) | exact HB.out))); rintro e w29 ⟨rfl, hb⟩; have n0_ := Aside0.mk (Kd.R_below (by (with_reducible repeat (first | apply Kd.R_alloc | apply Kd.R_drewN | apply Kd.R_drew)); exact HO118.out) hb); have n1_ := Aside0.mk (below_step (by repeat (first | (with_reducible first | exact HB.out | apply below_alloc | apply pw_below_drewN | apply below_drew1) | exact HB.out)) hb); clear HO118; clear HB; have HO118 := n0_; have HB := n1_; clear n0_ n1_; (try clear hb); (try clear hb2); (try clear hk); (try clear hi)))
                      go_ret
                      exact ⟨by first | rfl | (simp [errW_none, errW_some] <;> rfl) | (simp [*, errW_none, errW_some] <;> rfl), by repeat (first | (with_reducible first | exact HB.out | apply below_alloc | apply pw_below_drewN | apply below_drew1) | exact HB.out)⟩
                  · rw [if_neg c11] at H
                    have c11b0 : (((rd_T29 t114 9).f0) == 0 && ((((rd_T29 t114 9).f1).toList) == ([] : List UInt8) && ((((rd_T29 t114 9).f2.f0) == 0 && (((rd_T29 t114 9).f2.f1) == 0)) && (((rd_T29 t114 9).f3) == 27)))) = false := by simpa using c11
                    (try (have c11b1 : decide (((rd_T29 t114 9).f0) = 0 && ((((rd_T29 t114 9).f1).toList) == ([] : List UInt8) && ((((rd_T29 t114 9).f2.f0) == 0 && (((rd_T29 t114 9).f2.f1) == 0)) && (((rd_T29 t114 9).f3) == 27)))) = false := by simpa using c11))
                    (try (have c11b2 : (((rd_T29 t114 9).f0) == 0 && ((((rd_T29 t114 9).f1).toList) == ([] : List UInt8) && ((((rd_T29 t114 9).f2.f0) == 0 && (((rd_T29 t114 9).f2.f1) == 0)) && (((rd_T29 t114 9).f3) == 27)))) = false := by simpa using c11))
                    (try (have c11b3 : ¬ (((rd_T29 t114 9).f0) = 0 && ((((rd_T29 t114 9).f1).toList) == ([] : List UInt8) && ((((rd_T29 t114 9).f2.f0) == 0 && (((rd_T29 t114 9).f2.f1) == 0)) && (((rd_T29 t114 9).f3) == 27)))) := by simpa using c11))
                    have c11b9 := (Bool.eq_false_iff.1 c11b0); simp only [ne_eq, Bool.and_eq_true, beq_iff_eq] at c11b9
                    clear c11
                    obtain rfl := Option.some.inj H
                    go_enter Tryz.func11, Tryz.ntmps11
                    go_wp2_with (first | ((with_reducible refine gate_callee (f := 17) rfl ?_); refine goesL_ (some 7) rfl rfl Tryz.func17 (by kernel_rfl) rfl #[.string (⟨#[114, 97, 116, 101, 40, 120, 91, 49, 104, 51, 48, 109, 93, 41, 32, 62, 32, 48, 46, 53, 32, 35, 32, 104, 97, 108, 102]⟩ : ByteArray)] rfl (by (try simp only [List.map_toArray, List.map_cons, List.map_nil]); first | done | rfl | (simp only [List.length_drop, List.length_take]; rfl)) ?_; (with_reducible refine (lexer_Tokens.calls (⟨#[114, 97, 116, 101, 40, 120, 91, 49, 104, 51, 48, 109, 93, 41, 32, 62, 32, 48, 46, 53, 32, 35, 32, 104, 97, 108, 102]⟩ : ByteArray) t114 t115 t116 _ ?side1 A1.out).mono ?_); (case side1 => exact Tabs.below HT.out (by repeat (first | (with_reducible first | exact HB.out | apply below_alloc | apply pw_below_drewN | apply below_drew1) | exact HB.out))); rintro e w30 ⟨v117, rfl, ho0, hb⟩; refine ⟨_, rfl, ?_⟩; have n0_ := Aside0.mk (Kd.R_lower ho0 (below_size (by repeat (first | (with_reducible first | exact HB.out | apply below_alloc | apply pw_below_drewN | apply below_drew1) | exact HB.out)))); have n1_ := Aside0.mk (below_step (by repeat (first | (with_reducible first | exact HB.out | apply below_alloc | apply pw_below_drewN | apply below_drew1) | exact HB.out)) hb); clear HB; have HO118 := n0_; have HB := n1_; clear n0_ n1_; (try clear hb); (try clear hb2); (try clear hk); (try clear hi); (try clear ho0)) | ((with_reducible refine gate_callee (f := 10) rfl ?_); refine goesL_ (some 12) rfl rfl Tryz.func10 (by kernel_rfl) rfl #[.int .i64 90500] rfl (by (try simp only [List.map_toArray, List.map_cons, List.map_nil]); first | done | rfl | (simp only [List.length_drop, List.length_take]; rfl)) ?_; (with_reducible refine (lexer_Duration.calls 90500 t119 t120 _ ?side1 A2.out).mono ?_); (case side1 => exact Tabs.below HT.out (by repeat (first | (with_reducible first | exact HB.out | apply below_alloc | apply pw_below_drewN | apply below_drew1) | exact HB.out))); rintro e w31 ⟨rfl, hb⟩; refine ⟨_, rfl, ?_⟩; have n0_ := Aside0.mk (Kd.R_below (by (with_reducible repeat (first | apply Kd.R_alloc | apply Kd.R_drewN | apply Kd.R_drew)); exact HO118.out) hb); have n1_ := Aside0.mk (below_step (by repeat (first | (with_reducible first | exact HB.out | apply below_alloc | apply pw_below_drewN | apply below_drew1) | exact HB.out)) hb); clear HO118; clear HB; have HO118 := n0_; have HB := n1_; clear n0_ n1_; (try clear hb); (try clear hb2); (try clear hk); (try clear hi); obtain ⟨Ao32, co32, eo32⟩ := Kd.R_slice HO118.out; subst eo32; have p121 : 0 ≤ (4 : Int) := (by omega); have q121 : 4 < (t114.length : Int) := of_decide_eq_true (by first | (with_reducible assumption) | assumption); obtain ⟨ad121, e121, hx121_0, hx121_1, hx121_2, hx121_3, hx121_4⟩ := at_T29 (Kd.R_reads' HO118.out).2.2 4 p121 q121; cases e121; (try simp only [show (4 : Int).toNat = 4 from rfl, Nat.reduceMul, Nat.reduceEqDiff, Go.Addr.add, ↓reduceIte] at hx121_0); (try simp only [show (4 : Int).toNat = 4 from rfl, Nat.reduceMul, Nat.reduceEqDiff, Go.Addr.add, ↓reduceIte] at hx121_1); (try simp only [show (4 : Int).toNat = 4 from rfl, Nat.reduceMul, Nat.reduceEqDiff, Go.Addr.add, ↓reduceIte] at hx121_2); (try simp only [show (4 : Int).toNat = 4 from rfl, Nat.reduceMul, Nat.reduceEqDiff, Go.Addr.add, ↓reduceIte] at hx121_3); (try simp only [show (4 : Int).toNat = 4 from rfl, Nat.reduceMul, Nat.reduceEqDiff, Go.Addr.add, ↓reduceIte] at hx121_4); have qi121 : (4 < t114.length) = True := eq_true (by omega); (try rw [show ((4 : Int)).toNat = 4 from rfl] at hx121_0); (try rw [show 4 * 5 = 20 from rfl] at hx121_0); (try rw [show ((4 : Int)).toNat = 4 from rfl] at hx121_1); (try rw [show 4 * 5 = 20 from rfl] at hx121_1); (try rw [show ((4 : Int)).toNat = 4 from rfl] at hx121_2); (try rw [show 4 * 5 = 20 from rfl] at hx121_2); (try rw [show ((4 : Int)).toNat = 4 from rfl] at hx121_3); (try rw [show 4 * 5 = 20 from rfl] at hx121_3); (try rw [show ((4 : Int)).toNat = 4 from rfl] at hx121_4); (try rw [show 4 * 5 = 20 from rfl] at hx121_4); replace p121 := eq_true p121; replace q121 := eq_true q121; have p122 : 0 ≤ (8 : Int) := (by omega); have q122 : 8 < (t114.length : Int) := of_decide_eq_true (by first | (with_reducible assumption) | assumption); obtain ⟨ad122, e122, hx122_0, hx122_1, hx122_2, hx122_3, hx122_4⟩ := at_T29 (Kd.R_reads' HO118.out).2.2 8 p122 q122; obtain rfl : ad121 = ad122 := (by injection e122); (try simp only [show (8 : Int).toNat = 8 from rfl, Nat.reduceMul, Nat.reduceEqDiff, Go.Addr.add, ↓reduceIte] at hx122_0); (try simp only [show (8 : Int).toNat = 8 from rfl, Nat.reduceMul, Nat.reduceEqDiff, Go.Addr.add, ↓reduceIte] at hx122_1); (try simp only [show (8 : Int).toNat = 8 from rfl, Nat.reduceMul, Nat.reduceEqDiff, Go.Addr.add, ↓reduceIte] at hx122_2); (try simp only [show (8 : Int).toNat = 8 from rfl, Nat.reduceMul, Nat.reduceEqDiff, Go.Addr.add, ↓reduceIte] at hx122_3); (try simp only [show (8 : Int).toNat = 8 from rfl, Nat.reduceMul, Nat.reduceEqDiff, Go.Addr.add, ↓reduceIte] at hx122_4); have qi122 : (8 < t114.length) = True := eq_true (by omega); (try rw [show ((8 : Int)).toNat = 8 from rfl] at hx122_0); (try rw [show 8 * 5 = 40 from rfl] at hx122_0); (try rw [show ((8 : Int)).toNat = 8 from rfl] at hx122_1); (try rw [show 8 * 5 = 40 from rfl] at hx122_1); (try rw [show ((8 : Int)).toNat = 8 from rfl] at hx122_2); (try rw [show 8 * 5 = 40 from rfl] at hx122_2); (try rw [show ((8 : Int)).toNat = 8 from rfl] at hx122_3); (try rw [show 8 * 5 = 40 from rfl] at hx122_3); (try rw [show ((8 : Int)).toNat = 8 from rfl] at hx122_4); (try rw [show 8 * 5 = 40 from rfl] at hx122_4); replace p122 := eq_true p122; replace q122 := eq_true q122; have p123 : 0 ≤ (9 : Int) := (by omega); have q123 : 9 < (t114.length : Int) := of_decide_eq_true (by first | (with_reducible assumption) | assumption); obtain ⟨ad123, e123, hx123_0, hx123_1, hx123_2, hx123_3, hx123_4⟩ := at_T29 (Kd.R_reads' HO118.out).2.2 9 p123 q123; obtain rfl : ad121 = ad123 := (by injection e123); (try simp only [show (9 : Int).toNat = 9 from rfl, Nat.reduceMul, Nat.reduceEqDiff, Go.Addr.add, ↓reduceIte] at hx123_0); (try simp only [show (9 : Int).toNat = 9 from rfl, Nat.reduceMul, Nat.reduceEqDiff, Go.Addr.add, ↓reduceIte] at hx123_1); (try simp only [show (9 : Int).toNat = 9 from rfl, Nat.reduceMul, Nat.reduceEqDiff, Go.Addr.add, ↓reduceIte] at hx123_2); (try simp only [show (9 : Int).toNat = 9 from rfl, Nat.reduceMul, Nat.reduceEqDiff, Go.Addr.add, ↓reduceIte] at hx123_3); (try simp only [show (9 : Int).toNat = 9 from rfl, Nat.reduceMul, Nat.reduceEqDiff, Go.Addr.add, ↓reduceIte] at hx123_4); have qi123 : (9 < t114.length) = True := eq_true (by omega); (try rw [show ((9 : Int)).toNat = 9 from rfl] at hx123_0); (try rw [show 9 * 5 = 45 from rfl] at hx123_0); (try rw [show ((9 : Int)).toNat = 9 from rfl] at hx123_1); (try rw [show 9 * 5 = 45 from rfl] at hx123_1); (try rw [show ((9 : Int)).toNat = 9 from rfl] at hx123_2); (try rw [show 9 * 5 = 45 from rfl] at hx123_2); (try rw [show ((9 : Int)).toNat = 9 from rfl] at hx123_3); (try rw [show 9 * 5 = 45 from rfl] at hx123_3); (try rw [show ((9 : Int)).toNat = 9 from rfl] at hx123_4); (try rw [show 9 * 5 = 45 from rfl] at hx123_4); replace p123 := eq_true p123; replace q123 := eq_true q123))
                    go_ret
                    exact ⟨by first | rfl | (simp [errW_none, errW_some] <;> rfl) | (simp [*, errW_none, errW_some] <;> rfl), by repeat (first | (with_reducible first | exact HB.out | apply below_alloc | apply pw_below_drewN | apply below_drew1) | exact HB.out)⟩
                · rw [if_neg c10] at H
                  exact absurd H (by simp)
              · rw [if_neg c9] at H
                have c9b0 : (((rd_T29 t114 8).f0) == 2 && ((((rd_T29 t114 8).f1).toList) == ([48, 46, 53] : List UInt8) && ((((rd_T29 t114 8).f2.f0) == 1 && (((rd_T29 t114 8).f2.f1) == 2)) && (((rd_T29 t114 8).f3) == 17)))) = false := by simpa using c9
                (try (have c9b1 : decide (((rd_T29 t114 8).f0) = 2 && ((((rd_T29 t114 8).f1).toList) == ([48, 46, 53] : List UInt8) && ((((rd_T29 t114 8).f2.f0) == 1 && (((rd_T29 t114 8).f2.f1) == 2)) && (((rd_T29 t114 8).f3) == 17)))) = false := by simpa using c9))
                (try (have c9b2 : (((rd_T29 t114 8).f0) == 2 && ((((rd_T29 t114 8).f1).toList) == ([48, 46, 53] : List UInt8) && ((((rd_T29 t114 8).f2.f0) == 1 && (((rd_T29 t114 8).f2.f1) == 2)) && (((rd_T29 t114 8).f3) == 17)))) = false := by simpa using c9))
                (try (have c9b3 : ¬ (((rd_T29 t114 8).f0) = 2 && ((((rd_T29 t114 8).f1).toList) == ([48, 46, 53] : List UInt8) && ((((rd_T29 t114 8).f2.f0) == 1 && (((rd_T29 t114 8).f2.f1) == 2)) && (((rd_T29 t114 8).f3) == 17)))) := by simpa using c9))
                clear c9
                obtain rfl := Option.some.inj H
                go_enter Tryz.func11, Tryz.ntmps11
                go_wp2_with (first | ((with_reducible refine gate_callee (f := 17) rfl ?_); refine goesL_ (some 7) rfl rfl Tryz.func17 (by kernel_rfl) rfl #[.string (⟨#[114, 97, 116, 101, 40, 120, 91, 49, 104, 51, 48, 109, 93, 41, 32, 62, 32, 48, 46, 53, 32, 35, 32, 104, 97, 108, 102]⟩ : ByteArray)] rfl (by (try simp only [List.map_toArray, List.map_cons, List.map_nil]); first | done | rfl | (simp only [List.length_drop, List.length_take]; rfl)) ?_; (with_reducible refine (lexer_Tokens.calls (⟨#[114, 97, 116, 101, 40, 120, 91, 49, 104, 51, 48, 109, 93, 41, 32, 62, 32, 48, 46, 53, 32, 35, 32, 104, 97, 108, 102]⟩ : ByteArray) t114 t115 t116 _ ?side1 A1.out).mono ?_); (case side1 => exact Tabs.below HT.out (by repeat (first | (with_reducible first | exact HB.out | apply below_alloc | apply pw_below_drewN | apply below_drew1) | exact HB.out))); rintro e w33 ⟨v117, rfl, ho0, hb⟩; refine ⟨_, rfl, ?_⟩; have n0_ := Aside0.mk (Kd.R_lower ho0 (below_size (by repeat (first | (with_reducible first | exact HB.out | apply below_alloc | apply pw_below_drewN | apply below_drew1) | exact HB.out)))); have n1_ := Aside0.mk (below_step (by repeat (first | (with_reducible first | exact HB.out | apply below_alloc | apply pw_below_drewN | apply below_drew1) | exact HB.out)) hb); clear HB; have HO118 := n0_; have HB := n1_; clear n0_ n1_; (try clear hb); (try clear hb2); (try clear hk); (try clear hi); (try clear ho0)) | ((with_reducible refine gate_callee (f := 10) rfl ?_); refine goesL_ (some 12) rfl rfl Tryz.func10 (by kernel_rfl) rfl #[.int .i64 90500] rfl (by (try simp only [List.map_toArray, List.map_cons, List.map_nil]); first | done | rfl | (simp only [List.length_drop, List.length_take]; rfl)) ?_; (with_reducible refine (lexer_Duration.calls 90500 t119 t120 _ ?side1 A2.out).mono ?_); (case side1 => exact Tabs.below HT.out (by repeat (first | (with_reducible first | exact HB.out | apply below_alloc | apply pw_below_drewN | apply below_drew1) | exact HB.out))); rintro e w34 ⟨rfl, hb⟩; refine ⟨_, rfl, ?_⟩; have n0_ := Aside0.mk (Kd.R_below (by (with_reducible repeat (first | apply Kd.R_alloc | apply Kd.R_drewN | apply Kd.R_drew)); exact HO118.out) hb); have n1_ := Aside0.mk (below_step (by repeat (first | (with_reducible first | exact HB.out | apply below_alloc | apply pw_below_drewN | apply below_drew1) | exact HB.out)) hb); clear HO118; clear HB; have HO118 := n0_; have HB := n1_; clear n0_ n1_; (try clear hb); (try clear hb2); (try clear hk); (try clear hi); obtain ⟨Ao35, co35, eo35⟩ := Kd.R_slice HO118.out; subst eo35; have p121 : 0 ≤ (4 : Int) := (by omega); have q121 : 4 < (t114.length : Int) := of_decide_eq_true (by first | (with_reducible assumption) | assumption); obtain ⟨ad121, e121, hx121_0, hx121_1, hx121_2, hx121_3, hx121_4⟩ := at_T29 (Kd.R_reads' HO118.out).2.2 4 p121 q121; cases e121; (try simp only [show (4 : Int).toNat = 4 from rfl, Nat.reduceMul, Nat.reduceEqDiff, Go.Addr.add, ↓reduceIte] at hx121_0); (try simp only [show (4 : Int).toNat = 4 from rfl, Nat.reduceMul, Nat.reduceEqDiff, Go.Addr.add, ↓reduceIte] at hx121_1); (try simp only [show (4 : Int).toNat = 4 from rfl, Nat.reduceMul, Nat.reduceEqDiff, Go.Addr.add, ↓reduceIte] at hx121_2); (try simp only [show (4 : Int).toNat = 4 from rfl, Nat.reduceMul, Nat.reduceEqDiff, Go.Addr.add, ↓reduceIte] at hx121_3); (try simp only [show (4 : Int).toNat = 4 from rfl, Nat.reduceMul, Nat.reduceEqDiff, Go.Addr.add, ↓reduceIte] at hx121_4); have qi121 : (4 < t114.length) = True := eq_true (by omega); (try rw [show ((4 : Int)).toNat = 4 from rfl] at hx121_0); (try rw [show 4 * 5 = 20 from rfl] at hx121_0); (try rw [show ((4 : Int)).toNat = 4 from rfl] at hx121_1); (try rw [show 4 * 5 = 20 from rfl] at hx121_1); (try rw [show ((4 : Int)).toNat = 4 from rfl] at hx121_2); (try rw [show 4 * 5 = 20 from rfl] at hx121_2); (try rw [show ((4 : Int)).toNat = 4 from rfl] at hx121_3); (try rw [show 4 * 5 = 20 from rfl] at hx121_3); (try rw [show ((4 : Int)).toNat = 4 from rfl] at hx121_4); (try rw [show 4 * 5 = 20 from rfl] at hx121_4); replace p121 := eq_true p121; replace q121 := eq_true q121; have p122 : 0 ≤ (8 : Int) := (by omega); have q122 : 8 < (t114.length : Int) := of_decide_eq_true (by first | (with_reducible assumption) | assumption); obtain ⟨ad122, e122, hx122_0, hx122_1, hx122_2, hx122_3, hx122_4⟩ := at_T29 (Kd.R_reads' HO118.out).2.2 8 p122 q122; obtain rfl : ad121 = ad122 := (by injection e122); (try simp only [show (8 : Int).toNat = 8 from rfl, Nat.reduceMul, Nat.reduceEqDiff, Go.Addr.add, ↓reduceIte] at hx122_0); (try simp only [show (8 : Int).toNat = 8 from rfl, Nat.reduceMul, Nat.reduceEqDiff, Go.Addr.add, ↓reduceIte] at hx122_1); (try simp only [show (8 : Int).toNat = 8 from rfl, Nat.reduceMul, Nat.reduceEqDiff, Go.Addr.add, ↓reduceIte] at hx122_2); (try simp only [show (8 : Int).toNat = 8 from rfl, Nat.reduceMul, Nat.reduceEqDiff, Go.Addr.add, ↓reduceIte] at hx122_3); (try simp only [show (8 : Int).toNat = 8 from rfl, Nat.reduceMul, Nat.reduceEqDiff, Go.Addr.add, ↓reduceIte] at hx122_4); have qi122 : (8 < t114.length) = True := eq_true (by omega); (try rw [show ((8 : Int)).toNat = 8 from rfl] at hx122_0); (try rw [show 8 * 5 = 40 from rfl] at hx122_0); (try rw [show ((8 : Int)).toNat = 8 from rfl] at hx122_1); (try rw [show 8 * 5 = 40 from rfl] at hx122_1); (try rw [show ((8 : Int)).toNat = 8 from rfl] at hx122_2); (try rw [show 8 * 5 = 40 from rfl] at hx122_2); (try rw [show ((8 : Int)).toNat = 8 from rfl] at hx122_3); (try rw [show 8 * 5 = 40 from rfl] at hx122_3); (try rw [show ((8 : Int)).toNat = 8 from rfl] at hx122_4); (try rw [show 8 * 5 = 40 from rfl] at hx122_4); replace p122 := eq_true p122; replace q122 := eq_true q122))
                go_ret
                exact ⟨by first | rfl | (simp [errW_none, errW_some] <;> rfl) | (simp [*, errW_none, errW_some] <;> rfl), by repeat (first | (with_reducible first | exact HB.out | apply below_alloc | apply pw_below_drewN | apply below_drew1) | exact HB.out)⟩
            · rw [if_neg c8] at H
              exact absurd H (by simp)
          · rw [if_neg c7] at H
            have c7b0 : (((rd_T29 t114 4).f0) == 3 && ((((rd_T29 t114 4).f1).toList) == ([49, 104, 51, 48, 109] : List UInt8) && ((((rd_T29 t114 4).f2.f0) == 5400000 && (((rd_T29 t114 4).f2.f1) == 1)) && (((rd_T29 t114 4).f3) == 7)))) = false := by simpa using c7
            (try (have c7b1 : decide (((rd_T29 t114 4).f0) = 3 && ((((rd_T29 t114 4).f1).toList) == ([49, 104, 51, 48, 109] : List UInt8) && ((((rd_T29 t114 4).f2.f0) == 5400000 && (((rd_T29 t114 4).f2.f1) == 1)) && (((rd_T29 t114 4).f3) == 7)))) = false := by simpa using c7))
            (try (have c7b2 : (((rd_T29 t114 4).f0) == 3 && ((((rd_T29 t114 4).f1).toList) == ([49, 104, 51, 48, 109] : List UInt8) && ((((rd_T29 t114 4).f2.f0) == 5400000 && (((rd_T29 t114 4).f2.f1) == 1)) && (((rd_T29 t114 4).f3) == 7)))) = false := by simpa using c7))
            (try (have c7b3 : ¬ (((rd_T29 t114 4).f0) = 3 && ((((rd_T29 t114 4).f1).toList) == ([49, 104, 51, 48, 109] : List UInt8) && ((((rd_T29 t114 4).f2.f0) == 5400000 && (((rd_T29 t114 4).f2.f1) == 1)) && (((rd_T29 t114 4).f3) == 7)))) := by simpa using c7))
            clear c7
            obtain rfl := Option.some.inj H
            go_enter Tryz.func11, Tryz.ntmps11
            go_wp2_with (first | ((with_reducible refine gate_callee (f := 17) rfl ?_); refine goesL_ (some 7) rfl rfl Tryz.func17 (by kernel_rfl) rfl #[.string (⟨#[114, 97, 116, 101, 40, 120, 91, 49, 104, 51, 48, 109, 93, 41, 32, 62, 32, 48, 46, 53, 32, 35, 32, 104, 97, 108, 102]⟩ : ByteArray)] rfl (by (try simp only [List.map_toArray, List.map_cons, List.map_nil]); first | done | rfl | (simp only [List.length_drop, List.length_take]; rfl)) ?_; (with_reducible refine (lexer_Tokens.calls (⟨#[114, 97, 116, 101, 40, 120, 91, 49, 104, 51, 48, 109, 93, 41, 32, 62, 32, 48, 46, 53, 32, 35, 32, 104, 97, 108, 102]⟩ : ByteArray) t114 t115 t116 _ ?side1 A1.out).mono ?_); (case side1 => exact Tabs.below HT.out (by repeat (first | (with_reducible first | exact HB.out | apply below_alloc | apply pw_below_drewN | apply below_drew1) | exact HB.out))); rintro e w36 ⟨v117, rfl, ho0, hb⟩; refine ⟨_, rfl, ?_⟩; have n0_ := Aside0.mk (Kd.R_lower ho0 (below_size (by repeat (first | (with_reducible first | exact HB.out | apply below_alloc | apply pw_below_drewN | apply below_drew1) | exact HB.out)))); have n1_ := Aside0.mk (below_step (by repeat (first | (with_reducible first | exact HB.out | apply below_alloc | apply pw_below_drewN | apply below_drew1) | exact HB.out)) hb); clear HB; have HO118 := n0_; have HB := n1_; clear n0_ n1_; (try clear hb); (try clear hb2); (try clear hk); (try clear hi); (try clear ho0)) | ((with_reducible refine gate_callee (f := 10) rfl ?_); refine goesL_ (some 12) rfl rfl Tryz.func10 (by kernel_rfl) rfl #[.int .i64 90500] rfl (by (try simp only [List.map_toArray, List.map_cons, List.map_nil]); first | done | rfl | (simp only [List.length_drop, List.length_take]; rfl)) ?_; (with_reducible refine (lexer_Duration.calls 90500 t119 t120 _ ?side1 A2.out).mono ?_); (case side1 => exact Tabs.below HT.out (by repeat (first | (with_reducible first | exact HB.out | apply below_alloc | apply pw_below_drewN | apply below_drew1) | exact HB.out))); rintro e w37 ⟨rfl, hb⟩; refine ⟨_, rfl, ?_⟩; have n0_ := Aside0.mk (Kd.R_below (by (with_reducible repeat (first | apply Kd.R_alloc | apply Kd.R_drewN | apply Kd.R_drew)); exact HO118.out) hb); have n1_ := Aside0.mk (below_step (by repeat (first | (with_reducible first | exact HB.out | apply below_alloc | apply pw_below_drewN | apply below_drew1) | exact HB.out)) hb); clear HO118; clear HB; have HO118 := n0_; have HB := n1_; clear n0_ n1_; (try clear hb); (try clear hb2); (try clear hk); (try clear hi); obtain ⟨Ao38, co38, eo38⟩ := Kd.R_slice HO118.out; subst eo38; have p121 : 0 ≤ (4 : Int) := (by omega); have q121 : 4 < (t114.length : Int) := of_decide_eq_true (by first | (with_reducible assumption) | assumption); obtain ⟨ad121, e121, hx121_0, hx121_1, hx121_2, hx121_3, hx121_4⟩ := at_T29 (Kd.R_reads' HO118.out).2.2 4 p121 q121; cases e121; (try simp only [show (4 : Int).toNat = 4 from rfl, Nat.reduceMul, Nat.reduceEqDiff, Go.Addr.add, ↓reduceIte] at hx121_0); (try simp only [show (4 : Int).toNat = 4 from rfl, Nat.reduceMul, Nat.reduceEqDiff, Go.Addr.add, ↓reduceIte] at hx121_1); (try simp only [show (4 : Int).toNat = 4 from rfl, Nat.reduceMul, Nat.reduceEqDiff, Go.Addr.add, ↓reduceIte] at hx121_2); (try simp only [show (4 : Int).toNat = 4 from rfl, Nat.reduceMul, Nat.reduceEqDiff, Go.Addr.add, ↓reduceIte] at hx121_3); (try simp only [show (4 : Int).toNat = 4 from rfl, Nat.reduceMul, Nat.reduceEqDiff, Go.Addr.add, ↓reduceIte] at hx121_4); have qi121 : (4 < t114.length) = True := eq_true (by omega); (try rw [show ((4 : Int)).toNat = 4 from rfl] at hx121_0); (try rw [show 4 * 5 = 20 from rfl] at hx121_0); (try rw [show ((4 : Int)).toNat = 4 from rfl] at hx121_1); (try rw [show 4 * 5 = 20 from rfl] at hx121_1); (try rw [show ((4 : Int)).toNat = 4 from rfl] at hx121_2); (try rw [show 4 * 5 = 20 from rfl] at hx121_2); (try rw [show ((4 : Int)).toNat = 4 from rfl] at hx121_3); (try rw [show 4 * 5 = 20 from rfl] at hx121_3); (try rw [show ((4 : Int)).toNat = 4 from rfl] at hx121_4); (try rw [show 4 * 5 = 20 from rfl] at hx121_4); replace p121 := eq_true p121; replace q121 := eq_true q121))
            go_ret
            exact ⟨by first | rfl | (simp [errW_none, errW_some] <;> rfl) | (simp [*, errW_none, errW_some] <;> rfl), by repeat (first | (with_reducible first | exact HB.out | apply below_alloc | apply pw_below_drewN | apply below_drew1) | exact HB.out)⟩
        · rw [if_neg c6] at H
          exact absurd H (by simp)
      · rw [if_neg c5] at H
        have c5b0 : ((t114.length : Int) == 10) = false := beq_eq_false_iff_ne.mpr c5
        have c5b1 : ((t114.length : Int) != 10) = true := bne_iff_ne.mpr c5
        obtain rfl := Option.some.inj H
        go_enter Tryz.func11, Tryz.ntmps11
        go_wp2_with (first | ((with_reducible refine gate_callee (f := 17) rfl ?_); refine goesL_ (some 7) rfl rfl Tryz.func17 (by kernel_rfl) rfl #[.string (⟨#[114, 97, 116, 101, 40, 120, 91, 49, 104, 51, 48, 109, 93, 41, 32, 62, 32, 48, 46, 53, 32, 35, 32, 104, 97, 108, 102]⟩ : ByteArray)] rfl (by (try simp only [List.map_toArray, List.map_cons, List.map_nil]); first | done | rfl | (simp only [List.length_drop, List.length_take]; rfl)) ?_; (with_reducible refine (lexer_Tokens.calls (⟨#[114, 97, 116, 101, 40, 120, 91, 49, 104, 51, 48, 109, 93, 41, 32, 62, 32, 48, 46, 53, 32, 35, 32, 104, 97, 108, 102]⟩ : ByteArray) t114 t115 t116 _ ?side1 A1.out).mono ?_); (case side1 => exact Tabs.below HT.out (by repeat (first | (with_reducible first | exact HB.out | apply below_alloc | apply pw_below_drewN | apply below_drew1) | exact HB.out))); rintro e w39 ⟨v117, rfl, ho0, hb⟩; refine ⟨_, rfl, ?_⟩; have n0_ := Aside0.mk (Kd.R_lower ho0 (below_size (by repeat (first | (with_reducible first | exact HB.out | apply below_alloc | apply pw_below_drewN | apply below_drew1) | exact HB.out)))); have n1_ := Aside0.mk (below_step (by repeat (first | (with_reducible first | exact HB.out | apply below_alloc | apply pw_below_drewN | apply below_drew1) | exact HB.out)) hb); clear HB; have HO118 := n0_; have HB := n1_; clear n0_ n1_; (try clear hb); (try clear hb2); (try clear hk); (try clear hi); (try clear ho0)) | ((with_reducible refine gate_callee (f := 10) rfl ?_); refine goesL_ (some 12) rfl rfl Tryz.func10 (by kernel_rfl) rfl #[.int .i64 90500] rfl (by (try simp only [List.map_toArray, List.map_cons, List.map_nil]); first | done | rfl | (simp only [List.length_drop, List.length_take]; rfl)) ?_; (with_reducible refine (lexer_Duration.calls 90500 t119 t120 _ ?side1 A2.out).mono ?_); (case side1 => exact Tabs.below HT.out (by repeat (first | (with_reducible first | exact HB.out | apply below_alloc | apply pw_below_drewN | apply below_drew1) | exact HB.out))); rintro e w40 ⟨rfl, hb⟩; refine ⟨_, rfl, ?_⟩; have n0_ := Aside0.mk (Kd.R_below (by (with_reducible repeat (first | apply Kd.R_alloc | apply Kd.R_drewN | apply Kd.R_drew)); exact HO118.out) hb); have n1_ := Aside0.mk (below_step (by repeat (first | (with_reducible first | exact HB.out | apply below_alloc | apply pw_below_drewN | apply below_drew1) | exact HB.out)) hb); clear HO118; clear HB; have HO118 := n0_; have HB := n1_; clear n0_ n1_; (try clear hb); (try clear hb2); (try clear hk); (try clear hi); obtain ⟨Ao41, co41, eo41⟩ := Kd.R_slice HO118.out; subst eo41))
        go_ret
        exact ⟨by first | rfl | (simp [errW_none, errW_some] <;> rfl) | (simp [*, errW_none, errW_some] <;> rfl), by repeat (first | (with_reducible first | exact HB.out | apply below_alloc | apply pw_below_drewN | apply below_drew1) | exact HB.out)⟩
    · rw [if_neg c4] at H
      have c4b0 : (t120 == 0) = false := beq_eq_false_iff_ne.mpr c4
      have c4b1 : (t120 != 0) = true := bne_iff_ne.mpr c4
      obtain rfl := Option.some.inj H
      go_enter Tryz.func11, Tryz.ntmps11
      go_wp2_with (first | ((with_reducible refine gate_callee (f := 17) rfl ?_); refine goesL_ (some 7) rfl rfl Tryz.func17 (by kernel_rfl) rfl #[.string (⟨#[114, 97, 116, 101, 40, 120, 91, 49, 104, 51, 48, 109, 93, 41, 32, 62, 32, 48, 46, 53, 32, 35, 32, 104, 97, 108, 102]⟩ : ByteArray)] rfl (by (try simp only [List.map_toArray, List.map_cons, List.map_nil]); first | done | rfl | (simp only [List.length_drop, List.length_take]; rfl)) ?_; (with_reducible refine (lexer_Tokens.calls (⟨#[114, 97, 116, 101, 40, 120, 91, 49, 104, 51, 48, 109, 93, 41, 32, 62, 32, 48, 46, 53, 32, 35, 32, 104, 97, 108, 102]⟩ : ByteArray) t114 t115 t116 _ ?side1 A1.out).mono ?_); (case side1 => exact Tabs.below HT.out (by repeat (first | (with_reducible first | exact HB.out | apply below_alloc | apply pw_below_drewN | apply below_drew1) | exact HB.out))); rintro e w42 ⟨v117, rfl, ho0, hb⟩; refine ⟨_, rfl, ?_⟩; have n0_ := Aside0.mk (Kd.R_lower ho0 (below_size (by repeat (first | (with_reducible first | exact HB.out | apply below_alloc | apply pw_below_drewN | apply below_drew1) | exact HB.out)))); have n1_ := Aside0.mk (below_step (by repeat (first | (with_reducible first | exact HB.out | apply below_alloc | apply pw_below_drewN | apply below_drew1) | exact HB.out)) hb); clear HB; have HO118 := n0_; have HB := n1_; clear n0_ n1_; (try clear hb); (try clear hb2); (try clear hk); (try clear hi); (try clear ho0)) | ((with_reducible refine gate_callee (f := 10) rfl ?_); refine goesL_ (some 12) rfl rfl Tryz.func10 (by kernel_rfl) rfl #[.int .i64 90500] rfl (by (try simp only [List.map_toArray, List.map_cons, List.map_nil]); first | done | rfl | (simp only [List.length_drop, List.length_take]; rfl)) ?_; (with_reducible refine (lexer_Duration.calls 90500 t119 t120 _ ?side1 A2.out).mono ?_); (case side1 => exact Tabs.below HT.out (by repeat (first | (with_reducible first | exact HB.out | apply below_alloc | apply pw_below_drewN | apply below_drew1) | exact HB.out))); rintro e w43 ⟨rfl, hb⟩; refine ⟨_, rfl, ?_⟩; have n0_ := Aside0.mk (Kd.R_below (by (with_reducible repeat (first | apply Kd.R_alloc | apply Kd.R_drewN | apply Kd.R_drew)); exact HO118.out) hb); have n1_ := Aside0.mk (below_step (by repeat (first | (with_reducible first | exact HB.out | apply below_alloc | apply pw_below_drewN | apply below_drew1) | exact HB.out)) hb); clear HO118; clear HB; have HO118 := n0_; have HB := n1_; clear n0_ n1_; (try clear hb); (try clear hb2); (try clear hk); (try clear hi)))
      go_ret
      exact ⟨by first | rfl | (simp [errW_none, errW_some] <;> rfl) | (simp [*, errW_none, errW_some] <;> rfl), by repeat (first | (with_reducible first | exact HB.out | apply below_alloc | apply pw_below_drewN | apply below_drew1) | exact HB.out)⟩
  · rw [if_neg c3] at H
    have c3b0 : (t116 == 0) = false := beq_eq_false_iff_ne.mpr c3
    have c3b1 : (t116 != 0) = true := bne_iff_ne.mpr c3
    obtain rfl := Option.some.inj H
    go_enter Tryz.func11, Tryz.ntmps11
    go_wp2_with (first | ((with_reducible refine gate_callee (f := 17) rfl ?_); refine goesL_ (some 7) rfl rfl Tryz.func17 (by kernel_rfl) rfl #[.string (⟨#[114, 97, 116, 101, 40, 120, 91, 49, 104, 51, 48, 109, 93, 41, 32, 62, 32, 48, 46, 53, 32, 35, 32, 104, 97, 108, 102]⟩ : ByteArray)] rfl (by (try simp only [List.map_toArray, List.map_cons, List.map_nil]); first | done | rfl | (simp only [List.length_drop, List.length_take]; rfl)) ?_; (with_reducible refine (lexer_Tokens.calls (⟨#[114, 97, 116, 101, 40, 120, 91, 49, 104, 51, 48, 109, 93, 41, 32, 62, 32, 48, 46, 53, 32, 35, 32, 104, 97, 108, 102]⟩ : ByteArray) t114 t115 t116 _ ?side1 A1.out).mono ?_); (case side1 => exact Tabs.below HT.out (by repeat (first | (with_reducible first | exact HB.out | apply below_alloc | apply pw_below_drewN | apply below_drew1) | exact HB.out))); rintro e w44 ⟨v117, rfl, ho0, hb⟩; refine ⟨_, rfl, ?_⟩; have n0_ := Aside0.mk (Kd.R_lower ho0 (below_size (by repeat (first | (with_reducible first | exact HB.out | apply below_alloc | apply pw_below_drewN | apply below_drew1) | exact HB.out)))); have n1_ := Aside0.mk (below_step (by repeat (first | (with_reducible first | exact HB.out | apply below_alloc | apply pw_below_drewN | apply below_drew1) | exact HB.out)) hb); clear HB; have HO118 := n0_; have HB := n1_; clear n0_ n1_; (try clear hb); (try clear hb2); (try clear hk); (try clear hi); (try clear ho0)) | ((with_reducible refine gate_callee (f := 10) rfl ?_); refine goesL_ (some 12) rfl rfl Tryz.func10 (by kernel_rfl) rfl #[.int .i64 90500] rfl (by (try simp only [List.map_toArray, List.map_cons, List.map_nil]); first | done | rfl | (simp only [List.length_drop, List.length_take]; rfl)) ?_; (with_reducible refine (lexer_Duration.calls 90500 t119 t120 _ ?side1 A2.out).mono ?_); (case side1 => exact Tabs.below HT.out (by repeat (first | (with_reducible first | exact HB.out | apply below_alloc | apply pw_below_drewN | apply below_drew1) | exact HB.out))); rintro e w45 ⟨rfl, hb⟩; refine ⟨_, rfl, ?_⟩; have n0_ := Aside0.mk (Kd.R_below (by (with_reducible repeat (first | apply Kd.R_alloc | apply Kd.R_drewN | apply Kd.R_drew)); exact HO118.out) hb); have n1_ := Aside0.mk (below_step (by repeat (first | (with_reducible first | exact HB.out | apply below_alloc | apply pw_below_drewN | apply below_drew1) | exact HB.out)) hb); clear HO118; clear HB; have HO118 := n0_; have HB := n1_; clear n0_ n1_; (try clear hb); (try clear hb2); (try clear hk); (try clear hi)))
    go_ret
    exact ⟨by first | rfl | (simp [errW_none, errW_some] <;> rfl) | (simp [*, errW_none, errW_some] <;> rfl), by repeat (first | (with_reducible first | exact HB.out | apply below_alloc | apply pw_below_drewN | apply below_drew1) | exact HB.out)⟩
end Go.Proofs.YteokilkcchdeiaaGreatDoor.Q
end
section
namespace Go.Proofs
open Go.Shelf
def Tryz.lays160_ren : Go.Shelf.Ren := ⟨fun | 160 => 55 | 232 => 80 | 231 => 79 | 227 => 81 | 234 => 83 | 233 => 82 | 236 => 85 | 235 => 84 | 228 => 107 | 271 => 110 | 151 => 109 | 197 => 108 | 120 => 129 | 152 => 128 | 260 => 127 | 137 => 105 | 119 => 142 | 224 => 94 | 225 => 93 | 217 => 92 | 266 => 118 | n => n, fun | 9 => 9 | 4 => 4 | 3 => 3 | 5 => 5 | 117 => 107 | 116 => 106 | 0 => 0 | 124 => 110 | 21 => 21 | 105 => 131 | 46 => 86 | 119 => 82 | 139 => 171 | 138 => 170 | n => n, fun | 3 => 4 | 4 => 5 | n => n⟩
theorem Tryz.lays160 : Go.Proofs.Lays.n160 Tryz.prog Tryz.lays160_ren := {
  mixed := by kernel_rfl
  f119 := Tryz.func142.trans (congrArg some (by kernel_rfl))
  f120 := Tryz.func129.trans (congrArg some (by kernel_rfl))
  f137 := Tryz.func105.trans (congrArg some (by kernel_rfl))
  f151 := Tryz.func109.trans (congrArg some (by kernel_rfl))
  f152 := Tryz.func128.trans (congrArg some (by kernel_rfl))
  f160 := Tryz.func55.trans (congrArg some (by kernel_rfl))
  f197 := Tryz.func108.trans (congrArg some (by kernel_rfl))
  f217 := Tryz.func92.trans (congrArg some (by kernel_rfl))
  f224 := Tryz.func94.trans (congrArg some (by kernel_rfl))
  f225 := Tryz.func93.trans (congrArg some (by kernel_rfl))
  f227 := Tryz.func81.trans (congrArg some (by kernel_rfl))
  f228 := Tryz.func107.trans (congrArg some (by kernel_rfl))
  f231 := Tryz.func79.trans (congrArg some (by kernel_rfl))
  f232 := Tryz.func80.trans (congrArg some (by kernel_rfl))
  f233 := Tryz.func82.trans (congrArg some (by kernel_rfl))
  f234 := Tryz.func83.trans (congrArg some (by kernel_rfl))
  f235 := Tryz.func84.trans (congrArg some (by kernel_rfl))
  f236 := Tryz.func85.trans (congrArg some (by kernel_rfl))
  f260 := Tryz.func127.trans (congrArg some (by kernel_rfl))
  f266 := Tryz.func118.trans (congrArg some (by kernel_rfl))
  f271 := Tryz.func110.trans (congrArg some (by kernel_rfl))
  t0 := Tryz.underlying0
  a0 := Tryz.isAgg0
  z0 := Tryz.sizeOf0
  v0 := Tryz.zeroValue0
  t3 := Tryz.underlying3
  a3 := Tryz.isAgg3
  z3 := Tryz.sizeOf3
  v3 := Tryz.zeroValue3
  t4 := Tryz.underlying4
  a4 := Tryz.isAgg4
  z4 := Tryz.sizeOf4
  v4 := Tryz.zeroValue4
  t5 := Tryz.underlying5
  a5 := Tryz.isAgg5
  z5 := Tryz.sizeOf5
  v5 := Tryz.zeroValue5
  t9 := Tryz.underlying9
  a9 := Tryz.isAgg9
  z9 := Tryz.sizeOf9
  v9 := Tryz.zeroValue9
  t21 := Tryz.underlying21
  a21 := Tryz.isAgg21
  z21 := Tryz.sizeOf21
  v21 := Tryz.zeroValue21
  t46 := Tryz.underlying86
  a46 := Tryz.isAgg86
  z46 := Tryz.sizeOf86
  v46 := Tryz.zeroValue86
  t105 := Tryz.underlying131
  a105 := Tryz.isAgg131
  z105 := Tryz.sizeOf131
  v105 := Tryz.zeroValue131
  t116 := Tryz.underlying106
  a116 := Tryz.isAgg106
  z116 := Tryz.sizeOf106
  t117 := Tryz.underlying107
  a117 := Tryz.isAgg107
  z117 := Tryz.sizeOf107
  v117 := Tryz.zeroValue107
  t119 := Tryz.underlying82
  a119 := Tryz.isAgg82
  z119 := Tryz.sizeOf82
  t124 := Tryz.underlying110
  a124 := Tryz.isAgg110
  z124 := Tryz.sizeOf110
  v124 := Tryz.zeroValue110
  t138 := Tryz.underlying170
  a138 := Tryz.isAgg170
  z138 := Tryz.sizeOf170
  v138 := Tryz.zeroValue170
  t139 := Tryz.underlying171
  a139 := Tryz.isAgg171
  z139 := Tryz.sizeOf171
  v139 := Tryz.zeroValue171
  g3 := by kernel_rfl
  g4 := by kernel_rfl }
end Go.Proofs
end
section
namespace Go.Proofs.YteokilkcchdeiaaGreatDoor.X
open Go.RowKit Go.Proofs.YteokilkcchdeiaaGreatDoor Go.Proofs.YteokilkcchdeiaaGreatDoorW.PrintWords Go.Proofs.YteokilkcchdeiaaGreatDoorW.PrintLast Go.Proofs.YteokilkcchdeiaaGreatDoorW.PrintMore Go.Proofs.YteokilkcchdeiaaGreatDoor.Q
set_option linter.unusedVariables false
set_option linter.unusedSimpArgs false
def slices_Clone_Token.f (l : List S29) : Option (List S29) := if l.length ≤ 1000000000 then some l else none
theorem eql_sl (w : World) (a : Option Addr) (n c : Nat) : (binOp .eql 38 (.slice a n c) (.slice none 0 0)).run Tryz.prog w = .ok (.bool a.isNone) w := Lib.run_eql_slice_nil w _ _ a n c 0 0 Tryz.underlying38
attribute [local go_sem] eql_sl
set_option maxHeartbeats 2000000 in
set_option maxRecDepth 100000 in
theorem slices_Clone_Token.calls (A0 : Option Addr) (c0 : Nat) (l0 r : List S29) (w : World) (hr0 : Kd.C k29 w A0 l0.length l0) (hc0 : l0.length ≤ c0) (h : slices_Clone_Token.f l0 = some r) :
    Calls Tryz.prog 18 #[.slice A0 l0.length c0] w fun e w' => ∃ v, e = .returned v ∧ Kd.R k29 29 w' w.heap.size (fun _ => True) v r ∧ Below w.heap.size w w' := by
  unfold slices_Clone_Token.f at h
  split at h
  · rename_i hl
    obtain rfl := Option.some.inj h
    clear h
    rcases A0 with _ | ad
    · have h0 : l0 = [] := by
        rcases Nat.eq_zero_or_pos l0.length with h0 | h0
        · exact List.length_eq_zero_iff.1 h0
        · obtain ⟨ad, h, _⟩ := hr0.2.2 h0
          cases h
      subst h0
      clear hr0 hl hc0
      have HB := Below.refl w.heap.size w
      go_enter Tryz.func18, Tryz.ntmps18
      go_wp2
      go_ret
      exact ⟨_, rfl, Kd.R_nil _ _ _ _ _, HB⟩
    · have HB := Aside0.mk (Below.refl w.heap.size w)
      have HR := Aside0.mk hr0
      clear hr0
      go_enter Tryz.func18, Tryz.ntmps18
      go_wp2_with (first | ((with_reducible refine gate_dst (N := 5) rfl ?_); refine Kd.R_lit k29 (w0 := w) w.heap.size 29 ?hg (N := 5) ?hd (xs := ([] : List S29)) (inner := []) (ok := fun _ => True) (okp := fun _ => True) ?hr ?hp (fun _ hk => hk) trivial HB.out (Nat.le_refl _) (by simp) ?_; (case hd => rfl); (case hg => rfl); (case hr => first | (go_simp; done) | (go_simp; rfl)); (case hp => exact Reps.none _ _); intro v5 w5 ho5 hb hg_ hnew_; have HO := Aside0.mk ho5; have HW := Aside0.mk hb; have HG := Aside0.mk hg_; clear ho5 hb hg_ hnew_) | ((with_reducible refine gate_builtin (b := .append) (xs := #[.tmp 5, .tmp 6]) rfl ?_); at_builtin; refine Kd.R_append_rows k29 (Rr := k29.K w5) (w0 := w) w.heap.size rfl (.tmp 5) (.tmp 6) 38 29 _ 48 rfl Tryz.underlying38 info29 rfl (by decide) (by omega) v5 [] l0 _ _ _ (fun _ => True) (fun _ => False) rfl rfl HO.out ?aR ?aK (fun _ h => h.elim) (fun _ _ => trivial) HW.out ?aS ?aL ?_))
      case aR => exact Kd.C_below HR.out HW.out
      case aK => intro x cs hx; rw [k29_open hx]; exact k29_mkM _ _ _ _
      case aS => exact HW.out.size
      case aL => simp only [List.length_nil]; omega
      intro v7 w7 ho7 hb7 hg7 hn7
      have HO7 := Aside0.mk ho7
      have HB7 := Aside0.mk hb7
      clear ho7 hb7 hg7 hn7
      go_wp2
      go_ret
      exact ⟨v7, rfl, HO7.out, HB7.out⟩
  · cases h
def strings_Trim.f (s c : ByteArray) : Option ByteArray := if s.size ≤ 4294967280 ∧ c.size < 4294967281 ∧ c.data.toList.all (fun b => decide (b.toNat < 128)) = true then some ⟨(Lib.trimS s.data.toList c.data.toList).toArray⟩ else none
theorem strings_Trim.calls (a0 a1 : ByteArray) (r : ByteArray) (w : World) (hT : Tabs w) (h : strings_Trim.f a0 a1 = some r) :
    Calls Tryz.prog 55 #[.string a0, .string a1] w fun e w' => e = .returned (.string r) ∧ Below w.heap.size w w' := by
  unfold strings_Trim.f at h
  split at h
  · rename_i hc
    obtain rfl := Option.some.inj h
    exact Any.strings_Trim_laid Tryz.lays160 (by kernel_rfl) a0 a1 w (by omega) hc.2.1 (ascii_of_all hc.2.2)
  · cases h
end Go.Proofs.YteokilkcchdeiaaGreatDoor.X
end
section
namespace Go.Proofs.YteokilkcchdeiaaGreatDoor.Q
open Go.Proofs.YteokilkcchdeiaaGreatDoor
open Go.Proofs.YteokilkcchdeiaaGreatDoor.X
open Go.RowKit Go.Proofs.YteokilkcchdeiaaGreatDoorW.PrintWords Go.Proofs.YteokilkcchdeiaaGreatDoorW.PrintLast Go.Proofs.YteokilkcchdeiaaGreatDoorW.PrintMore
attribute [local go_sem] max2_int min2_int max_two min_two max_three min_three max_four min_four   -- for this text's walks alone
set_option linter.unusedVariables false
set_option linter.unusedSimpArgs false
def lookoutlaw42_blank.l0 : Nat → List ByteArray → Int → Int → Option (Bool)
  | 0, _, _, _ => none
  | k + 1, x6, x7, x8 => if x8 < x7 then (if 0 ≤ x8 then (if x8 < (x6.length : Int) then ((strings_Cut.f (rdOf ByteArray.empty x6 x8) (⟨#[35]⟩ : ByteArray)).bind fun bt323 => ((strings_Trim.f bt323.1 (⟨#[32, 9]⟩ : ByteArray)).bind fun t326 => (if t326.toList = ([] : List UInt8) then (lookoutlaw42_blank.l0 k x6 x7 (wrap64 (x8 + 1))) else (some false)))) else (none)) else (none)) else (some true)
def lookoutlaw42_blank.f (k : Nat) (a0 : ByteArray) : Option (Bool) := (strings_Split.f a0 (⟨#[10]⟩ : ByteArray)).bind fun t319 => (lookoutlaw42_blank.l0 k t319 (t319.length : Int) 0)
set_option maxHeartbeats 8000000 in
set_option maxRecDepth 100000 in
theorem lookoutlaw42_blank.calls (k : Nat) (a0 : ByteArray) (r : Bool) (w : World) (hT : Tabs w) (h : lookoutlaw42_blank.f k a0 = some r) :
    Calls Tryz.prog 29 #[.string a0] w fun e w' => e = .returned (.bool r) ∧ Below w.heap.size w w' := by
  have HT := Aside0.mk hT
  clear hT
  have HB := Aside0.mk (Below.refl w.heap.size w)
  have H : ((strings_Split.f a0 (⟨#[10]⟩ : ByteArray)).bind fun t319 => (lookoutlaw42_blank.l0 k t319 (t319.length : Int) 0)) = some r := h
  clear h
  replace H := Option.bind_eq_some_iff.mp H
  obtain ⟨t319, A20, H⟩ := H
  replace H : (lookoutlaw42_blank.l0 k t319 (t319.length : Int) 0) = some r := H
  have A2 := Aside0.mk A20
  clear A20
  have H' := Aside0.mk H
  clear H
  go_enter Tryz.func29, Tryz.ntmps29
  go_wp2_with (first | ((with_reducible refine gate_callee (f := 53) rfl ?_); refine goesL_ (some 6) rfl rfl Tryz.func53 (by kernel_rfl) rfl #[.string a0, .string (⟨#[10]⟩ : ByteArray)] rfl (by (try simp only [List.map_toArray, List.map_cons, List.map_nil]); first | done | rfl | (simp only [List.length_drop, List.length_take]; rfl)) ?_; (with_reducible refine (strings_Split.calls a0 (⟨#[10]⟩ : ByteArray) t319 _ ?side1 A2.out).mono ?_); (case side1 => exact Tabs.below HT.out (by repeat (first | (with_reducible first | exact HB.out | apply below_alloc | apply pw_below_drewN | apply below_drew1) | exact HB.out))); rintro e w3 ⟨v320, rfl, ho0, hb⟩; refine ⟨_, rfl, ?_⟩; have n0_ := Aside0.mk (Kd.R_lower ho0 (below_size (by repeat (first | (with_reducible first | exact HB.out | apply below_alloc | apply pw_below_drewN | apply below_drew1) | exact HB.out)))); have n1_ := Aside0.mk (below_step (by repeat (first | (with_reducible first | exact HB.out | apply below_alloc | apply pw_below_drewN | apply below_drew1) | exact HB.out)) hb); clear HB; have HO321 := n0_; have HB := n1_; clear n0_ n1_; (try clear hb); (try clear hb2); (try clear hk); (try clear hi); (try clear ho0); obtain ⟨Ao4, co4, eo4⟩ := Kd.R_slice HO321.out; subst eo4))
  go_loopg [8] k (fun kq v8 w' => ∃ (x8_1 : Int), v8 = .int .i64 x8_1 ∧ Aside0 (lookoutlaw42_blank.l0 kq t319 (t319.length : Int) x8_1 = some r) ∧ Aside0 (kq ≤ k) ∧ Aside0 (Kd.R Kd.string 9 w' w.heap.size (fun _ => True) (.slice Ao4 t319.length co4) t319) ∧ Aside0 (Below w.heap.size w w'))
  case atStart => exact ⟨(0), (by first | rfl | (simp; done) | (simp [*]; done)), H', ⟨Nat.le_refl _⟩, ⟨by (with_reducible repeat (first | apply Kd.R_alloc | apply Kd.R_drewN | apply Kd.R_drew)); exact HO321.out⟩, ⟨by repeat (first | (with_reducible first | exact HB.out | apply below_alloc | apply pw_below_drewN | apply below_drew1) | exact HB.out)⟩⟩
  case round =>
    clear H'
    try clear c2
    try clear p2
    obtain ⟨x8_1, rfl, HA, HK1, HO_6, HB⟩ := hrel
    cases gk with
    | zero => exact absurd HA.out (by simp [lookoutlaw42_blank.l0])
    | succ k1 =>
      have H := HA.out
      clear HA
      simp only [lookoutlaw42_blank.l0] at H
      by_cases c5 : x8_1 < (t319.length : Int)
      · rw [if_pos c5] at H
        have c5b0 : decide (x8_1 < (t319.length : Int)) = true := decide_eq_true c5
        clear c5
        by_cases c6 : 0 ≤ x8_1
        · rw [if_pos c6] at H
          have c6b0 : decide (0 ≤ x8_1) = true := decide_eq_true c6
          clear c6
          by_cases c7 : x8_1 < (t319.length : Int)
          · rw [if_pos c7] at H
            have c7b0 : decide (x8_1 < (t319.length : Int)) = true := decide_eq_true c7
            clear c7
            replace H := Option.bind_eq_some_iff.mp H
            obtain ⟨⟨t323, t324, t325⟩, A80, H⟩ := H
            replace H : ((strings_Trim.f t323 (⟨#[32, 9]⟩ : ByteArray)).bind fun t326 => (if t326.toList = ([] : List UInt8) then (lookoutlaw42_blank.l0 k1 t319 (t319.length : Int) (wrap64 (x8_1 + 1))) else (some false))) = some r := H
            have A8 := Aside0.mk A80
            clear A80
            replace H := Option.bind_eq_some_iff.mp H
            obtain ⟨t326, A90, H⟩ := H
            replace H : (if t326.toList = ([] : List UInt8) then (lookoutlaw42_blank.l0 k1 t319 (t319.length : Int) (wrap64 (x8_1 + 1))) else (some false)) = some r := H
            have A9 := Aside0.mk A90
            clear A90
            by_cases c10 : t326.toList = ([] : List UInt8)
            · rw [if_pos c10] at H
              have c10b0 : (t326.toList == ([] : List UInt8)) = true := beq_iff_eq.mpr c10
              have c10b1 : (t326.toList != ([] : List UInt8)) = false := bne_eq_false_iff_eq.mpr c10
              clear c10
              have H' := Aside0.mk H
              clear H
              have p322 : 0 ≤ (x8_1 : Int) := of_decide_eq_true (by first | (with_reducible assumption) | assumption)
              have q322 : x8_1 < (t319.length : Int) := of_decide_eq_true (by first | (with_reducible assumption) | assumption)
              obtain ⟨ad322, e322, hx322_0⟩ := Kd.at_string (Kd.R_reads' HO_6.out).2.2 x8_1 p322 q322
              cases e322
              replace p322 := eq_true p322
              replace q322 := eq_true q322
              go_wp2_with (first | ((with_reducible refine gate_callee (f := 54) rfl ?_); refine goesL_ (some 14) rfl rfl Tryz.func54 (by kernel_rfl) rfl #[.string (rdOf ByteArray.empty t319 x8_1), .string (⟨#[35]⟩ : ByteArray)] rfl (by (try simp only [List.map_toArray, List.map_cons, List.map_nil]); first | done | rfl | (simp only [List.length_drop, List.length_take]; rfl)) ?_; (with_reducible refine (strings_Cut.calls (rdOf ByteArray.empty t319 x8_1) (⟨#[35]⟩ : ByteArray) t323 t324 t325 _ ?side1 A8.out).mono ?_); (case side1 => exact Tabs.below HT.out (by repeat (first | (with_reducible first | exact HB.out | apply below_alloc | apply pw_below_drewN | apply below_drew1) | exact HB.out))); rintro e w' ⟨rfl, ⟨nd, rfl⟩⟩; refine ⟨_, rfl, ?_⟩) | ((with_reducible refine gate_callee (f := 55) rfl ?_); refine goesL_ (some 19) rfl rfl Tryz.func55 (by kernel_rfl) rfl #[.string t323, .string (⟨#[32, 9]⟩ : ByteArray)] rfl (by (try simp only [List.map_toArray, List.map_cons, List.map_nil]); first | done | rfl | (simp only [List.length_drop, List.length_take]; rfl)) ?_; (with_reducible refine (strings_Trim.calls t323 (⟨#[32, 9]⟩ : ByteArray) t326 _ ?side1 A9.out).mono ?_); (case side1 => exact Tabs.below HT.out (by repeat (first | (with_reducible first | exact HB.out | apply below_alloc | apply pw_below_drewN | apply below_drew1) | exact HB.out))); rintro e w11 ⟨rfl, hb⟩; refine ⟨_, rfl, ?_⟩; have n0_ := Aside0.mk (Kd.R_below (by (with_reducible repeat (first | apply Kd.R_alloc | apply Kd.R_drewN | apply Kd.R_drew)); exact HO_6.out) hb); have n1_ := Aside0.mk (below_step (by repeat (first | (with_reducible first | exact HB.out | apply below_alloc | apply pw_below_drewN | apply below_drew1) | exact HB.out)) hb); clear HO_6; clear HB; have HO_6 := n0_; have HB := n1_; clear n0_ n1_; (try clear hb); (try clear hb2); (try clear hk); (try clear hi)))
              go_roundg k1
              case measure => have := HK1.out; omega
              case rel => exact ⟨(wrap64 (x8_1 + 1)), (by first | rfl | (simp; done) | (simp [*]; done)), H', ⟨by have := HK1.out; omega⟩, ⟨by (with_reducible repeat (first | apply Kd.R_alloc | apply Kd.R_drewN | apply Kd.R_drew)); exact HO_6.out⟩, ⟨by repeat (first | (with_reducible first | exact HB.out | apply below_alloc | apply pw_below_drewN | apply below_drew1) | exact HB.out)⟩⟩
            · rw [if_neg c10] at H
              have c10b0 : (t326.toList == ([] : List UInt8)) = false := beq_eq_false_iff_ne.mpr c10
              have c10b1 : (t326.toList != ([] : List UInt8)) = true := bne_iff_ne.mpr c10
              obtain rfl := Option.some.inj H
              have p322 : 0 ≤ (x8_1 : Int) := of_decide_eq_true (by first | (with_reducible assumption) | assumption)
              have q322 : x8_1 < (t319.length : Int) := of_decide_eq_true (by first | (with_reducible assumption) | assumption)
              obtain ⟨ad322, e322, hx322_0⟩ := Kd.at_string (Kd.R_reads' HO_6.out).2.2 x8_1 p322 q322
              cases e322
              replace p322 := eq_true p322
              replace q322 := eq_true q322
              go_wp2_with (first | ((with_reducible refine gate_callee (f := 54) rfl ?_); refine goesL_ (some 14) rfl rfl Tryz.func54 (by kernel_rfl) rfl #[.string (rdOf ByteArray.empty t319 x8_1), .string (⟨#[35]⟩ : ByteArray)] rfl (by (try simp only [List.map_toArray, List.map_cons, List.map_nil]); first | done | rfl | (simp only [List.length_drop, List.length_take]; rfl)) ?_; (with_reducible refine (strings_Cut.calls (rdOf ByteArray.empty t319 x8_1) (⟨#[35]⟩ : ByteArray) t323 t324 t325 _ ?side1 A8.out).mono ?_); (case side1 => exact Tabs.below HT.out (by repeat (first | (with_reducible first | exact HB.out | apply below_alloc | apply pw_below_drewN | apply below_drew1) | exact HB.out))); rintro e w' ⟨rfl, ⟨nd, rfl⟩⟩; refine ⟨_, rfl, ?_⟩) | ((with_reducible refine gate_callee (f := 55) rfl ?_); refine goesL_ (some 19) rfl rfl Tryz.func55 (by kernel_rfl) rfl #[.string t323, .string (⟨#[32, 9]⟩ : ByteArray)] rfl (by (try simp only [List.map_toArray, List.map_cons, List.map_nil]); first | done | rfl | (simp only [List.length_drop, List.length_take]; rfl)) ?_; (with_reducible refine (strings_Trim.calls t323 (⟨#[32, 9]⟩ : ByteArray) t326 _ ?side1 A9.out).mono ?_); (case side1 => exact Tabs.below HT.out (by repeat (first | (with_reducible first | exact HB.out | apply below_alloc | apply pw_below_drewN | apply below_drew1) | exact HB.out))); rintro e w12 ⟨rfl, hb⟩; refine ⟨_, rfl, ?_⟩; have n0_ := Aside0.mk (Kd.R_below (by (with_reducible repeat (first | apply Kd.R_alloc | apply Kd.R_drewN | apply Kd.R_drew)); exact HO_6.out) hb); have n1_ := Aside0.mk (below_step (by repeat (first | (with_reducible first | exact HB.out | apply below_alloc | apply pw_below_drewN | apply below_drew1) | exact HB.out)) hb); clear HO_6; clear HB; have HO_6 := n0_; have HB := n1_; clear n0_ n1_; (try clear hb); (try clear hb2); (try clear hk); (try clear hi)))
              go_ret
              exact ⟨by first | rfl | (simp [errW_none, errW_some] <;> rfl) | (simp [*, errW_none, errW_some] <;> rfl), by repeat (first | (with_reducible first | exact HB.out | apply below_alloc | apply pw_below_drewN | apply below_drew1) | exact HB.out)⟩
          · rw [if_neg c7] at H
            exact absurd H (by simp)
        · rw [if_neg c6] at H
          exact absurd H (by simp)
      · rw [if_neg c5] at H
        have c5b0 : decide (x8_1 < (t319.length : Int)) = false := decide_eq_false c5
        clear c5
        obtain rfl := Option.some.inj H
        go_wp2
        go_ret
        exact ⟨by first | rfl | (simp [errW_none, errW_some] <;> rfl) | (simp [*, errW_none, errW_some] <;> rfl), by repeat (first | (with_reducible first | exact HB.out | apply below_alloc | apply pw_below_drewN | apply below_drew1) | exact HB.out)⟩
end Go.Proofs.YteokilkcchdeiaaGreatDoor.Q
end
section
namespace Go.Proofs.YteokilkcchdeiaaGreatDoor.Q
open Go.Proofs.YteokilkcchdeiaaGreatDoor
open Go.Proofs.YteokilkcchdeiaaGreatDoor.X
open Go.RowKit Go.Proofs.YteokilkcchdeiaaGreatDoorW.PrintWords Go.Proofs.YteokilkcchdeiaaGreatDoorW.PrintLast Go.Proofs.YteokilkcchdeiaaGreatDoorW.PrintMore
attribute [local go_sem] max2_int min2_int max_two min_two max_three min_three max_four min_four   -- for this text's walks alone
set_option linter.unusedVariables false
set_option linter.unusedSimpArgs false
mutual
def lookoutlaw42_LexerPlaces.l0 : Nat → ByteArray → List (S29) → Int → List (S29) → Int → Int → Option (Bool)
  | 0, _, _, _, _, _, _ => none
  | k + 1, x0, x3, x6, x23, x24, x25 => if x25 < x24 then (if 0 ≤ x25 then (if x25 < (x23.length : Int) then (if ((rd_T29 x23 x25).f0) = 4 then ((lexer_Quote.f ((rd_T29 x23 x25).f1)).bind fun t337 => (lookoutlaw42_LexerPlaces.j1 k x0 x3 x6 x25 t337 x23 x24 x25 ((rd_T29 x23 x25).f0) ((rd_T29 x23 x25).f1) ((rd_T29 x23 x25).f2.f0) ((rd_T29 x23 x25).f2.f1) ((rd_T29 x23 x25).f3))) else (lookoutlaw42_LexerPlaces.j1 k x0 x3 x6 x25 ((rd_T29 x23 x25).f1) x23 x24 x25 ((rd_T29 x23 x25).f0) ((rd_T29 x23 x25).f1) ((rd_T29 x23 x25).f2.f0) ((rd_T29 x23 x25).f2.f1) ((rd_T29 x23 x25).f3))) else (none)) else (none)) else (if x6 = (x0.size : Int) then ((lookoutlaw42_awake.f k).bind fun t334 => (some t334)) else (some false))
def lookoutlaw42_LexerPlaces.j1 : Nat → ByteArray → List (S29) → Int → Int → ByteArray → List (S29) → Int → Int → Int → ByteArray → Int → Int → Int → Option (Bool)
  | 0, _, _, _, _, _, _, _, _, _, _, _, _, _ => none
  | k + 1, x0, x3, x6, x7, x9, x23, x24, x25, x337000, x337001, x337002, x337003, x337004 => if x337004 < x6 then (lookoutlaw42_LexerPlaces.j2 k x0 x3 x7 x9 x23 x24 x25 true x337000 x337001 x337002 x337003 x337004) else (if x337004 > (x0.size : Int) then (lookoutlaw42_LexerPlaces.j2 k x0 x3 x7 x9 x23 x24 x25 true x337000 x337001 x337002 x337003 x337004) else (if 0 ≤ x337004 then (if x337004 ≤ (x0.size : Int) then ((strings_HasPrefix.f (x0.extract (x337004 : Int).toNat x0.size) x9).bind fun t338 => (if t338 = true then (if 0 ≤ x6 then (if x6 ≤ x337004 then ((lookoutlaw42_blank.f k (x0.extract (x6 : Int).toNat (x337004 : Int).toNat)).bind fun t339 => (lookoutlaw42_LexerPlaces.j2 k x0 x3 x7 x9 x23 x24 x25 (!t339) x337000 x337001 x337002 x337003 x337004)) else (none)) else (none)) else (lookoutlaw42_LexerPlaces.j2 k x0 x3 x7 x9 x23 x24 x25 true x337000 x337001 x337002 x337003 x337004))) else (none)) else (none)))
def lookoutlaw42_LexerPlaces.j2 : Nat → ByteArray → List (S29) → Int → ByteArray → List (S29) → Int → Int → Bool → Int → ByteArray → Int → Int → Int → Option (Bool)
  | 0, _, _, _, _, _, _, _, _, _, _, _, _, _ => none
  | k + 1, x0, x3, x7, x9, x23, x24, x25, x66, x337000, x337001, x337002, x337003, x337004 => if x66 = true then (some false) else (if ((x337000 == 0) != (x7 == (wrap64 ((x3.length : Int) - 1)))) = true then (some false) else (if x9.toList = ([] : List UInt8) then (if x337000 = 0 then (lookoutlaw42_LexerPlaces.l0 k x0 x3 (wrap64 (x337004 + (x9.size : Int))) x23 x24 (wrap64 (x25 + 1))) else (some false)) else (lookoutlaw42_LexerPlaces.l0 k x0 x3 (wrap64 (x337004 + (x9.size : Int))) x23 x24 (wrap64 (x25 + 1)))))
end
def lookoutlaw42_LexerPlaces.f (k : Nat) (a0 : ByteArray) : Option (Bool) := if (a0.size : Int) > 600 then ((lookoutlaw42_awake.f k).bind fun t327 => (some t327)) else ((lexer_Tokens.f a0).bind fun bt328 => (if bt328.2.2 = 0 then (lookoutlaw42_LexerPlaces.l0 k a0 bt328.1 0 bt328.1 (bt328.1.length : Int) 0) else ((lookoutlaw42_awake.f k).bind fun t333 => (some t333))))
set_option maxHeartbeats 8000000 in
set_option maxRecDepth 100000 in
theorem lookoutlaw42_LexerPlaces.calls (k : Nat) (a0 : ByteArray) (r : Bool) (w : World) (hT : Tabs w) (h : lookoutlaw42_LexerPlaces.f k a0 = some r) :
    Calls Tryz.prog 9 #[.string a0] w fun e w' => e = .returned (.bool r) ∧ Below w.heap.size w w' := by
  have hu29 := Tryz.underlying29
  have HT := Aside0.mk hT
  clear hT
  have HB := Aside0.mk (Below.refl w.heap.size w)
  have H : (if (a0.size : Int) > 600 then ((lookoutlaw42_awake.f k).bind fun t327 => (some t327)) else ((lexer_Tokens.f a0).bind fun bt328 => (if bt328.2.2 = 0 then (lookoutlaw42_LexerPlaces.l0 k a0 bt328.1 0 bt328.1 (bt328.1.length : Int) 0) else ((lookoutlaw42_awake.f k).bind fun t333 => (some t333))))) = some r := h
  clear h
  by_cases c2 : (a0.size : Int) > 600
  · rw [if_pos c2] at H
    have c2b0 : decide (600 < (a0.size : Int)) = true := decide_eq_true c2
    have c2b1 : decide (600 < a0.size) = true := decide_eq_true (by omega)
    clear c2
    replace H := Option.bind_eq_some_iff.mp H
    obtain ⟨t327, A30, H⟩ := H
    replace H : (some t327) = some r := H
    have A3 := Aside0.mk A30
    clear A30
    obtain rfl := Option.some.inj H
    go_enter Tryz.func9, Tryz.ntmps9
    go_wp2_with (first | ((with_reducible refine gate_callee (f := 11) rfl ?_); refine goesL_ (some 13) rfl rfl Tryz.func11 (by kernel_rfl) rfl #[] rfl (by (try simp only [List.map_toArray, List.map_cons, List.map_nil]); first | done | rfl | (simp only [List.length_drop, List.length_take]; rfl)) ?_; (with_reducible refine (lookoutlaw42_awake.calls k  t327 _ ?side1 A3.out).mono ?_); (case side1 => exact Tabs.below HT.out (by repeat (first | (with_reducible first | exact HB.out | apply below_alloc | apply pw_below_drewN | apply below_drew1) | exact HB.out))); rintro e w4 ⟨rfl, hb⟩; refine ⟨_, rfl, ?_⟩; have n0_ := Aside0.mk (below_step (by repeat (first | (with_reducible first | exact HB.out | apply below_alloc | apply pw_below_drewN | apply below_drew1) | exact HB.out)) hb); clear HB; have HB := n0_; clear n0_; (try clear hb); (try clear hb2); (try clear hk); (try clear hi)))
    go_ret
    exact ⟨by first | rfl | (simp [errW_none, errW_some] <;> rfl) | (simp [*, errW_none, errW_some] <;> rfl), by repeat (first | (with_reducible first | exact HB.out | apply below_alloc | apply pw_below_drewN | apply below_drew1) | exact HB.out)⟩
  · rw [if_neg c2] at H
    have c2b0 : decide (600 < (a0.size : Int)) = false := decide_eq_false c2
    have c2b1 : decide (600 < a0.size) = false := decide_eq_false (by omega)
    clear c2
    replace H := Option.bind_eq_some_iff.mp H
    obtain ⟨⟨t328, t329, t330⟩, A50, H⟩ := H
    replace H : (if t330 = 0 then (lookoutlaw42_LexerPlaces.l0 k a0 t328 0 t328 (t328.length : Int) 0) else ((lookoutlaw42_awake.f k).bind fun t333 => (some t333))) = some r := H
    have A5 := Aside0.mk A50
    clear A50
    by_cases c6 : t330 = 0
    · rw [if_pos c6] at H
      have c6b0 : (t330 == 0) = true := beq_iff_eq.mpr c6
      have c6b1 : (t330 != 0) = false := bne_eq_false_iff_eq.mpr c6
      clear c6
      have H' := Aside0.mk H
      clear H
      go_enter Tryz.func9, Tryz.ntmps9
      go_wp2_with (first | ((with_reducible refine gate_callee (f := 17) rfl ?_); refine goesL_ (some 16) rfl rfl Tryz.func17 (by kernel_rfl) rfl #[.string a0] rfl (by (try simp only [List.map_toArray, List.map_cons, List.map_nil]); first | done | rfl | (simp only [List.length_drop, List.length_take]; rfl)) ?_; (with_reducible refine (lexer_Tokens.calls a0 t328 t329 t330 _ ?side1 A5.out).mono ?_); (case side1 => exact Tabs.below HT.out (by repeat (first | (with_reducible first | exact HB.out | apply below_alloc | apply pw_below_drewN | apply below_drew1) | exact HB.out))); rintro e w7 ⟨v331, rfl, ho0, hb⟩; refine ⟨_, rfl, ?_⟩; have n0_ := Aside0.mk (Kd.R_lower ho0 (below_size (by repeat (first | (with_reducible first | exact HB.out | apply below_alloc | apply pw_below_drewN | apply below_drew1) | exact HB.out)))); have n1_ := Aside0.mk (below_step (by repeat (first | (with_reducible first | exact HB.out | apply below_alloc | apply pw_below_drewN | apply below_drew1) | exact HB.out)) hb); clear HB; have HO332 := n0_; have HB := n1_; clear n0_ n1_; (try clear hb); (try clear hb2); (try clear hk); (try clear hi); (try clear ho0); obtain ⟨Ao8, co8, eo8⟩ := Kd.R_slice HO332.out; subst eo8))
      go_loopg [6, 25] k (fun kq v6 v25 w' => ∃ (x6_1 : Int) (x25_1 : Int), v6 = .int .i64 x6_1 ∧ v25 = .int .i64 x25_1 ∧ Aside0 (lookoutlaw42_LexerPlaces.l0 kq a0 t328 x6_1 t328 (t328.length : Int) x25_1 = some r) ∧ Aside0 (kq ≤ k) ∧ Aside0 (Kd.R k29 29 w' w.heap.size (fun _ => True) (.slice Ao8 t328.length co8) t328) ∧ Aside0 (Kd.R k29 29 w' w.heap.size (fun _ => True) (.slice Ao8 t328.length co8) t328) ∧ Aside0 (Below w.heap.size w w'))
      case atStart => exact ⟨(0), (0), (by first | rfl | (simp; done) | (simp [*]; done)), (by first | rfl | (simp; done) | (simp [*]; done)), H', ⟨Nat.le_refl _⟩, ⟨by (with_reducible repeat (first | apply Kd.R_alloc | apply Kd.R_drewN | apply Kd.R_drew)); exact HO332.out⟩, ⟨by (with_reducible repeat (first | apply Kd.R_alloc | apply Kd.R_drewN | apply Kd.R_drew)); exact HO332.out⟩, ⟨by repeat (first | (with_reducible first | exact HB.out | apply below_alloc | apply pw_below_drewN | apply below_drew1) | exact HB.out)⟩⟩
      case round =>
        clear H'
        try clear c1
        try clear c2
        try clear c2b0
        try clear c2b1
        try clear p2
        try clear c6
        try clear c6b0
        try clear c6b1
        obtain ⟨x6_1, x25_1, rfl, rfl, HA, HK1, HO_3, HO_23, HB⟩ := hrel
        cases gk with
        | zero => exact absurd HA.out (by simp [lookoutlaw42_LexerPlaces.l0])
        | succ k1 =>
          have H := HA.out
          clear HA
          simp only [lookoutlaw42_LexerPlaces.l0] at H
          by_cases c9 : x25_1 < (t328.length : Int)
          · rw [if_pos c9] at H
            have c9b0 : decide (x25_1 < (t328.length : Int)) = true := decide_eq_true c9
            clear c9
            by_cases c10 : 0 ≤ x25_1
            · rw [if_pos c10] at H
              have c10b0 : decide (0 ≤ x25_1) = true := decide_eq_true c10
              clear c10
              by_cases c11 : x25_1 < (t328.length : Int)
              · rw [if_pos c11] at H
                have c11b0 : decide (x25_1 < (t328.length : Int)) = true := decide_eq_true c11
                clear c11
                have HC12 := Aside0.mk H
                clear H
                have p335 : 0 ≤ (x25_1 : Int) := of_decide_eq_true (by first | (with_reducible assumption) | assumption)
                have q335 : x25_1 < (t328.length : Int) := of_decide_eq_true (by first | (with_reducible assumption) | assumption)
                obtain ⟨ad335, e335, hx335_0, hx335_1, hx335_2, hx335_3, hx335_4⟩ := at_T29 (Kd.R_reads' HO_23.out).2.2 x25_1 p335 q335
                cases e335
                replace p335 := eq_true p335
                replace q335 := eq_true q335
                go_upto_if 34 with (first | ((with_reducible refine gate_dst (N := 8) rfl ?_); (try (refine gate_guard (by rfl) ?_; dsimp only)); refine box_event ?hg (N := 8) ?hd (cs := #[.int .i64 0, .string (⟨#[]⟩ : ByteArray), .int .i64 0, .int .i64 0, .int .i64 0]) (t := 29) ?hr ?_; (case hd => rfl); (case hg => rfl); (case hr => first | (go_simp; done) | (go_simp; rfl)); intro gb336 hg w13 hbox hb; have n0_ := Aside0.mk (Kd.R_below (Kd.R_elderB (by (with_reducible repeat (first | apply Kd.R_alloc | apply Kd.R_drewN | apply Kd.R_drew)); exact HO_3.out) gb336 (Nat.le_of_eq hg.symm)) hb); have n1_ := Aside0.mk (Kd.R_below (Kd.R_elderB (by (with_reducible repeat (first | apply Kd.R_alloc | apply Kd.R_drewN | apply Kd.R_drew)); exact HO_23.out) gb336 (Nat.le_of_eq hg.symm)) hb); have n2_ := Aside0.mk (below_step (by repeat (first | (with_reducible first | exact HB.out | apply below_alloc | apply pw_below_drewN | apply below_drew1) | exact HB.out)) hb); have n3_ := Aside0.mk (hbox); have n4_ := Aside0.mk ((by rw [hg]; exact (below_size (by repeat (first | (with_reducible first | exact HB.out | apply below_alloc | apply pw_below_drewN | apply below_drew1) | exact HB.out))) : w.heap.size ≤ gb336)); have n5_ := Aside0.mk ((by rw [hg]; exact (below_size (by repeat (first | (with_reducible first | exact HB.out | apply below_alloc | apply pw_below_drewN | apply below_drew1) | exact HB.out))) : w.heap.size ≤ gb336)); clear HO_3; clear HO_23; clear HB; have HO_3 := n0_; have HO_23 := n1_; have HB := n2_; have BK336 := n3_; have GW336 := n4_; have GE336 := n5_; clear n0_ n1_ n2_ n3_ n4_ n5_; clear hb hbox hg; have hcz14_0 : w13.cell? ⟨gb336, 0, none⟩ = some (.int .i64 0) := (blk_cell BK336.out 0).trans rfl; have hcz14_1 : w13.cell? ⟨gb336, 1, none⟩ = some (.string (⟨#[]⟩ : ByteArray)) := (blk_cell BK336.out 1).trans rfl; have hcz14_2 : w13.cell? ⟨gb336, 2, none⟩ = some (.int .i64 0) := (blk_cell BK336.out 2).trans rfl; have hcz14_3 : w13.cell? ⟨gb336, 3, none⟩ = some (.int .i64 0) := (blk_cell BK336.out 3).trans rfl; have hcz14_4 : w13.cell? ⟨gb336, 4, none⟩ = some (.int .i64 0) := (blk_cell BK336.out 4).trans rfl; have hfz14_0 := blk_frozen BK336.out 0; have hfz14_1 := blk_frozen BK336.out 1; have hfz14_2 := blk_frozen BK336.out 2; have hfz14_3 := blk_frozen BK336.out 3; have hfz14_4 := blk_frozen BK336.out 4))
                (try simp only [Act.put, List.setIfInBounds_toArray, List.set_cons_zero, List.set_cons_succ])
                go_cut [9] (fun v9 wc => ∃ (kq : Nat) (x9_11 : ByteArray), v9 = .string x9_11 ∧ Aside0 (lookoutlaw42_LexerPlaces.j1 kq a0 t328 x6_1 x25_1 x9_11 t328 (t328.length : Int) x25_1 ((rd_T29 t328 x25_1).f0) ((rd_T29 t328 x25_1).f1) ((rd_T29 t328 x25_1).f2.f0) ((rd_T29 t328 x25_1).f2.f1) ((rd_T29 t328 x25_1).f3) = some r) ∧ Aside0 (kq ≤ k1) ∧ Aside0 (Kd.R k29 29 wc w.heap.size (fun k_ => k_ ≠ gb336) (.slice (some ad335) t328.length co8) t328) ∧ Aside0 (Kd.R k29 29 wc w.heap.size (fun k_ => k_ ≠ gb336) (.slice (some ad335) t328.length co8) t328) ∧ Aside0 (wc.heap[gb336]? = some (.cells #[.int .i64 ((rd_T29 t328 x25_1).f0), .string ((rd_T29 t328 x25_1).f1), .int .i64 ((rd_T29 t328 x25_1).f2.f0), .int .i64 ((rd_T29 t328 x25_1).f2.f1), .int .i64 ((rd_T29 t328 x25_1).f3)] 29 (0, 0))) ∧ Aside0 (Below w.heap.size w wc))
                case first =>
                  have H := HC12.out
                  clear HC12
                  by_cases c15 : ((rd_T29 t328 x25_1).f0) = 4
                  · rw [if_pos c15] at H
                    have c15b0 : (((rd_T29 t328 x25_1).f0) == 4) = true := beq_iff_eq.mpr c15
                    have c15b1 : (((rd_T29 t328 x25_1).f0) != 4) = false := bne_eq_false_iff_eq.mpr c15
                    clear c15
                    (first | rw [c15b0] | (simp only [i64_w, i32_w]; rw [c15b0]) | skip)
                    replace H := Option.bind_eq_some_iff.mp H
                    obtain ⟨t337, A160, H⟩ := H
                    replace H : (lookoutlaw42_LexerPlaces.j1 k1 a0 t328 x6_1 x25_1 t337 t328 (t328.length : Int) x25_1 ((rd_T29 t328 x25_1).f0) ((rd_T29 t328 x25_1).f1) ((rd_T29 t328 x25_1).f2.f0) ((rd_T29 t328 x25_1).f2.f1) ((rd_T29 t328 x25_1).f3)) = some r := H
                    have A16 := Aside0.mk A160
                    clear A160
                    have H' := Aside0.mk H
                    clear H
                    have hcz17_0 : w13.cell? ⟨gb336, 0, none⟩ = some (.int .i64 0) := (blk_cell BK336.out 0).trans rfl
                    have hcz17_1 : w13.cell? ⟨gb336, 1, none⟩ = some (.string (⟨#[]⟩ : ByteArray)) := (blk_cell BK336.out 1).trans rfl
                    have hcz17_2 : w13.cell? ⟨gb336, 2, none⟩ = some (.int .i64 0) := (blk_cell BK336.out 2).trans rfl
                    have hcz17_3 : w13.cell? ⟨gb336, 3, none⟩ = some (.int .i64 0) := (blk_cell BK336.out 3).trans rfl
                    have hcz17_4 : w13.cell? ⟨gb336, 4, none⟩ = some (.int .i64 0) := (blk_cell BK336.out 4).trans rfl
                    have hfz17_0 := blk_frozen BK336.out 0
                    have hfz17_1 := blk_frozen BK336.out 1
                    have hfz17_2 := blk_frozen BK336.out 2
                    have hfz17_3 := blk_frozen BK336.out 3
                    have hfz17_4 := blk_frozen BK336.out 4
                    go_wp2_with (first | ((with_reducible refine gate_callee (f := 20) rfl ?_); refine goesL_ (some 37) rfl rfl Tryz.func20 (by kernel_rfl) rfl #[.string ((rd_T29 t328 x25_1).f1)] rfl (by (try simp only [List.map_toArray, List.map_cons, List.map_nil]); first | done | rfl | (simp only [List.length_drop, List.length_take]; rfl)) ?_; (with_reducible refine (lexer_Quote.calls ((rd_T29 t328 x25_1).f1) t337 _ A16.out).mono ?_); rintro e w18 ⟨rfl, hb⟩; refine ⟨_, rfl, ?_⟩; have n0_ := Aside0.mk (Kd.R_below (by (with_reducible repeat (first | apply Kd.R_alloc | apply Kd.R_drewN | apply Kd.R_drew)); exact (Kd.R_mono (Kd.R_far (p := ⟨gb336, 4, none⟩) (Kd.R_far (p := ⟨gb336, 3, none⟩) (Kd.R_far (p := ⟨gb336, 2, none⟩) (Kd.R_far (p := ⟨gb336, 1, none⟩) (Kd.R_far (p := ⟨gb336, 0, none⟩) (Kd.R_mono HO_3.out (fun k_ hk => (⟨hk, hk.2⟩ : _ ∧ k_ ≠ gb336))) (fun _ hk => hk.2) (.int .i64 ((rd_T29 t328 x25_1).f0))) (fun _ hk => hk.2) (.string ((rd_T29 t328 x25_1).f1))) (fun _ hk => hk.2) (.int .i64 ((rd_T29 t328 x25_1).f2.f0))) (fun _ hk => hk.2) (.int .i64 ((rd_T29 t328 x25_1).f2.f1))) (fun _ hk => hk.2) (.int .i64 ((rd_T29 t328 x25_1).f3))) (fun _ h_ => h_.1))) hb); have n1_ := Aside0.mk (Kd.R_below (by (with_reducible repeat (first | apply Kd.R_alloc | apply Kd.R_drewN | apply Kd.R_drew)); exact (Kd.R_mono (Kd.R_far (p := ⟨gb336, 4, none⟩) (Kd.R_far (p := ⟨gb336, 3, none⟩) (Kd.R_far (p := ⟨gb336, 2, none⟩) (Kd.R_far (p := ⟨gb336, 1, none⟩) (Kd.R_far (p := ⟨gb336, 0, none⟩) (Kd.R_mono HO_23.out (fun k_ hk => (⟨hk, hk.2⟩ : _ ∧ k_ ≠ gb336))) (fun _ hk => hk.2) (.int .i64 ((rd_T29 t328 x25_1).f0))) (fun _ hk => hk.2) (.string ((rd_T29 t328 x25_1).f1))) (fun _ hk => hk.2) (.int .i64 ((rd_T29 t328 x25_1).f2.f0))) (fun _ hk => hk.2) (.int .i64 ((rd_T29 t328 x25_1).f2.f1))) (fun _ hk => hk.2) (.int .i64 ((rd_T29 t328 x25_1).f3))) (fun _ h_ => h_.1))) hb); have n2_ := Aside0.mk (blk_below (g := gb336) (o := .cells #[.int .i64 ((rd_T29 t328 x25_1).f0), .string ((rd_T29 t328 x25_1).f1), .int .i64 ((rd_T29 t328 x25_1).f2.f0), .int .i64 ((rd_T29 t328 x25_1).f2.f1), .int .i64 ((rd_T29 t328 x25_1).f3)] 29 (0, 0)) (by (with_reducible repeat (first | refine blk_drewN ?_ _ | refine blk_drew ?_ | refine blk_alloc ?_ _)); refine blk_put (cs := #[.int .i64 ((rd_T29 t328 x25_1).f0), .string ((rd_T29 t328 x25_1).f1), .int .i64 ((rd_T29 t328 x25_1).f2.f0), .int .i64 ((rd_T29 t328 x25_1).f2.f1), .int .i64 0]) ?_ 4 _ rfl; (with_reducible repeat (first | refine blk_drewN ?_ _ | refine blk_drew ?_ | refine blk_alloc ?_ _)); refine blk_put (cs := #[.int .i64 ((rd_T29 t328 x25_1).f0), .string ((rd_T29 t328 x25_1).f1), .int .i64 ((rd_T29 t328 x25_1).f2.f0), .int .i64 0, .int .i64 0]) ?_ 3 _ rfl; (with_reducible repeat (first | refine blk_drewN ?_ _ | refine blk_drew ?_ | refine blk_alloc ?_ _)); refine blk_put (cs := #[.int .i64 ((rd_T29 t328 x25_1).f0), .string ((rd_T29 t328 x25_1).f1), .int .i64 0, .int .i64 0, .int .i64 0]) ?_ 2 _ rfl; (with_reducible repeat (first | refine blk_drewN ?_ _ | refine blk_drew ?_ | refine blk_alloc ?_ _)); refine blk_put (cs := #[.int .i64 ((rd_T29 t328 x25_1).f0), .string (⟨#[]⟩ : ByteArray), .int .i64 0, .int .i64 0, .int .i64 0]) ?_ 1 _ rfl; (with_reducible repeat (first | refine blk_drewN ?_ _ | refine blk_drew ?_ | refine blk_alloc ?_ _)); refine blk_put (cs := #[.int .i64 0, .string (⟨#[]⟩ : ByteArray), .int .i64 0, .int .i64 0, .int .i64 0]) ?_ 0 _ rfl; (with_reducible repeat (first | refine blk_drewN ?_ _ | refine blk_drew ?_ | refine blk_alloc ?_ _)); exact BK336.out) hb); have n3_ := Aside0.mk (below_step (by repeat (first | (with_reducible first | exact HB.out | apply below_alloc | apply pw_below_drewN | apply below_drew1 | refine below_set ?_ GE336.out) | exact HB.out)) hb); clear HO_3; clear HO_23; clear BK336; clear HB; have HO_3 := n0_; have HO_23 := n1_; have BK336 := n2_; have HB := n3_; clear n0_ n1_ n2_ n3_; (try clear hb); (try clear hb2); (try clear hk); (try clear hi)))
                    go_meet
                    case rel => exact ⟨_, (t337), (by first | rfl | (simp; done) | (simp [*]; done)), H', ⟨by have := HK1.out; first | omega | exact Nat.le_refl _⟩, ⟨by (with_reducible repeat (first | apply Kd.R_alloc | apply Kd.R_drewN | apply Kd.R_drew)); exact Kd.R_mono HO_3.out (fun _ hk => hk.2)⟩, ⟨by (with_reducible repeat (first | apply Kd.R_alloc | apply Kd.R_drewN | apply Kd.R_drew)); exact Kd.R_mono HO_23.out (fun _ hk => hk.2)⟩, ⟨by (with_reducible repeat (first | refine blk_drewN ?_ _ | refine blk_drew ?_ | refine blk_alloc ?_ _)); exact BK336.out⟩, ⟨by repeat (first | (with_reducible first | exact HB.out | apply below_alloc | apply pw_below_drewN | apply below_drew1 | refine below_set ?_ GE336.out) | exact HB.out)⟩⟩
                  · rw [if_neg c15] at H
                    have c15b0 : (((rd_T29 t328 x25_1).f0) == 4) = false := beq_eq_false_iff_ne.mpr c15
                    have c15b1 : (((rd_T29 t328 x25_1).f0) != 4) = true := bne_iff_ne.mpr c15
                    (first | rw [c15b0] | (simp only [i64_w, i32_w]; rw [c15b0]) | skip)
                    have H' := Aside0.mk H
                    clear H
                    go_wp2
                    go_meet
                    case rel => exact ⟨_, ((rd_T29 t328 x25_1).f1), (by first | rfl | (simp; done) | (simp [*]; done)), H', ⟨by have := HK1.out; first | omega | exact Nat.le_refl _⟩, ⟨by (with_reducible repeat (first | apply Kd.R_alloc | apply Kd.R_drewN | apply Kd.R_drew)); exact Kd.R_mono (Kd.R_far (p := ⟨gb336, 4, none⟩) (Kd.R_far (p := ⟨gb336, 3, none⟩) (Kd.R_far (p := ⟨gb336, 2, none⟩) (Kd.R_far (p := ⟨gb336, 1, none⟩) (Kd.R_far (p := ⟨gb336, 0, none⟩) (Kd.R_mono HO_3.out (fun k_ hk => (⟨hk, hk.2⟩ : _ ∧ k_ ≠ gb336))) (fun _ hk => hk.2) (.int .i64 ((rd_T29 t328 x25_1).f0))) (fun _ hk => hk.2) (.string ((rd_T29 t328 x25_1).f1))) (fun _ hk => hk.2) (.int .i64 ((rd_T29 t328 x25_1).f2.f0))) (fun _ hk => hk.2) (.int .i64 ((rd_T29 t328 x25_1).f2.f1))) (fun _ hk => hk.2) (.int .i64 ((rd_T29 t328 x25_1).f3))) (fun _ hk => hk.1.2)⟩, ⟨by (with_reducible repeat (first | apply Kd.R_alloc | apply Kd.R_drewN | apply Kd.R_drew)); exact Kd.R_mono (Kd.R_far (p := ⟨gb336, 4, none⟩) (Kd.R_far (p := ⟨gb336, 3, none⟩) (Kd.R_far (p := ⟨gb336, 2, none⟩) (Kd.R_far (p := ⟨gb336, 1, none⟩) (Kd.R_far (p := ⟨gb336, 0, none⟩) (Kd.R_mono HO_23.out (fun k_ hk => (⟨hk, hk.2⟩ : _ ∧ k_ ≠ gb336))) (fun _ hk => hk.2) (.int .i64 ((rd_T29 t328 x25_1).f0))) (fun _ hk => hk.2) (.string ((rd_T29 t328 x25_1).f1))) (fun _ hk => hk.2) (.int .i64 ((rd_T29 t328 x25_1).f2.f0))) (fun _ hk => hk.2) (.int .i64 ((rd_T29 t328 x25_1).f2.f1))) (fun _ hk => hk.2) (.int .i64 ((rd_T29 t328 x25_1).f3))) (fun _ hk => hk.1.2)⟩, ⟨by (with_reducible repeat (first | refine blk_drewN ?_ _ | refine blk_drew ?_ | refine blk_alloc ?_ _)); refine blk_put (cs := #[.int .i64 ((rd_T29 t328 x25_1).f0), .string ((rd_T29 t328 x25_1).f1), .int .i64 ((rd_T29 t328 x25_1).f2.f0), .int .i64 ((rd_T29 t328 x25_1).f2.f1), .int .i64 0]) ?_ 4 _ rfl; (with_reducible repeat (first | refine blk_drewN ?_ _ | refine blk_drew ?_ | refine blk_alloc ?_ _)); refine blk_put (cs := #[.int .i64 ((rd_T29 t328 x25_1).f0), .string ((rd_T29 t328 x25_1).f1), .int .i64 ((rd_T29 t328 x25_1).f2.f0), .int .i64 0, .int .i64 0]) ?_ 3 _ rfl; (with_reducible repeat (first | refine blk_drewN ?_ _ | refine blk_drew ?_ | refine blk_alloc ?_ _)); refine blk_put (cs := #[.int .i64 ((rd_T29 t328 x25_1).f0), .string ((rd_T29 t328 x25_1).f1), .int .i64 0, .int .i64 0, .int .i64 0]) ?_ 2 _ rfl; (with_reducible repeat (first | refine blk_drewN ?_ _ | refine blk_drew ?_ | refine blk_alloc ?_ _)); refine blk_put (cs := #[.int .i64 ((rd_T29 t328 x25_1).f0), .string (⟨#[]⟩ : ByteArray), .int .i64 0, .int .i64 0, .int .i64 0]) ?_ 1 _ rfl; (with_reducible repeat (first | refine blk_drewN ?_ _ | refine blk_drew ?_ | refine blk_alloc ?_ _)); refine blk_put (cs := #[.int .i64 0, .string (⟨#[]⟩ : ByteArray), .int .i64 0, .int .i64 0, .int .i64 0]) ?_ 0 _ rfl; (with_reducible repeat (first | refine blk_drewN ?_ _ | refine blk_drew ?_ | refine blk_alloc ?_ _)); exact BK336.out⟩, ⟨by repeat (first | (with_reducible first | exact HB.out | apply below_alloc | apply pw_below_drewN | apply below_drew1 | refine below_set ?_ GE336.out) | exact HB.out)⟩⟩
                case rest =>
                  clear HC12
                  try clear c1
                  try clear c2
                  try clear c2b0
                  try clear c2b1
                  try clear p2
                  try clear p3
                  try clear q3
                  try clear hx3
                  try clear c6
                  try clear c6b0
                  try clear c6b1
                  try clear c9
                  try clear c9b0
                  try clear c10
                  try clear c10b0
                  try clear c11
                  try clear c11b0
                  try clear c15
                  try clear c15b0
                  try clear c15b1
                  try clear c17
                  try clear hcz14_0
                  try clear hcz14_1
                  try clear hcz14_2
                  try clear hcz14_3
                  try clear hcz14_4
                  try clear hcz17_0
                  try clear hcz17_1
                  try clear hcz17_2
                  try clear hcz17_3
                  try clear hcz17_4
                  try clear hfz14_0
                  try clear hfz14_1
                  try clear hfz14_2
                  try clear hfz14_3
                  try clear hfz14_4
                  try clear hfz17_0
                  try clear hfz17_1
                  try clear hfz17_2
                  try clear hfz17_3
                  try clear hfz17_4
                  try clear hx335_0
                  try clear hx335_1
                  try clear hx335_2
                  try clear hx335_3
                  try clear hx335_4
                  try clear p2
                  try clear p335
                  try clear q335
                  obtain ⟨kq, x9_11, rfl, HA, HJ11, HO_3, HO_23, BK336, HB⟩ := hcut
                  cases kq with
                  | zero => exact absurd HA.out (by simp [lookoutlaw42_LexerPlaces.j1])
                  | succ kj11 =>
                    have H := HA.out
                    clear HA
                    simp only [lookoutlaw42_LexerPlaces.j1] at H
                    have HC19 := Aside0.mk H
                    clear H
                    go_upto_region 13 with (fail)
                    go_cut [66] (fun v66 wc => ∃ (kq : Nat) (x66_18 : Bool), v66 = .bool x66_18 ∧ Aside0 (lookoutlaw42_LexerPlaces.j2 kq a0 t328 x25_1 x9_11 t328 (t328.length : Int) x25_1 x66_18 ((rd_T29 t328 x25_1).f0) ((rd_T29 t328 x25_1).f1) ((rd_T29 t328 x25_1).f2.f0) ((rd_T29 t328 x25_1).f2.f1) ((rd_T29 t328 x25_1).f3) = some r) ∧ Aside0 (kq ≤ kj11) ∧ Aside0 (Kd.R k29 29 wc w.heap.size (fun k_ => k_ ≠ gb336) (.slice (some ad335) t328.length co8) t328) ∧ Aside0 (Kd.R k29 29 wc w.heap.size (fun k_ => k_ ≠ gb336) (.slice (some ad335) t328.length co8) t328) ∧ Aside0 (wc.heap[gb336]? = some (.cells #[.int .i64 ((rd_T29 t328 x25_1).f0), .string ((rd_T29 t328 x25_1).f1), .int .i64 ((rd_T29 t328 x25_1).f2.f0), .int .i64 ((rd_T29 t328 x25_1).f2.f1), .int .i64 ((rd_T29 t328 x25_1).f3)] 29 (0, 0))) ∧ Aside0 (Below w.heap.size w wc))
                    case first =>
                      have H := HC19.out
                      clear HC19
                      by_cases c20 : ((rd_T29 t328 x25_1).f3) < x6_1
                      · rw [if_pos c20] at H
                        have c20b0 : decide (((rd_T29 t328 x25_1).f3) < x6_1) = true := decide_eq_true c20
                        clear c20
                        (first | rw [c20b0] | (simp only [i64_w, i32_w]; rw [c20b0]) | skip)
                        have H' := Aside0.mk H
                        clear H
                        have hcz21_0 : wc.cell? ⟨gb336, 0, none⟩ = some (.int .i64 ((rd_T29 t328 x25_1).f0)) := (blk_cell BK336.out 0).trans rfl
                        have hcz21_1 : wc.cell? ⟨gb336, 1, none⟩ = some (.string ((rd_T29 t328 x25_1).f1)) := (blk_cell BK336.out 1).trans rfl
                        have hcz21_2 : wc.cell? ⟨gb336, 2, none⟩ = some (.int .i64 ((rd_T29 t328 x25_1).f2.f0)) := (blk_cell BK336.out 2).trans rfl
                        have hcz21_3 : wc.cell? ⟨gb336, 3, none⟩ = some (.int .i64 ((rd_T29 t328 x25_1).f2.f1)) := (blk_cell BK336.out 3).trans rfl
                        have hcz21_4 : wc.cell? ⟨gb336, 4, none⟩ = some (.int .i64 ((rd_T29 t328 x25_1).f3)) := (blk_cell BK336.out 4).trans rfl
                        have hfz21_0 := blk_frozen BK336.out 0
                        have hfz21_1 := blk_frozen BK336.out 1
                        have hfz21_2 := blk_frozen BK336.out 2
                        have hfz21_3 := blk_frozen BK336.out 3
                        have hfz21_4 := blk_frozen BK336.out 4
                        go_wp2
                        go_meet
                        case rel => exact ⟨_, (true), (by first | rfl | (simp; done) | (simp [*]; done)), H', ⟨by have := HK1.out; have := HJ11.out; first | omega | exact Nat.le_refl _⟩, ⟨by (with_reducible repeat (first | apply Kd.R_alloc | apply Kd.R_drewN | apply Kd.R_drew)); exact HO_3.out⟩, ⟨by (with_reducible repeat (first | apply Kd.R_alloc | apply Kd.R_drewN | apply Kd.R_drew)); exact HO_23.out⟩, ⟨by (with_reducible repeat (first | refine blk_drewN ?_ _ | refine blk_drew ?_ | refine blk_alloc ?_ _)); exact BK336.out⟩, ⟨by repeat (first | (with_reducible first | exact HB.out | apply below_alloc | apply pw_below_drewN | apply below_drew1 | refine below_set ?_ GE336.out) | exact HB.out)⟩⟩
                      · rw [if_neg c20] at H
                        have c20b0 : decide (((rd_T29 t328 x25_1).f3) < x6_1) = false := decide_eq_false c20
                        clear c20
                        (first | rw [c20b0] | (simp only [i64_w, i32_w]; rw [c20b0]) | skip)
                        by_cases c22 : ((rd_T29 t328 x25_1).f3) > (a0.size : Int)
                        · rw [if_pos c22] at H
                          have c22b0 : decide ((a0.size : Int) < ((rd_T29 t328 x25_1).f3)) = true := decide_eq_true c22
                          clear c22
                          have H' := Aside0.mk H
                          clear H
                          have hcz23_0 : wc.cell? ⟨gb336, 0, none⟩ = some (.int .i64 ((rd_T29 t328 x25_1).f0)) := (blk_cell BK336.out 0).trans rfl
                          have hcz23_1 : wc.cell? ⟨gb336, 1, none⟩ = some (.string ((rd_T29 t328 x25_1).f1)) := (blk_cell BK336.out 1).trans rfl
                          have hcz23_2 : wc.cell? ⟨gb336, 2, none⟩ = some (.int .i64 ((rd_T29 t328 x25_1).f2.f0)) := (blk_cell BK336.out 2).trans rfl
                          have hcz23_3 : wc.cell? ⟨gb336, 3, none⟩ = some (.int .i64 ((rd_T29 t328 x25_1).f2.f1)) := (blk_cell BK336.out 3).trans rfl
                          have hcz23_4 : wc.cell? ⟨gb336, 4, none⟩ = some (.int .i64 ((rd_T29 t328 x25_1).f3)) := (blk_cell BK336.out 4).trans rfl
                          have hfz23_0 := blk_frozen BK336.out 0
                          have hfz23_1 := blk_frozen BK336.out 1
                          have hfz23_2 := blk_frozen BK336.out 2
                          have hfz23_3 := blk_frozen BK336.out 3
                          have hfz23_4 := blk_frozen BK336.out 4
                          go_wp2
                          go_meet
                          case rel => exact ⟨_, (true), (by first | rfl | (simp; done) | (simp [*]; done)), H', ⟨by have := HK1.out; have := HJ11.out; first | omega | exact Nat.le_refl _⟩, ⟨by (with_reducible repeat (first | apply Kd.R_alloc | apply Kd.R_drewN | apply Kd.R_drew)); exact HO_3.out⟩, ⟨by (with_reducible repeat (first | apply Kd.R_alloc | apply Kd.R_drewN | apply Kd.R_drew)); exact HO_23.out⟩, ⟨by (with_reducible repeat (first | refine blk_drewN ?_ _ | refine blk_drew ?_ | refine blk_alloc ?_ _)); exact BK336.out⟩, ⟨by repeat (first | (with_reducible first | exact HB.out | apply below_alloc | apply pw_below_drewN | apply below_drew1 | refine below_set ?_ GE336.out) | exact HB.out)⟩⟩
                        · rw [if_neg c22] at H
                          have c22b0 : decide ((a0.size : Int) < ((rd_T29 t328 x25_1).f3)) = false := decide_eq_false c22
                          clear c22
                          by_cases c24 : 0 ≤ ((rd_T29 t328 x25_1).f3)
                          · rw [if_pos c24] at H
                            have c24b0 := eq_true c24
                            have c24b1 : decide (0 ≤ ((rd_T29 t328 x25_1).f3)) = true := decide_eq_true c24
                            clear c24
                            by_cases c25 : ((rd_T29 t328 x25_1).f3) ≤ (a0.size : Int)
                            · rw [if_pos c25] at H
                              have c25b0 := eq_true c25
                              have c25b1 : decide (((rd_T29 t328 x25_1).f3) ≤ (a0.size : Int)) = true := decide_eq_true c25
                              clear c25
                              replace H := Option.bind_eq_some_iff.mp H
                              obtain ⟨t338, A260, H⟩ := H
                              replace H : (if t338 = true then (if 0 ≤ x6_1 then (if x6_1 ≤ ((rd_T29 t328 x25_1).f3) then ((lookoutlaw42_blank.f kj11 (a0.extract (x6_1 : Int).toNat (((rd_T29 t328 x25_1).f3) : Int).toNat)).bind fun t339 => (lookoutlaw42_LexerPlaces.j2 kj11 a0 t328 x25_1 x9_11 t328 (t328.length : Int) x25_1 (!t339) ((rd_T29 t328 x25_1).f0) ((rd_T29 t328 x25_1).f1) ((rd_T29 t328 x25_1).f2.f0) ((rd_T29 t328 x25_1).f2.f1) ((rd_T29 t328 x25_1).f3))) else (none)) else (none)) else (lookoutlaw42_LexerPlaces.j2 kj11 a0 t328 x25_1 x9_11 t328 (t328.length : Int) x25_1 true ((rd_T29 t328 x25_1).f0) ((rd_T29 t328 x25_1).f1) ((rd_T29 t328 x25_1).f2.f0) ((rd_T29 t328 x25_1).f2.f1) ((rd_T29 t328 x25_1).f3))) = some r := H
                              have A26 := Aside0.mk A260
                              clear A260
                              by_cases c27 : t338 = true
                              · subst c27
                                have H1 : (if 0 ≤ x6_1 then (if x6_1 ≤ ((rd_T29 t328 x25_1).f3) then ((lookoutlaw42_blank.f kj11 (a0.extract (x6_1 : Int).toNat (((rd_T29 t328 x25_1).f3) : Int).toNat)).bind fun t339 => (lookoutlaw42_LexerPlaces.j2 kj11 a0 t328 x25_1 x9_11 t328 (t328.length : Int) x25_1 (!t339) ((rd_T29 t328 x25_1).f0) ((rd_T29 t328 x25_1).f1) ((rd_T29 t328 x25_1).f2.f0) ((rd_T29 t328 x25_1).f2.f1) ((rd_T29 t328 x25_1).f3))) else (none)) else (none)) = some r := by rw [if_pos rfl] at H; exact H
                                clear H
                                have H := H1
                                clear H1
                                by_cases c28 : 0 ≤ x6_1
                                · rw [if_pos c28] at H
                                  have c28b0 := eq_true c28
                                  have c28b1 : decide (0 ≤ x6_1) = true := decide_eq_true c28
                                  clear c28
                                  by_cases c29 : x6_1 ≤ ((rd_T29 t328 x25_1).f3)
                                  · rw [if_pos c29] at H
                                    have c29b0 := eq_true c29
                                    have c29b1 : decide (x6_1 ≤ ((rd_T29 t328 x25_1).f3)) = true := decide_eq_true c29
                                    clear c29
                                    have c30b0 := eq_true (of_decide_eq_true (by first | (with_reducible assumption) | assumption) : ((rd_T29 t328 x25_1).f3) ≤ (a0.size : Int))
                                    replace H := Option.bind_eq_some_iff.mp H
                                    obtain ⟨t339, A310, H⟩ := H
                                    replace H : (lookoutlaw42_LexerPlaces.j2 kj11 a0 t328 x25_1 x9_11 t328 (t328.length : Int) x25_1 (!t339) ((rd_T29 t328 x25_1).f0) ((rd_T29 t328 x25_1).f1) ((rd_T29 t328 x25_1).f2.f0) ((rd_T29 t328 x25_1).f2.f1) ((rd_T29 t328 x25_1).f3)) = some r := H
                                    have A31 := Aside0.mk A310
                                    clear A310
                                    have H' := Aside0.mk H
                                    clear H
                                    have hcz32_0 : wc.cell? ⟨gb336, 0, none⟩ = some (.int .i64 ((rd_T29 t328 x25_1).f0)) := (blk_cell BK336.out 0).trans rfl
                                    have hcz32_1 : wc.cell? ⟨gb336, 1, none⟩ = some (.string ((rd_T29 t328 x25_1).f1)) := (blk_cell BK336.out 1).trans rfl
                                    have hcz32_2 : wc.cell? ⟨gb336, 2, none⟩ = some (.int .i64 ((rd_T29 t328 x25_1).f2.f0)) := (blk_cell BK336.out 2).trans rfl
                                    have hcz32_3 : wc.cell? ⟨gb336, 3, none⟩ = some (.int .i64 ((rd_T29 t328 x25_1).f2.f1)) := (blk_cell BK336.out 3).trans rfl
                                    have hcz32_4 : wc.cell? ⟨gb336, 4, none⟩ = some (.int .i64 ((rd_T29 t328 x25_1).f3)) := (blk_cell BK336.out 4).trans rfl
                                    have hfz32_0 := blk_frozen BK336.out 0
                                    have hfz32_1 := blk_frozen BK336.out 1
                                    have hfz32_2 := blk_frozen BK336.out 2
                                    have hfz32_3 := blk_frozen BK336.out 3
                                    have hfz32_4 := blk_frozen BK336.out 4
                                    go_wp2_with (first | (go_at_call 28; (with_reducible refine (strings_HasPrefix.calls (a0.extract (((rd_T29 t328 x25_1).f3) : Int).toNat a0.size) x9_11 true _ A26.out).mono ?_); rintro e w' ⟨rfl, ⟨nd, rfl⟩⟩) | (go_at_call 29; (with_reducible refine (lookoutlaw42_blank.calls kj11 (a0.extract (x6_1 : Int).toNat (((rd_T29 t328 x25_1).f3) : Int).toNat) t339 _ ?side1 A31.out).mono ?_); (case side1 => exact Tabs.below HT.out (by repeat (first | (with_reducible first | exact HB.out | apply below_alloc | apply pw_below_drewN | apply below_drew1 | refine below_set ?_ GE336.out) | exact HB.out))); rintro e w33 ⟨rfl, hb⟩; have n0_ := Aside0.mk (Kd.R_below (by (with_reducible repeat (first | apply Kd.R_alloc | apply Kd.R_drewN | apply Kd.R_drew)); exact HO_3.out) hb); have n1_ := Aside0.mk (Kd.R_below (by (with_reducible repeat (first | apply Kd.R_alloc | apply Kd.R_drewN | apply Kd.R_drew)); exact HO_23.out) hb); have n2_ := Aside0.mk (blk_below (g := gb336) (o := .cells #[.int .i64 ((rd_T29 t328 x25_1).f0), .string ((rd_T29 t328 x25_1).f1), .int .i64 ((rd_T29 t328 x25_1).f2.f0), .int .i64 ((rd_T29 t328 x25_1).f2.f1), .int .i64 ((rd_T29 t328 x25_1).f3)] 29 (0, 0)) (by (with_reducible repeat (first | refine blk_drewN ?_ _ | refine blk_drew ?_ | refine blk_alloc ?_ _)); exact BK336.out) hb); have n3_ := Aside0.mk (below_step (by repeat (first | (with_reducible first | exact HB.out | apply below_alloc | apply pw_below_drewN | apply below_drew1 | refine below_set ?_ GE336.out) | exact HB.out)) hb); clear HO_3; clear HO_23; clear BK336; clear HB; have HO_3 := n0_; have HO_23 := n1_; have BK336 := n2_; have HB := n3_; clear n0_ n1_ n2_ n3_; (try clear hb); (try clear hb2); (try clear hk); (try clear hi)))
                                    go_meet
                                    case rel => exact ⟨_, (!t339), (by first | rfl | (simp; done) | (simp [*]; done)), H', ⟨by have := HK1.out; have := HJ11.out; first | omega | exact Nat.le_refl _⟩, ⟨by (with_reducible repeat (first | apply Kd.R_alloc | apply Kd.R_drewN | apply Kd.R_drew)); exact HO_3.out⟩, ⟨by (with_reducible repeat (first | apply Kd.R_alloc | apply Kd.R_drewN | apply Kd.R_drew)); exact HO_23.out⟩, ⟨by (with_reducible repeat (first | refine blk_drewN ?_ _ | refine blk_drew ?_ | refine blk_alloc ?_ _)); exact BK336.out⟩, ⟨by repeat (first | (with_reducible first | exact HB.out | apply below_alloc | apply pw_below_drewN | apply below_drew1 | refine below_set ?_ GE336.out) | exact HB.out)⟩⟩
                                  · rw [if_neg c29] at H
                                    exact absurd H (by simp)
                                · rw [if_neg c28] at H
                                  exact absurd H (by simp)
                              · replace c27 := Bool.eq_false_iff.mpr c27
                                subst c27
                                have H1 : (lookoutlaw42_LexerPlaces.j2 kj11 a0 t328 x25_1 x9_11 t328 (t328.length : Int) x25_1 true ((rd_T29 t328 x25_1).f0) ((rd_T29 t328 x25_1).f1) ((rd_T29 t328 x25_1).f2.f0) ((rd_T29 t328 x25_1).f2.f1) ((rd_T29 t328 x25_1).f3)) = some r := by rw [if_neg (show ¬ (false = true) by decide)] at H; exact H
                                clear H
                                have H := H1
                                clear H1
                                have H' := Aside0.mk H
                                clear H
                                have hcz34_0 : wc.cell? ⟨gb336, 0, none⟩ = some (.int .i64 ((rd_T29 t328 x25_1).f0)) := (blk_cell BK336.out 0).trans rfl
                                have hcz34_1 : wc.cell? ⟨gb336, 1, none⟩ = some (.string ((rd_T29 t328 x25_1).f1)) := (blk_cell BK336.out 1).trans rfl
                                have hcz34_2 : wc.cell? ⟨gb336, 2, none⟩ = some (.int .i64 ((rd_T29 t328 x25_1).f2.f0)) := (blk_cell BK336.out 2).trans rfl
                                have hcz34_3 : wc.cell? ⟨gb336, 3, none⟩ = some (.int .i64 ((rd_T29 t328 x25_1).f2.f1)) := (blk_cell BK336.out 3).trans rfl
                                have hcz34_4 : wc.cell? ⟨gb336, 4, none⟩ = some (.int .i64 ((rd_T29 t328 x25_1).f3)) := (blk_cell BK336.out 4).trans rfl
                                have hfz34_0 := blk_frozen BK336.out 0
                                have hfz34_1 := blk_frozen BK336.out 1
                                have hfz34_2 := blk_frozen BK336.out 2
                                have hfz34_3 := blk_frozen BK336.out 3
                                have hfz34_4 := blk_frozen BK336.out 4
                                go_wp2_with (first | (go_at_call 28; (with_reducible refine (strings_HasPrefix.calls (a0.extract (((rd_T29 t328 x25_1).f3) : Int).toNat a0.size) x9_11 false _ A26.out).mono ?_); rintro e w' ⟨rfl, ⟨nd, rfl⟩⟩))
                                go_meet
                                case rel => exact ⟨_, (true), (by first | rfl | (simp; done) | (simp [*]; done)), H', ⟨by have := HK1.out; have := HJ11.out; first | omega | exact Nat.le_refl _⟩, ⟨by (with_reducible repeat (first | apply Kd.R_alloc | apply Kd.R_drewN | apply Kd.R_drew)); exact HO_3.out⟩, ⟨by (with_reducible repeat (first | apply Kd.R_alloc | apply Kd.R_drewN | apply Kd.R_drew)); exact HO_23.out⟩, ⟨by (with_reducible repeat (first | refine blk_drewN ?_ _ | refine blk_drew ?_ | refine blk_alloc ?_ _)); exact BK336.out⟩, ⟨by repeat (first | (with_reducible first | exact HB.out | apply below_alloc | apply pw_below_drewN | apply below_drew1 | refine below_set ?_ GE336.out) | exact HB.out)⟩⟩
                            · rw [if_neg c25] at H
                              exact absurd H (by simp)
                          · rw [if_neg c24] at H
                            exact absurd H (by simp)
                    case rest =>
                      clear HC19
                      try clear c1
                      try clear c2
                      try clear c2b0
                      try clear c2b1
                      try clear p2
                      try clear c3
                      try clear p3
                      try clear q3
                      try clear hx3
                      try clear c6
                      try clear c6b0
                      try clear c6b1
                      try clear c9
                      try clear c9b0
                      try clear c10
                      try clear c10b0
                      try clear c11
                      try clear c11b0
                      try clear c15
                      try clear c15b0
                      try clear c15b1
                      try clear c17
                      try clear c20
                      try clear c20b0
                      try clear c22
                      try clear c22b0
                      try clear c24
                      try clear c24b0
                      try clear c24b1
                      try clear c25
                      try clear c25b0
                      try clear c25b1
                      try clear c27
                      try clear c28
                      try clear c28b0
                      try clear c28b1
                      try clear c29
                      try clear c29b0
                      try clear c29b1
                      try clear c30
                      try clear c30b0
                      try clear p33
                      try clear q33
                      try clear hx33
                      try clear hcz14_0
                      try clear hcz14_1
                      try clear hcz14_2
                      try clear hcz14_3
                      try clear hcz14_4
                      try clear hcz17_0
                      try clear hcz17_1
                      try clear hcz17_2
                      try clear hcz17_3
                      try clear hcz17_4
                      try clear hcz21_0
                      try clear hcz21_1
                      try clear hcz21_2
                      try clear hcz21_3
                      try clear hcz21_4
                      try clear hcz23_0
                      try clear hcz23_1
                      try clear hcz23_2
                      try clear hcz23_3
                      try clear hcz23_4
                      try clear hcz32_0
                      try clear hcz32_1
                      try clear hcz32_2
                      try clear hcz32_3
                      try clear hcz32_4
                      try clear hcz34_0
                      try clear hcz34_1
                      try clear hcz34_2
                      try clear hcz34_3
                      try clear hcz34_4
                      try clear hfz14_0
                      try clear hfz14_1
                      try clear hfz14_2
                      try clear hfz14_3
                      try clear hfz14_4
                      try clear hfz17_0
                      try clear hfz17_1
                      try clear hfz17_2
                      try clear hfz17_3
                      try clear hfz17_4
                      try clear hfz21_0
                      try clear hfz21_1
                      try clear hfz21_2
                      try clear hfz21_3
                      try clear hfz21_4
                      try clear hfz23_0
                      try clear hfz23_1
                      try clear hfz23_2
                      try clear hfz23_3
                      try clear hfz23_4
                      try clear hfz32_0
                      try clear hfz32_1
                      try clear hfz32_2
                      try clear hfz32_3
                      try clear hfz32_4
                      try clear hfz34_0
                      try clear hfz34_1
                      try clear hfz34_2
                      try clear hfz34_3
                      try clear hfz34_4
                      try clear hx335_0
                      try clear hx335_1
                      try clear hx335_2
                      try clear hx335_3
                      try clear hx335_4
                      try clear p2
                      try clear p3
                      try clear p335
                      try clear q3
                      try clear q335
                      obtain ⟨kq, x66_18, rfl, HA, HJ18, HO_3, HO_23, BK336, HB⟩ := hcut
                      cases kq with
                      | zero => exact absurd HA.out (by simp [lookoutlaw42_LexerPlaces.j2])
                      | succ kj18 =>
                        have H := HA.out
                        clear HA
                        simp only [lookoutlaw42_LexerPlaces.j2] at H
                        by_cases c35 : x66_18 = true
                        · subst c35
                          have H1 : (some false) = some r := by rw [if_pos rfl] at H; exact H
                          clear H
                          have H := H1
                          clear H1
                          obtain rfl := Option.some.inj H
                          go_wp2
                          go_ret
                          exact ⟨by first | rfl | (simp [errW_none, errW_some] <;> rfl) | (simp [*, errW_none, errW_some] <;> rfl), by repeat (first | (with_reducible first | exact HB.out | apply below_alloc | apply pw_below_drewN | apply below_drew1 | refine below_set ?_ GE336.out) | exact HB.out)⟩
                        · replace c35 := Bool.eq_false_iff.mpr c35
                          subst c35
                          have H1 : (if ((((rd_T29 t328 x25_1).f0) == 0) != (x25_1 == (wrap64 ((t328.length : Int) - 1)))) = true then (some false) else (if x9_11.toList = ([] : List UInt8) then (if ((rd_T29 t328 x25_1).f0) = 0 then (lookoutlaw42_LexerPlaces.l0 kj18 a0 t328 (wrap64 (((rd_T29 t328 x25_1).f3) + (x9_11.size : Int))) t328 (t328.length : Int) (wrap64 (x25_1 + 1))) else (some false)) else (lookoutlaw42_LexerPlaces.l0 kj18 a0 t328 (wrap64 (((rd_T29 t328 x25_1).f3) + (x9_11.size : Int))) t328 (t328.length : Int) (wrap64 (x25_1 + 1))))) = some r := by rw [if_neg (show ¬ (false = true) by decide)] at H; exact H
                          clear H
                          have H := H1
                          clear H1
                          by_cases c36 : ((((rd_T29 t328 x25_1).f0) == 0) != (x25_1 == (wrap64 ((t328.length : Int) - 1)))) = true
                          · rw [if_pos c36] at H
                            have c36b0 : ((((rd_T29 t328 x25_1).f0) == 0) != (x25_1 == (wrap64 ((t328.length : Int) - 1)))) = true := c36
                            (try (have c36b1 : decide ((((rd_T29 t328 x25_1).f0) == 0) = (x25_1 == (wrap64 ((t328.length : Int) - 1)))) = false := by simpa using c36))
                            (try (have c36b2 : ((((rd_T29 t328 x25_1).f0) == 0) == (x25_1 == (wrap64 ((t328.length : Int) - 1)))) = false := by simpa using c36))
                            (try (have c36b3 : ¬ ((((rd_T29 t328 x25_1).f0) == 0) = (x25_1 == (wrap64 ((t328.length : Int) - 1)))) := by simpa using c36))
                            clear c36
                            obtain rfl := Option.some.inj H
                            have hcz37_0 : wc.cell? ⟨gb336, 0, none⟩ = some (.int .i64 ((rd_T29 t328 x25_1).f0)) := (blk_cell BK336.out 0).trans rfl
                            have hcz37_1 : wc.cell? ⟨gb336, 1, none⟩ = some (.string ((rd_T29 t328 x25_1).f1)) := (blk_cell BK336.out 1).trans rfl
                            have hcz37_2 : wc.cell? ⟨gb336, 2, none⟩ = some (.int .i64 ((rd_T29 t328 x25_1).f2.f0)) := (blk_cell BK336.out 2).trans rfl
                            have hcz37_3 : wc.cell? ⟨gb336, 3, none⟩ = some (.int .i64 ((rd_T29 t328 x25_1).f2.f1)) := (blk_cell BK336.out 3).trans rfl
                            have hcz37_4 : wc.cell? ⟨gb336, 4, none⟩ = some (.int .i64 ((rd_T29 t328 x25_1).f3)) := (blk_cell BK336.out 4).trans rfl
                            have hfz37_0 := blk_frozen BK336.out 0
                            have hfz37_1 := blk_frozen BK336.out 1
                            have hfz37_2 := blk_frozen BK336.out 2
                            have hfz37_3 := blk_frozen BK336.out 3
                            have hfz37_4 := blk_frozen BK336.out 4
                            go_wp2
                            go_ret
                            exact ⟨by first | rfl | (simp [errW_none, errW_some] <;> rfl) | (simp [*, errW_none, errW_some] <;> rfl), by repeat (first | (with_reducible first | exact HB.out | apply below_alloc | apply pw_below_drewN | apply below_drew1 | refine below_set ?_ GE336.out) | exact HB.out)⟩
                          · rw [if_neg c36] at H
                            have c36b0 : ((((rd_T29 t328 x25_1).f0) == 0) != (x25_1 == (wrap64 ((t328.length : Int) - 1)))) = false := by simpa using c36
                            (try (have c36b1 : decide ((((rd_T29 t328 x25_1).f0) == 0) = (x25_1 == (wrap64 ((t328.length : Int) - 1)))) = true := by simpa using c36))
                            (try (have c36b2 : ((((rd_T29 t328 x25_1).f0) == 0) == (x25_1 == (wrap64 ((t328.length : Int) - 1)))) = true := by simpa using c36))
                            clear c36
                            by_cases c38 : x9_11.toList = ([] : List UInt8)
                            · rw [if_pos c38] at H
                              have c38b0 : (x9_11.toList == ([] : List UInt8)) = true := beq_iff_eq.mpr c38
                              have c38b1 : (x9_11.toList != ([] : List UInt8)) = false := bne_eq_false_iff_eq.mpr c38
                              clear c38
                              by_cases c39 : ((rd_T29 t328 x25_1).f0) = 0
                              · rw [if_pos c39] at H
                                have c39b0 : (((rd_T29 t328 x25_1).f0) == 0) = true := beq_iff_eq.mpr c39
                                have c36b9 : (x25_1 == (wrap64 ((t328.length : Int) - 1))) = true := by have z_ := c36b0; rw [c39b0] at z_; simpa using z_
                                have c39b1 : (((rd_T29 t328 x25_1).f0) != 0) = false := bne_eq_false_iff_eq.mpr c39
                                clear c39
                                have H' := Aside0.mk H
                                clear H
                                have hcz40_0 : wc.cell? ⟨gb336, 0, none⟩ = some (.int .i64 ((rd_T29 t328 x25_1).f0)) := (blk_cell BK336.out 0).trans rfl
                                have hcz40_1 : wc.cell? ⟨gb336, 1, none⟩ = some (.string ((rd_T29 t328 x25_1).f1)) := (blk_cell BK336.out 1).trans rfl
                                have hcz40_2 : wc.cell? ⟨gb336, 2, none⟩ = some (.int .i64 ((rd_T29 t328 x25_1).f2.f0)) := (blk_cell BK336.out 2).trans rfl
                                have hcz40_3 : wc.cell? ⟨gb336, 3, none⟩ = some (.int .i64 ((rd_T29 t328 x25_1).f2.f1)) := (blk_cell BK336.out 3).trans rfl
                                have hcz40_4 : wc.cell? ⟨gb336, 4, none⟩ = some (.int .i64 ((rd_T29 t328 x25_1).f3)) := (blk_cell BK336.out 4).trans rfl
                                have hfz40_0 := blk_frozen BK336.out 0
                                have hfz40_1 := blk_frozen BK336.out 1
                                have hfz40_2 := blk_frozen BK336.out 2
                                have hfz40_3 := blk_frozen BK336.out 3
                                have hfz40_4 := blk_frozen BK336.out 4
                                go_wp2
                                go_roundg kj18
                                case measure => have := HK1.out; have := HJ11.out; have := HJ18.out; omega
                                case rel => exact ⟨(wrap64 (((rd_T29 t328 x25_1).f3) + (x9_11.size : Int))), (wrap64 (x25_1 + 1)), (by first | rfl | (simp; done) | (simp [*]; done)), (by first | rfl | (simp; done) | (simp [*]; done)), H', ⟨by have := HK1.out; have := HJ11.out; have := HJ18.out; omega⟩, ⟨by (with_reducible repeat (first | apply Kd.R_alloc | apply Kd.R_drewN | apply Kd.R_drew)); exact Kd.R_mono HO_3.out (fun _ hk => trivial)⟩, ⟨by (with_reducible repeat (first | apply Kd.R_alloc | apply Kd.R_drewN | apply Kd.R_drew)); exact Kd.R_mono HO_23.out (fun _ hk => trivial)⟩, ⟨by repeat (first | (with_reducible first | exact HB.out | apply below_alloc | apply pw_below_drewN | apply below_drew1 | refine below_set ?_ GE336.out) | exact HB.out)⟩⟩
                              · rw [if_neg c39] at H
                                have c39b0 : (((rd_T29 t328 x25_1).f0) == 0) = false := beq_eq_false_iff_ne.mpr c39
                                have c36b9 : (x25_1 == (wrap64 ((t328.length : Int) - 1))) = false := by have z_ := c36b0; rw [c39b0] at z_; simpa using z_
                                have c39b1 : (((rd_T29 t328 x25_1).f0) != 0) = true := bne_iff_ne.mpr c39
                                obtain rfl := Option.some.inj H
                                have hcz41_0 : wc.cell? ⟨gb336, 0, none⟩ = some (.int .i64 ((rd_T29 t328 x25_1).f0)) := (blk_cell BK336.out 0).trans rfl
                                have hcz41_1 : wc.cell? ⟨gb336, 1, none⟩ = some (.string ((rd_T29 t328 x25_1).f1)) := (blk_cell BK336.out 1).trans rfl
                                have hcz41_2 : wc.cell? ⟨gb336, 2, none⟩ = some (.int .i64 ((rd_T29 t328 x25_1).f2.f0)) := (blk_cell BK336.out 2).trans rfl
                                have hcz41_3 : wc.cell? ⟨gb336, 3, none⟩ = some (.int .i64 ((rd_T29 t328 x25_1).f2.f1)) := (blk_cell BK336.out 3).trans rfl
                                have hcz41_4 : wc.cell? ⟨gb336, 4, none⟩ = some (.int .i64 ((rd_T29 t328 x25_1).f3)) := (blk_cell BK336.out 4).trans rfl
                                have hfz41_0 := blk_frozen BK336.out 0
                                have hfz41_1 := blk_frozen BK336.out 1
                                have hfz41_2 := blk_frozen BK336.out 2
                                have hfz41_3 := blk_frozen BK336.out 3
                                have hfz41_4 := blk_frozen BK336.out 4
                                go_wp2
                                go_ret
                                exact ⟨by first | rfl | (simp [errW_none, errW_some] <;> rfl) | (simp [*, errW_none, errW_some] <;> rfl), by repeat (first | (with_reducible first | exact HB.out | apply below_alloc | apply pw_below_drewN | apply below_drew1 | refine below_set ?_ GE336.out) | exact HB.out)⟩
                            · rw [if_neg c38] at H
                              have c38b0 : (x9_11.toList == ([] : List UInt8)) = false := beq_eq_false_iff_ne.mpr c38
                              have c38b1 : (x9_11.toList != ([] : List UInt8)) = true := bne_iff_ne.mpr c38
                              have H' := Aside0.mk H
                              clear H
                              have hcz42_0 : wc.cell? ⟨gb336, 0, none⟩ = some (.int .i64 ((rd_T29 t328 x25_1).f0)) := (blk_cell BK336.out 0).trans rfl
                              have hcz42_1 : wc.cell? ⟨gb336, 1, none⟩ = some (.string ((rd_T29 t328 x25_1).f1)) := (blk_cell BK336.out 1).trans rfl
                              have hcz42_2 : wc.cell? ⟨gb336, 2, none⟩ = some (.int .i64 ((rd_T29 t328 x25_1).f2.f0)) := (blk_cell BK336.out 2).trans rfl
                              have hcz42_3 : wc.cell? ⟨gb336, 3, none⟩ = some (.int .i64 ((rd_T29 t328 x25_1).f2.f1)) := (blk_cell BK336.out 3).trans rfl
                              have hcz42_4 : wc.cell? ⟨gb336, 4, none⟩ = some (.int .i64 ((rd_T29 t328 x25_1).f3)) := (blk_cell BK336.out 4).trans rfl
                              have hfz42_0 := blk_frozen BK336.out 0
                              have hfz42_1 := blk_frozen BK336.out 1
                              have hfz42_2 := blk_frozen BK336.out 2
                              have hfz42_3 := blk_frozen BK336.out 3
                              have hfz42_4 := blk_frozen BK336.out 4
                              go_wp2
                              go_roundg kj18
                              case measure => have := HK1.out; have := HJ11.out; have := HJ18.out; omega
                              case rel => exact ⟨(wrap64 (((rd_T29 t328 x25_1).f3) + (x9_11.size : Int))), (wrap64 (x25_1 + 1)), (by first | rfl | (simp; done) | (simp [*]; done)), (by first | rfl | (simp; done) | (simp [*]; done)), H', ⟨by have := HK1.out; have := HJ11.out; have := HJ18.out; omega⟩, ⟨by (with_reducible repeat (first | apply Kd.R_alloc | apply Kd.R_drewN | apply Kd.R_drew)); exact Kd.R_mono HO_3.out (fun _ hk => trivial)⟩, ⟨by (with_reducible repeat (first | apply Kd.R_alloc | apply Kd.R_drewN | apply Kd.R_drew)); exact Kd.R_mono HO_23.out (fun _ hk => trivial)⟩, ⟨by repeat (first | (with_reducible first | exact HB.out | apply below_alloc | apply pw_below_drewN | apply below_drew1 | refine below_set ?_ GE336.out) | exact HB.out)⟩⟩
              · rw [if_neg c11] at H
                exact absurd H (by simp)
            · rw [if_neg c10] at H
              exact absurd H (by simp)
          · rw [if_neg c9] at H
            have c9b0 : decide (x25_1 < (t328.length : Int)) = false := decide_eq_false c9
            clear c9
            by_cases c43 : x6_1 = (a0.size : Int)
            · rw [if_pos c43] at H
              have c43b0 : (x6_1 == (a0.size : Int)) = true := beq_iff_eq.mpr c43
              have c43b1 : (x6_1 != (a0.size : Int)) = false := bne_eq_false_iff_eq.mpr c43
              clear c43
              replace H := Option.bind_eq_some_iff.mp H
              obtain ⟨t334, A440, H⟩ := H
              replace H : (some t334) = some r := H
              have A44 := Aside0.mk A440
              clear A440
              obtain rfl := Option.some.inj H
              go_wp2_with (first | (go_at_call 11; (with_reducible refine (lookoutlaw42_awake.calls k1  t334 _ ?side1 A44.out).mono ?_); (case side1 => exact Tabs.below HT.out (by repeat (first | (with_reducible first | exact HB.out | apply below_alloc | apply pw_below_drewN | apply below_drew1) | exact HB.out))); rintro e w45 ⟨rfl, hb⟩; have n0_ := Aside0.mk (Kd.R_below (by (with_reducible repeat (first | apply Kd.R_alloc | apply Kd.R_drewN | apply Kd.R_drew)); exact HO_3.out) hb); have n1_ := Aside0.mk (Kd.R_below (by (with_reducible repeat (first | apply Kd.R_alloc | apply Kd.R_drewN | apply Kd.R_drew)); exact HO_23.out) hb); have n2_ := Aside0.mk (below_step (by repeat (first | (with_reducible first | exact HB.out | apply below_alloc | apply pw_below_drewN | apply below_drew1) | exact HB.out)) hb); clear HO_3; clear HO_23; clear HB; have HO_3 := n0_; have HO_23 := n1_; have HB := n2_; clear n0_ n1_ n2_; (try clear hb); (try clear hb2); (try clear hk); (try clear hi)))
              go_ret
              exact ⟨by first | rfl | (simp [errW_none, errW_some] <;> rfl) | (simp [*, errW_none, errW_some] <;> rfl), by repeat (first | (with_reducible first | exact HB.out | apply below_alloc | apply pw_below_drewN | apply below_drew1) | exact HB.out)⟩
            · rw [if_neg c43] at H
              have c43b0 : (x6_1 == (a0.size : Int)) = false := beq_eq_false_iff_ne.mpr c43
              have c43b1 : (x6_1 != (a0.size : Int)) = true := bne_iff_ne.mpr c43
              obtain rfl := Option.some.inj H
              go_wp2
              go_ret
              exact ⟨by first | rfl | (simp [errW_none, errW_some] <;> rfl) | (simp [*, errW_none, errW_some] <;> rfl), by repeat (first | (with_reducible first | exact HB.out | apply below_alloc | apply pw_below_drewN | apply below_drew1) | exact HB.out)⟩
    · rw [if_neg c6] at H
      have c6b0 : (t330 == 0) = false := beq_eq_false_iff_ne.mpr c6
      have c6b1 : (t330 != 0) = true := bne_iff_ne.mpr c6
      replace H := Option.bind_eq_some_iff.mp H
      obtain ⟨t333, A460, H⟩ := H
      replace H : (some t333) = some r := H
      have A46 := Aside0.mk A460
      clear A460
      obtain rfl := Option.some.inj H
      go_enter Tryz.func9, Tryz.ntmps9
      go_wp2_with (first | ((with_reducible refine gate_callee (f := 17) rfl ?_); refine goesL_ (some 16) rfl rfl Tryz.func17 (by kernel_rfl) rfl #[.string a0] rfl (by (try simp only [List.map_toArray, List.map_cons, List.map_nil]); first | done | rfl | (simp only [List.length_drop, List.length_take]; rfl)) ?_; (with_reducible refine (lexer_Tokens.calls a0 t328 t329 t330 _ ?side1 A5.out).mono ?_); (case side1 => exact Tabs.below HT.out (by repeat (first | (with_reducible first | exact HB.out | apply below_alloc | apply pw_below_drewN | apply below_drew1) | exact HB.out))); rintro e w47 ⟨v331, rfl, ho0, hb⟩; refine ⟨_, rfl, ?_⟩; have n0_ := Aside0.mk (Kd.R_lower ho0 (below_size (by repeat (first | (with_reducible first | exact HB.out | apply below_alloc | apply pw_below_drewN | apply below_drew1) | exact HB.out)))); have n1_ := Aside0.mk (below_step (by repeat (first | (with_reducible first | exact HB.out | apply below_alloc | apply pw_below_drewN | apply below_drew1) | exact HB.out)) hb); clear HB; have HO332 := n0_; have HB := n1_; clear n0_ n1_; (try clear hb); (try clear hb2); (try clear hk); (try clear hi); (try clear ho0)) | ((with_reducible refine gate_callee (f := 11) rfl ?_); refine goesL_ (some 22) rfl rfl Tryz.func11 (by kernel_rfl) rfl #[] rfl (by (try simp only [List.map_toArray, List.map_cons, List.map_nil]); first | done | rfl | (simp only [List.length_drop, List.length_take]; rfl)) ?_; (with_reducible refine (lookoutlaw42_awake.calls k  t333 _ ?side1 A46.out).mono ?_); (case side1 => exact Tabs.below HT.out (by repeat (first | (with_reducible first | exact HB.out | apply below_alloc | apply pw_below_drewN | apply below_drew1) | exact HB.out))); rintro e w48 ⟨rfl, hb⟩; refine ⟨_, rfl, ?_⟩; have n0_ := Aside0.mk (Kd.R_below (by (with_reducible repeat (first | apply Kd.R_alloc | apply Kd.R_drewN | apply Kd.R_drew)); exact HO332.out) hb); have n1_ := Aside0.mk (below_step (by repeat (first | (with_reducible first | exact HB.out | apply below_alloc | apply pw_below_drewN | apply below_drew1) | exact HB.out)) hb); clear HO332; clear HB; have HO332 := n0_; have HB := n1_; clear n0_ n1_; (try clear hb); (try clear hb2); (try clear hk); (try clear hi)))
      go_ret
      exact ⟨by first | rfl | (simp [errW_none, errW_some] <;> rfl) | (simp [*, errW_none, errW_some] <;> rfl), by repeat (first | (with_reducible first | exact HB.out | apply below_alloc | apply pw_below_drewN | apply below_drew1) | exact HB.out)⟩
end Go.Proofs.YteokilkcchdeiaaGreatDoor.Q
end
section
namespace Go.Proofs.YteokilkcchdeiaaGreatDoor.Q
open Go.Proofs.YteokilkcchdeiaaGreatDoor
open Go.Proofs.YteokilkcchdeiaaGreatDoor.X
open Go.RowKit Go.Proofs.YteokilkcchdeiaaGreatDoorW.PrintWords Go.Proofs.YteokilkcchdeiaaGreatDoorW.PrintLast Go.Proofs.YteokilkcchdeiaaGreatDoorW.PrintMore
attribute [local go_sem] max2_int min2_int max_two min_two max_three min_three max_four min_four   -- for this text's walks alone
set_option linter.unusedVariables false
set_option linter.unusedSimpArgs false
end Go.Proofs.YteokilkcchdeiaaGreatDoor.Q
end
section
namespace Go.Proofs.YteokilkcchdeiaaGreatDoor.X
open Go.RowKit Go.Shelf Go.Proofs.YteokilkcchdeiaaGreatDoor Go.Proofs.YteokilkcchdeiaaGreatDoorW.PrintWords Go.Proofs.YteokilkcchdeiaaGreatDoorW.PrintLast Go.Proofs.YteokilkcchdeiaaGreatDoorW.PrintMore Go.Proofs.YteokilkcchdeiaaGreatDoor.Q
set_option linter.unusedVariables false
set_option maxRecDepth 100000 in
theorem awake_t : lookoutlaw42_awake.f 60 = some true := by decide +kernel
theorem awake_k (k : Nat) : lookoutlaw42_awake.f (60 + k) = some true := more_rounds (g := fun k => lookoutlaw42_awake.f k) lookoutlaw42_awake.mono 60 k _ awake_t
attribute [local irreducible] runN numV
end Go.Proofs.YteokilkcchdeiaaGreatDoor.X
end
section
namespace Go.Proofs.YteokilkcchdeiaaGreatDoor.X
open Go.RowKit Go.Shelf Go.Proofs.YteokilkcchdeiaaGreatDoor Go.Proofs.YteokilkcchdeiaaGreatDoorW.PrintWords Go.Proofs.YteokilkcchdeiaaGreatDoorW.PrintLast Go.Proofs.YteokilkcchdeiaaGreatDoorW.PrintMore Go.Proofs.YteokilkcchdeiaaGreatDoor.Q
set_option linter.unusedVariables false
attribute [local irreducible] sumN farN numV unitP
theorem blankF (c : UInt8) (l : List UInt8) : blankG false (c :: l) = if c = 32 ∨ c = 9 ∨ c = 10 then 1 + blankG false l else if c = 35 then 1 + blankG true l else 0 := by rw [blankG]
theorem blankT (c : UInt8) (l : List UInt8) : blankG true (c :: l) = if c = 10 then 1 + blankG false l else 1 + blankG true l := by rw [blankG]
theorem blank_nl (t : List UInt8) : ∀ (b : Bool) (l : List UInt8), (blankG b l < l.length → blankG b (l ++ 10 :: t) = blankG b l) ∧ (blankG b l = l.length → blankG b (l ++ 10 :: t) = l.length + 1 + blankG false t)
  | false, [] => by
    refine ⟨fun h => absurd h (by simp), fun _ => ?_⟩
    show blankG false (10 :: t) = _
    simp [blankG]
  | true, [] => by
    refine ⟨fun h => absurd h (by simp), fun _ => ?_⟩
    show blankG true (10 :: t) = _
    simp [blankG]
  | false, c :: l => by
    obtain ⟨f1, f2⟩ := blank_nl t false l
    obtain ⟨g1, g2⟩ := blank_nl t true l
    rw [List.cons_append, blankF, blankF]
    simp only [List.length_cons]
    split
    · exact ⟨fun h => by rw [f1 (by omega)], fun h => by rw [f2 (by omega)]; omega⟩
    · split
      · exact ⟨fun h => by rw [g1 (by omega)], fun h => by rw [g2 (by omega)]; omega⟩
      · exact ⟨fun _ => rfl, fun h => absurd h (by omega)⟩
  | true, c :: l => by
    obtain ⟨f1, f2⟩ := blank_nl t false l
    obtain ⟨g1, g2⟩ := blank_nl t true l
    rw [List.cons_append, blankT, blankT]
    simp only [List.length_cons]
    split
    · exact ⟨fun h => by rw [f1 (by omega)], fun h => by rw [f2 (by omega)]; omega⟩
    · exact ⟨fun h => by rw [g1 (by omega)], fun h => by rw [g2 (by omega)]; omega⟩
attribute [local irreducible] F0 blankG
def goodR (ys : List Rd) : Prop := ∀ x ∈ ys, x.err = 0
def sq (l : List UInt8) : List Rd := seqT X0 4001 (l.drop (blankG false l)) (blankG false l)
theorem seq_last : ∀ (k : Nat) (l : List UInt8) (i : Nat), goodR (seqT X0 k l i) ∨ ∃ x, (seqT X0 k l i).getLast? = some x ∧ x.err ≠ 0
  | 0, _, _ => .inl (fun x hx => by cases hx)
  | k + 1, l, i => by
    by_cases hl : l = []
    · subst hl; rw [seqT_nil]; exact .inl (fun x hx => by cases hx)
    · by_cases he : (F0 l).err = 0
      · rw [seqT_ok X0 k l i (F0 l) rfl hl he]
        rcases seq_last k (l.drop ((F0 l).size.toNat + X0.B (l.drop (F0 l).size.toNat))) (i + ((F0 l).size.toNat + X0.B (l.drop (F0 l).size.toNat))) with h | ⟨x, h1, h2⟩
        · refine .inl (fun x hx => ?_)
          rcases List.mem_cons.1 hx with rfl | hx
          · exact he
          · exact h x hx
        · exact .inr ⟨x, by rw [List.getLast?_cons, h1]; rfl, h2⟩
      · rw [seqT_bad X0 k l i (F0 l) rfl hl he]
        exact .inr ⟨_, rfl, he⟩
theorem tokens_sq (s : ByteArray) (h : s.size ≤ 4000) : tokensOf X0 s = tokR (sq s.data.toList) s.size := by
  unfold tokensOf; rw [if_neg (by omega)]; rfl
def tokE (n : Int) : S29 := ⟨0, ⟨#[]⟩, ⟨0, 0⟩, n⟩
theorem tokens_good {s : ByteArray} (h : s.size ≤ 4000) (hg : goodR (sq s.data.toList)) : tokensOf X0 s = ((sq s.data.toList).map tokS ++ [tokE s.size], 0, 0) := by
  rw [tokens_sq s h, tokR_ok hg]; rfl
theorem tokens_bad {s : ByteArray} (h : s.size ≤ 4000) {x : Rd} (hx : (sq s.data.toList).getLast? = some x) (he : x.err ≠ 0) : tokensOf X0 s = ([], x.at_, x.err) := by
  rw [tokens_sq s h, tokR_bad hx he]
theorem sq_len (l : List UInt8) : (sq l).length ≤ 4001 := seqT_len X0 _ _ _
end Go.Proofs.YteokilkcchdeiaaGreatDoor.X
end
section
namespace Go.Proofs.YteokilkcchdeiaaGreatDoor.X
open Go.RowKit Go.Shelf Go.Proofs.YteokilkcchdeiaaGreatDoor Go.Proofs.YteokilkcchdeiaaGreatDoorW.PrintWords Go.Proofs.YteokilkcchdeiaaGreatDoorW.PrintLast Go.Proofs.YteokilkcchdeiaaGreatDoorW.PrintMore Go.Proofs.YteokilkcchdeiaaGreatDoor.Q
set_option linter.unusedVariables false
theorem quoL_cons (c : UInt8) (l : List UInt8) : quoL (c :: l) = quo1 c ++ quoL l := by simp [quoL]
theorem textGo_inv : ∀ (l : List UInt8) (i : Int) (acc acc' : List UInt8) (j : Int), textGo l i acc = (acc', j, 0) → ∃ q : List UInt8, acc' = acc ++ q ∧ j = i + (quoL q).length + 1 ∧ (quoL q ++ [34]) <+: l
  | [], i, acc, acc', j, h => by simp [textGo] at h
  | [c], i, acc, acc', j, h => by
    by_cases h34 : c = 34
    · subst h34
      rw [textGo_quote] at h
      simp only [Prod.mk.injEq] at h
      exact ⟨[], by rw [← h.1]; simp, by simp [quoL]; omega, by simp [quoL]⟩
    · by_cases h10 : c = 10 <;> by_cases h92 : c = 92 <;> simp [textGo, h34, h10, h92] at h
  | c :: d :: l, i, acc, acc', j, h => by
    by_cases h34 : c = 34
    · subst h34
      rw [textGo_quote] at h
      simp only [Prod.mk.injEq] at h
      exact ⟨[], by rw [← h.1]; simp, by simp [quoL]; omega, by simp [quoL]⟩
    · by_cases h10 : c = 10
      · subst h10
        rw [textGo_line] at h
        simp at h
      · by_cases h92 : c = 92
        · subst h92
          by_cases h110 : d = 110
          · subst h110
            rw [textGo_n] at h
            obtain ⟨q, q1, q2, q3⟩ := textGo_inv l _ _ _ _ h
            refine ⟨10 :: q, by rw [q1]; simp, ?_, ?_⟩
            · rw [q2, quoL_cons, List.length_append, show (quo1 10).length = 2 from rfl]; omega
            · rw [quoL_cons, show quo1 10 = [92, 110] from rfl]
              simpa using q3
          · by_cases hq : d = 92 ∨ d = 34
            · rw [textGo_esc d _ _ _ hq] at h
              obtain ⟨q, q1, q2, q3⟩ := textGo_inv l _ _ _ _ h
              have e : quo1 d = [92, d] := by unfold quo1; rw [if_pos hq]
              refine ⟨d :: q, by rw [q1]; simp, ?_, ?_⟩
              · rw [q2, quoL_cons, List.length_append, e]; simp only [List.length_cons, List.length_nil]; omega
              · rw [quoL_cons, e]
                simpa using q3
            · rw [textGo_bad d _ _ _ h110 (fun h => hq (.inl h)) (fun h => hq (.inr h))] at h
              simp at h
        · rw [textGo_other c _ _ _ h34 h10 h92] at h
          obtain ⟨q, q1, q2, q3⟩ := textGo_inv (d :: l) _ _ _ _ h
          have e : quo1 c = [c] := by unfold quo1; rw [if_neg (by rintro (h | h); exact h92 h; exact h34 h), if_neg h10]
          refine ⟨c :: q, by rw [q1]; simp, ?_, ?_⟩
          · rw [q2, quoL_cons, List.length_append, e]; simp only [List.length_cons, List.length_nil]; omega
          · rw [quoL_cons, e]
            simpa using q3
def textW (r : Rd) : List UInt8 := if r.kind = 4 then 34 :: (quoL r.text.data.toList ++ [34]) else r.text.data.toList
def Stands (l : List UInt8) (r : Rd) : Prop := r.err = 0 → r.kind ≠ 0 ∧ textW r <+: l ∧ ((textW r).length : Int) = r.size ∧ (r.kind = 4 → r.text.size ≤ l.length)
theorem take_stands (l : List UInt8) (n : Nat) (h : n ≤ l.length) : l.take n <+: l ∧ ((l.take n).length : Int) = n := by
  refine ⟨List.take_prefix n l, ?_⟩
  rw [List.length_take]; omega
theorem nameR_stands (l : List UInt8) : Stands l (nameR l) := by
  have hn := (nameN_le l (l.length + 1) (partN l) (partN_le l)).2
  unfold nameR
  generalize nameN (l.length + 1) l (partN l) = n at hn
  unfold nameF
  split
  · intro h; cases h
  · intro _
    obtain ⟨t1, t2⟩ := take_stands l n hn
    exact ⟨show ¬ (1 : Int) = 0 by decide, t1, t2, fun h => absurd h (show ¬ (1 : Int) = 4 by decide)⟩
theorem durEnd_stands (l : List UInt8) (n : Nat) (hn : n ≤ l.length) (s : Int) (a b c : Bool) : Stands l (durEnd l n s a b c) := by
  unfold durEnd
  split
  · intro h; cases h
  · split
    · intro h; cases h
    · split
      · intro h; cases h
      · intro _
        obtain ⟨t1, t2⟩ := take_stands l n hn
        exact ⟨show ¬ (3 : Int) = 0 by decide, t1, t2, fun h => absurd h (show ¬ (3 : Int) = 4 by decide)⟩
theorem durGo_stands (l : List UInt8) : ∀ (k n : Nat) (s b : Int) (x y z : Bool), n ≤ l.length → l.length < n + k → Stands l (durGo k l n s b x y z)
  | 0, n, s, b, x, y, z, h, h2 => by omega
  | k + 1, n, s, b, x, y, z, h, h2 => by
    have hd := runN_le digB (l.drop n)
    rw [List.length_drop] at hd
    rw [durGo_succ k l n _ _ s b x y z rfl rfl]
    split
    · exact durEnd_stands l n h _ _ _ _
    · rename_i hc
      have hu := unitP_len (l.drop (n + runN digB (l.drop n))) (by omega)
      rw [List.length_drop] at hu
      exact durGo_stands l k _ _ _ _ _ _ (by omega) (by omega)
theorem durR_stands (l : List UInt8) : Stands l (durR l) := durGo_stands l _ 0 0 (-1) false false false (by omega) (by omega)
theorem numEnd_stands (l : List UInt8) (n p : Nat) (ds : List UInt8) (hn : n ≤ l.length) : Stands l (numEnd l n p ds) := by
  unfold numEnd
  split
  · intro h; cases h
  · intro _
    obtain ⟨t1, t2⟩ := take_stands l n hn
    exact ⟨show ¬ (2 : Int) = 0 by decide, t1, t2, fun h => absurd h (show ¬ (2 : Int) = 4 by decide)⟩
theorem numR_stands (l : List UInt8) (h0 : 0 < (numR l).size) : Stands l (numR l) := by
  have hw := runN_le digB l
  unfold numR at h0 ⊢
  simp only [] at h0 ⊢
  split
  · rename_i hz
    rw [if_pos hz] at h0
    exact absurd h0 (by decide)
  · split
    · rename_i h46
      have hlt : runN digB l < l.length := by
        by_cases hlt : runN digB l < l.length
        · exact hlt
        · rw [getD_end _ _ (by omega)] at h46; exact absurd h46 (by decide)
      have hp := runN_le digB (l.drop (runN digB l + 1))
      rw [List.length_drop] at hp
      split
      · intro h; cases h
      · split
        · intro h; cases h
        · exact numEnd_stands l _ _ _ (by omega)
    · split
      · intro h; cases h
      · exact numEnd_stands l _ _ _ hw
theorem signF_stands (l : List UInt8) : ∀ xs : List (List UInt8), 0 < (signF xs l).size → Stands l (signF xs l)
  | [], h => absurd h (show ¬ (0 : Int) < 0 by decide)
  | x :: xs, h => by
    unfold signF at h ⊢
    split
    · rename_i hp
      intro _
      exact ⟨show ¬ (5 : Int) = 0 by decide, List.isPrefixOf_iff_prefix.1 hp, rfl, fun h => absurd h (show ¬ (5 : Int) = 4 by decide)⟩
    · rename_i hp
      rw [if_neg hp] at h
      exact signF_stands l xs h
theorem textRd_stands (l : List UInt8) (h0 : 0 < (textRd l).size) : Stands l (textRd l) := by
  unfold textRd at h0 ⊢
  split
  · rename_i h34
    cases l with
    | nil => exact absurd h34 (by decide)
    | cons c l =>
      obtain rfl : c = 34 := h34
      intro he
      rw [List.drop_succ_cons, List.drop_zero] at he ⊢
      cases ht : textGo l 1 [] with
      | mk p1 p =>
        obtain ⟨p2, p3⟩ := p
        rw [ht] at he
        have h3 : p3 = 0 := by
          unfold textR rdOf7 at he
          simp only at he
          split at he
          · rename_i h; exact h
          · exact he
        subst h3
        obtain ⟨q, q1, q2, q3⟩ := textGo_inv l 1 [] p1 p2 ht
        rw [List.nil_append] at q1
        subst q1
        rw [textR_ok]
        have hle := q3.length_le
        rw [List.length_append] at hle
        have hql : p1.length ≤ (quoL p1).length := by
          clear ht q2 q3 hle he
          induction p1 with
          | nil => simp
          | cons c l ih =>
            have : 1 ≤ (quo1 c).length := by unfold quo1; split <;> (try split) <;> simp
            rw [quoL_cons, List.length_append, List.length_cons]; omega
        refine ⟨show ¬ (4 : Int) = 0 by decide, ?_, ?_, fun _ => ?_⟩
        · show (34 :: (quoL p1 ++ [34])) <+: 34 :: l
          exact List.cons_prefix_cons.2 ⟨rfl, q3⟩
        · show (((34 :: (quoL p1 ++ [34]) : List UInt8).length : Nat) : Int) = p2
          rw [q2, List.length_cons, List.length_append]
          simp only [List.length_cons, List.length_nil]
          omega
        · show (⟨p1.toArray⟩ : ByteArray).size ≤ (34 :: l).length
          rw [List.length_cons]
          simp only [ByteArray.size, List.size_toArray]
          omega
  · rename_i h34
    rw [if_neg h34] at h0
    exact absurd h0 (by decide)
theorem pick_stands {l : List UInt8} {r : Rd} (h : Stands l r) : Stands l (pick r) := by
  unfold pick
  split
  · exact h
  · rename_i he; intro h2; exact absurd h2 he
theorem F0_stands (l : List UInt8) : Stands l (F0 l) := by
  unfold F0 firstOf
  split
  · exact pick_stands (nameR_stands l)
  · split
    · exact pick_stands (durR_stands l)
    · split
      · rename_i h; exact pick_stands (numR_stands l h)
      · split
        · rename_i h; exact pick_stands (textRd_stands l h)
        · split
          · rename_i h; exact pick_stands (signF_stands l _ h)
          · intro h; exact absurd h (by decide)
theorem idx_one (b : UInt8) : ∀ l : List UInt8, (Lib.index l [b] = -1 → ∀ c ∈ l, c ≠ b) ∧ (0 ≤ Lib.index l [b] → l = l.take (Lib.index l [b]).toNat ++ b :: l.drop ((Lib.index l [b]).toNat + 1) ∧ ∀ c ∈ l.take (Lib.index l [b]).toNat, c ≠ b)
  | [] => by simp [Lib.index]
  | c :: l => by
    obtain ⟨h1, h2⟩ := idx_one b l
    have hge := Lib.index_ge l [b]
    by_cases hc : c = b
    · subst hc
      have e : Lib.index (c :: l) [c] = 0 := by simp [Lib.index]
      rw [e]
      exact ⟨fun h => absurd h (by decide), fun _ => ⟨by simp, by simp⟩⟩
    · have hp : List.isPrefixOf [b] (c :: l) = false := by simp [List.isPrefixOf]; intro h; exact hc h.symm
      by_cases hi : Lib.index l [b] = -1
      · have e : Lib.index (c :: l) [b] = -1 := by simp [Lib.index, hp, hi]
        rw [e]
        refine ⟨fun _ d hd => ?_, fun h => absurd h (by decide)⟩
        rcases List.mem_cons.1 hd with rfl | hd
        · exact hc
        · exact h1 hi d hd
      · have e : Lib.index (c :: l) [b] = Lib.index l [b] + 1 := by simp [Lib.index, hp, hi]
        have e2 : (Lib.index l [b] + 1).toNat = (Lib.index l [b]).toNat + 1 := by omega
        obtain ⟨g1, g2⟩ := h2 (by omega)
        rw [e, e2]
        refine ⟨fun h => absurd h (by omega), fun _ => ⟨?_, fun d hd => ?_⟩⟩
        · rw [List.take_succ_cons, List.drop_succ_cons, List.cons_append, ← g1]
        · rw [List.take_succ_cons] at hd
          rcases List.mem_cons.1 hd with rfl | hd
          · exact hc
          · exact g2 d hd
theorem blank_pre : ∀ (a r : List UInt8), (∀ c ∈ a, c ≠ 35 ∧ c ≠ 10) → blankG false (a ++ r) = (a ++ r).length → ∀ c ∈ a, c = 32 ∨ c = 9
  | [], _, _, _ => by simp
  | c :: a, r, h, hb => by
    rw [List.cons_append, blankF] at hb
    obtain ⟨h1, h2⟩ := h c (by simp)
    rw [List.length_cons] at hb
    split at hb
    · rename_i hc
      intro d hd
      rcases List.mem_cons.1 hd with rfl | hd
      · rcases hc with hc | hc | hc
        · exact .inl hc
        · exact .inr hc
        · exact absurd hc h2
      · exact blank_pre a r (fun x hx => h x (by simp [hx])) (by omega) d hd
    · omega
def lineOK (p : List UInt8) : Prop := Lib.trimS (Lib.cut p [35]).1 [32, 9] = []
theorem dw_nil (p : UInt8 → Bool) : ∀ l : List UInt8, (∀ x ∈ l, p x = true) → l.dropWhile p = []
  | [], _ => rfl
  | c :: l, h => by rw [List.dropWhile_cons, if_pos (h c (by simp)), dw_nil p l (fun x hx => h x (by simp [hx]))]
theorem trim_nil (l : List UInt8) (h : ∀ c ∈ l, c = 32 ∨ c = 9) : Lib.trimS l [32, 9] = [] := by
  have h1 : Lib.trimRightS l [32, 9] = [] := by
    unfold Lib.trimRightS
    rw [List.reverse_eq_nil_iff]
    refine dw_nil _ _ (fun x hx => ?_)
    rcases h x (by simpa using hx) with rfl | rfl <;> decide
  unfold Lib.trimS
  rw [h1]; rfl
theorem line_ok (a : List UInt8) (h10 : ∀ c ∈ a, c ≠ 10) (hb : blankG false a = a.length) : lineOK a := by
  obtain ⟨g1, g2⟩ := idx_one 35 a
  unfold lineOK Lib.cut
  have hge := Lib.index_ge a [35]
  by_cases hi : 0 ≤ Lib.index a [35]
  · rw [if_pos hi]
    obtain ⟨e1, e2⟩ := g2 hi
    refine trim_nil _ (blank_pre _ (35 :: a.drop ((Lib.index a [35]).toNat + 1)) (fun c hc => ⟨e2 c hc, h10 c (List.mem_of_mem_take hc)⟩) ?_)
    rw [← e1]; exact hb
  · rw [if_neg hi]
    refine trim_nil _ (blank_pre _ [] (fun c hc => ⟨g1 (by omega) c hc, h10 c hc⟩) ?_)
    rw [List.append_nil]; exact hb
theorem lines_ok : ∀ (k : Nat) (s : ByteArray), Lib.countB s (⟨#[10]⟩ : ByteArray) = k → blankG false s.data.toList = s.data.toList.length → ∀ p ∈ Lib.splitB (⟨#[10]⟩ : ByteArray) 0 k s, lineOK p.data.toList ∧ p.size ≤ s.size
  | 0, s, hk, hb, p, hp => by
    rw [Lib.splitB_zero] at hp
    rw [List.mem_singleton.1 hp]
    refine ⟨line_ok _ ?_ hb, Nat.le_refl _⟩
    rcases Lib.indexB_cases s (⟨#[10]⟩ : ByteArray) with hix | ⟨i, hix, _⟩
    · exact (idx_one 10 s.data.toList).1 hix
    · have := Lib.countB_hit s _ i (by decide) hix
      omega
  | k + 1, s, hk, hb, p, hp => by
    rcases Lib.indexB_cases s (⟨#[10]⟩ : ByteArray) with hix | ⟨i, hix, hroom⟩
    · rw [Lib.countB_miss s _ hix] at hk; omega
    · have hc := Lib.countB_hit s _ i (by decide) hix
      rw [Lib.splitB_hit _ 0 k s i hix] at hp
      have hix2 : Lib.index s.data.toList [10] = (i : Int) := hix
      obtain ⟨e1, e2⟩ := (idx_one 10 s.data.toList).2 (by omega)
      rw [hix2, Int.toNat_natCast] at e1 e2
      have hsz : (⟨#[10]⟩ : ByteArray).size = 1 := rfl
      rw [hsz] at hroom hc hp
      have hlen : (s.data.toList.take i).length = i := by rw [List.length_take, tl_size]; omega
      obtain ⟨b1, b2⟩ := blank_nl (s.data.toList.drop (i + 1)) false (s.data.toList.take i)
      rw [← e1, hlen] at b1 b2
      have hble := blankG_le false (s.data.toList.take i)
      rw [hlen] at hble
      have hba : blankG false (s.data.toList.take i) = i := by
        by_cases hlt : blankG false (s.data.toList.take i) < i
        · rw [b1 hlt, tl_size] at hb; omega
        · omega
      have hbb : blankG false (s.data.toList.drop (i + 1)) = (s.data.toList.drop (i + 1)).length := by
        have := b2 hba
        rw [hb, tl_size] at this
        rw [List.length_drop, tl_size]; omega
      rcases List.mem_cons.1 hp with rfl | hp
      · rw [Nat.add_zero, Lib.extract_upto]
        refine ⟨line_ok _ e2 (by rw [hba, hlen]), ?_⟩
        have hz : (⟨(s.data.toList.take i).toArray⟩ : ByteArray).size = i := by simp only [ByteArray.size, List.size_toArray]; exact hlen
        rw [hz]; omega
      · have := lines_ok k _ (by omega) (by rw [ext_l]; exact hbb) p hp
        refine ⟨this.1, ?_⟩
        have h2 := this.2
        rw [ext_size] at h2
        omega
theorem blank_loop (ls : List ByteArray) (hl : ls.length ≤ 100000) (hok : ∀ p ∈ ls, lineOK p.data.toList ∧ p.size ≤ 100000) : ∀ (m i k : Nat), ls.length - i ≤ m → i ≤ ls.length → m < k → lookoutlaw42_blank.l0 k ls ls.length i = some true := by
  intro m
  induction m with
  | zero =>
    intro i k h1 h2 h3
    obtain ⟨k, rfl⟩ : ∃ q, k = q + 1 := ⟨k - 1, by omega⟩
    unfold lookoutlaw42_blank.l0
    rw [if_neg (by omega)]
  | succ m ih =>
    intro i k h1 h2 h3
    obtain ⟨k, rfl⟩ : ∃ q, k = q + 1 := ⟨k - 1, by omega⟩
    unfold lookoutlaw42_blank.l0
    by_cases hi : i < ls.length
    · have hr : rdOf ByteArray.empty ls i = ls[i] := by
        unfold rdOf
        rw [Int.toNat_natCast, List.getD_eq_getElem?_getD, List.getElem?_eq_getElem hi]; rfl
      obtain ⟨o1, o2⟩ := hok ls[i] (List.getElem_mem hi)
      have hcl : ((Lib.cut ls[i].data.toList [35]).1).length ≤ ls[i].data.toList.length := by
        unfold Lib.cut
        split
        · rw [List.length_take]; omega
        · exact Nat.le_refl _
      rw [if_pos (by omega), if_pos (by omega), if_pos (by omega), hr]
      unfold strings_Cut.f
      rw [if_pos (by omega), Option.bind_some]
      unfold strings_Trim.f
      rw [if_pos ⟨by
          show (⟨((Lib.cut ls[i].data.toList [35]).1).toArray⟩ : ByteArray).size ≤ _
          simp only [ByteArray.size, List.size_toArray]
          rw [tl_size] at hcl
          omega, by decide, by decide⟩, Option.bind_some]
      have ho : Lib.trimS (Lib.cut ls[i].data.toList [35]).1 [32, 9] = [] := o1
      rw [show (⟨(Lib.trimS (⟨(Lib.cut ls[i].data.toList (⟨#[35]⟩ : ByteArray).data.toList).1.toArray⟩ : ByteArray).data.toList (⟨#[32, 9]⟩ : ByteArray).data.toList).toArray⟩ : ByteArray) = ⟨#[]⟩ from by
        show (⟨(Lib.trimS (Lib.cut ls[i].data.toList [35]).1 [32, 9]).toArray⟩ : ByteArray) = _
        rw [ho]]
      rw [if_pos (by decide +kernel), w64 (n := (i : Int) + 1) (by omega) (by omega), show ((i : Int) + 1) = ((i + 1 : Nat) : Int) from by omega]
      exact ih (i + 1) k (by omega) (by omega) (by omega)
    · rw [if_neg (by omega)]
theorem blank_true (s : ByteArray) (hs : s.size ≤ 5000) (hb : blankG false s.data.toList = s.data.toList.length) (k : Nat) (hk : 6000 ≤ k) : lookoutlaw42_blank.f k s = some true := by
  have hc := Lib.countB_le (⟨#[10]⟩ : ByteArray) (by decide) s.size s (Nat.le_refl _)
  have hl := Lib.splitB_all (⟨#[10]⟩ : ByteArray) (by decide) 0 _ s rfl
  unfold lookoutlaw42_blank.f strings_Split.f
  rw [if_pos ⟨by omega, by decide, hl, by omega⟩, Option.bind_some]
  refine blank_loop _ (by omega) (fun p hp => ?_) 5001 0 k (by omega) (by omega) (by omega)
  have := lines_ok _ s rfl hb p hp
  exact ⟨this.1, by omega⟩
theorem blank_take : ∀ (b : Bool) (l : List UInt8), blankG b (l.take (blankG b l)) = blankG b l
  | false, [] => rfl
  | true, [] => rfl
  | false, c :: l => by
    rw [blankF]
    split
    · rename_i h
      rw [Nat.add_comm, List.take_succ_cons, blankF, if_pos h, blank_take false l, Nat.add_comm]
    · rename_i h
      split
      · rename_i h2
        rw [Nat.add_comm, List.take_succ_cons, blankF, if_neg h, if_pos h2, blank_take true l, Nat.add_comm]
      · rfl
  | true, c :: l => by
    rw [blankT]
    split
    · rename_i h
      rw [Nat.add_comm, List.take_succ_cons, blankT, if_pos h, blank_take false l, Nat.add_comm]
    · rename_i h
      rw [Nat.add_comm, List.take_succ_cons, blankT, if_neg h, blank_take true l, Nat.add_comm]
attribute [local irreducible] F0 blankG
theorem places_l (s : ByteArray) (hs : s.size ≤ 600) (ts : List S29) (htl : ts.length ≤ 5000) : ∀ (m k' K i e j : Nat), s.size - i ≤ m → i ≤ s.size → e ≤ i → m < k' → 10000 + 3 * m ≤ K →
    blankG false ((s.data.toList.drop e).take (i - e)) = i - e → goodR (seqT X0 k' (s.data.toList.drop i) i) → ts.drop j = (seqT X0 k' (s.data.toList.drop i) i).map tokS ++ [tokE s.size] →
    lookoutlaw42_LexerPlaces.l0 K s ts e ts ts.length j = some true := by
  intro m
  induction m using Nat.strongRecOn with
  | _ m ih =>
    intro k' K i e j h1 h2 h3 h4 h5 h6 h7 h8
    obtain ⟨k', rfl⟩ : ∃ q, k' = q + 1 := ⟨k' - 1, by omega⟩
    obtain ⟨K, rfl⟩ : ∃ q, K = q + 3 := ⟨K - 3, by omega⟩
    have hj : j < ts.length := by
      have := congrArg List.length h8
      rw [List.length_drop, List.length_append, List.length_map] at this
      simp only [List.length_cons, List.length_nil] at this
      omega
    have hblank : lookoutlaw42_blank.f (K + 1) (s.extract e i) = some true := by
      have hx : (s.extract e i).data.toList = (s.data.toList.drop e).take (i - e) := by
        rw [← Lib.toList_data, Lib.extract_toList]
      refine blank_true _ ?_ ?_ _ (by omega)
      · rw [← tl_size, hx, List.length_take, List.length_drop, tl_size]; omega
      · rw [hx, h6, List.length_take, List.length_drop, tl_size]; omega
    by_cases hl : s.data.toList.drop i = []
    · have hie : i = s.size := by
        have := congrArg List.length hl
        rw [List.length_drop, tl_size, List.length_nil] at this
        omega
      subst hie
      rw [hl, seqT_nil, List.map_nil, List.nil_append] at h8
      have hjl : ts.length = j + 1 := by
        have := congrArg List.length h8
        rw [List.length_drop] at this
        simp only [List.length_cons, List.length_nil] at this
        omega
      have hr : rd_T29 ts j = tokE s.size := by
        unfold rd_T29
        rw [Int.toNat_natCast, List.getD_eq_getElem?_getD, ← Nat.add_zero j, ← List.getElem?_drop, h8]; rfl
      unfold lookoutlaw42_LexerPlaces.l0
      (try dsimp only)
      rw [if_pos (by omega), if_pos (by omega), if_pos (by omega), hr]
      show (if (0 : Int) = 4 then _ else lookoutlaw42_LexerPlaces.j1 (K + 2) s ts e j (⟨#[]⟩ : ByteArray) ts ts.length j 0 (⟨#[]⟩ : ByteArray) 0 0 (s.size : Int)) = some true
      rw [if_neg (by decide)]
      unfold lookoutlaw42_LexerPlaces.j1
      (try dsimp only)
      rw [if_neg (by omega), if_neg (by omega), if_pos (by omega), if_pos (by omega), prefix_f, Option.bind_some, Int.toNat_natCast, if_pos (by rfl), if_pos (by omega), if_pos (by omega), Int.toNat_natCast, hblank, Option.bind_some]
      unfold lookoutlaw42_LexerPlaces.j2
      (try dsimp only)
      rw [if_neg (by decide), w64 (n := (ts.length : Int) - 1) (by omega) (by omega), if_neg (by rw [hjl]; simp), if_pos (by decide +kernel), if_pos rfl]
      rw [show ((⟨#[]⟩ : ByteArray).size : Int) = 0 from rfl, Int.add_zero, w64 (n := (s.size : Int)) (by omega) (by omega), w64 (n := (j : Int) + 1) (by omega) (by omega)]
      obtain ⟨K, rfl⟩ : ∃ q, K = q + 1 := ⟨K - 1, by omega⟩
      unfold lookoutlaw42_LexerPlaces.l0
      (try dsimp only)
      rw [if_neg (by omega), if_pos rfl, show K = 60 + (K - 60) from by omega, awake_k]
      rfl
    · by_cases he : (F0 (s.data.toList.drop i)).err = 0
      · obtain ⟨s1, s2⟩ := F0_size _ hl he
        obtain ⟨t1, t2, t3, t4⟩ := F0_stands _ he
        rw [seqT_ok X0 k' _ i (F0 (s.data.toList.drop i)) rfl hl he] at h7 h8
        have hB := X0.hB ((s.data.toList.drop i).drop (F0 (s.data.toList.drop i)).size.toNat)
        rw [List.length_drop, tl_size] at s2
        rw [List.length_drop, List.length_drop, tl_size] at hB
        have hXB : X0.B ((s.data.toList.drop i).drop (F0 (s.data.toList.drop i)).size.toNat) = blankG false ((s.data.toList.drop i).drop (F0 (s.data.toList.drop i)).size.toNat) := rfl
        rw [List.length_drop, tl_size] at t4
        generalize hF : F0 (s.data.toList.drop i) = r at *
        obtain ⟨n, hn⟩ : ∃ n : Nat, r.size = n := ⟨r.size.toNat, by omega⟩
        rw [hn, Int.toNat_natCast, List.drop_drop] at h7 h8 hB hXB
        rw [List.drop_drop] at h7 h8
        have hr : rd_T29 ts j = tokS { r with at_ := i } := by
          unfold rd_T29
          rw [Int.toNat_natCast, List.getD_eq_getElem?_getD, ← Nat.add_zero j, ← List.getElem?_drop, h8]; rfl
        have htsl : j + 2 ≤ ts.length := by
          have := congrArg List.length h8
          rw [List.length_drop, List.length_append, List.length_map, List.length_cons] at this
          simp only [List.length_cons, List.length_nil] at this
          omega
        have hwl : (textW r).length = n := by omega
        have hws : (⟨(textW r).toArray⟩ : ByteArray).size = n := by simp only [ByteArray.size, List.size_toArray]; exact hwl
        have hj1 : lookoutlaw42_LexerPlaces.j1 (K + 2) s ts e j ⟨(textW r).toArray⟩ ts ts.length j r.kind r.text r.num r.den (i : Int) = some true := by
          unfold lookoutlaw42_LexerPlaces.j1
          (try dsimp only)
          rw [if_neg (by omega), if_neg (by omega), if_pos (by omega), if_pos (by omega), prefix_f, Option.bind_some, Int.toNat_natCast, ext_l, if_pos (List.isPrefixOf_iff_prefix.2 t2), if_pos (by omega), if_pos (by omega), Int.toNat_natCast, hblank, Option.bind_some]
          unfold lookoutlaw42_LexerPlaces.j2
          (try dsimp only)
          have hb1 : (r.kind == 0) = false := beq_eq_false_iff_ne.2 t1
          have hb2 : ((j : Int) == (ts.length : Int) - 1) = false := beq_eq_false_iff_ne.2 (by omega)
          have hne : ¬ (⟨(textW r).toArray⟩ : ByteArray).toList = [] := by
            rw [Lib.toList_data]
            show ¬ textW r = []
            intro h
            rw [h] at hwl
            simp at hwl
            omega
          rw [if_neg (by decide), w64 (n := (ts.length : Int) - 1) (by omega) (by omega), hb1, hb2, if_neg (by decide), if_neg hne, hws, w64 (n := (i : Int) + n) (by omega) (by omega), w64 (n := (j : Int) + 1) (by omega) (by omega), show ((i : Int) + n) = ((i + n : Nat) : Int) from by omega, show ((j : Int) + 1) = ((j + 1 : Nat) : Int) from by omega]
          rw [hXB] at h7 h8 hB
          refine ih (s.size - (i + (n + blankG false (s.data.toList.drop (i + n))))) (by omega) k' K (i + (n + blankG false (s.data.toList.drop (i + n)))) (i + n) (j + 1) (Nat.le_refl _) (by omega) (by omega) (by omega) (by omega) ?_ ?_ ?_
          · rw [show i + (n + blankG false (s.data.toList.drop (i + n))) - (i + n) = blankG false (s.data.toList.drop (i + n)) from by omega]
            exact blank_take false _
          · exact fun x hx => h7 x (by simp [hx])
          · rw [← List.drop_drop, h8]; rfl
        unfold lookoutlaw42_LexerPlaces.l0
        (try dsimp only)
        rw [if_pos (by omega), if_pos (by omega), if_pos (by omega), hr]
        show (if r.kind = 4 then ((lexer_Quote.f r.text).bind fun t337 => lookoutlaw42_LexerPlaces.j1 (K + 2) s ts e j t337 ts ts.length j r.kind r.text r.num r.den (i : Int)) else lookoutlaw42_LexerPlaces.j1 (K + 2) s ts e j r.text ts ts.length j r.kind r.text r.num r.den (i : Int)) = some true
        by_cases h4k : r.kind = 4
        · have hw : textW r = 34 :: (quoL r.text.data.toList ++ [34]) := if_pos h4k
          rw [hw] at hj1
          rw [if_pos h4k]
          unfold lexer_Quote.f
          rw [if_pos (by have := t4 h4k; omega), Option.bind_some]
          exact hj1
        · have hw : textW r = r.text.data.toList := if_neg h4k
          rw [hw] at hj1
          rw [if_neg h4k]
          exact hj1
      · rw [seqT_bad X0 k' _ i (F0 (s.data.toList.drop i)) rfl hl he] at h7
        exact absurd (h7 _ (List.mem_singleton.2 rfl)) he
theorem places_t (s : ByteArray) : lookoutlaw42_LexerPlaces.f 20000 s = some true := by
  have hA : lookoutlaw42_awake.f 20000 = some true := awake_k 19940
  unfold lookoutlaw42_LexerPlaces.f
  by_cases hs : (s.size : Int) > 600
  · rw [if_pos hs, hA]; rfl
  · rw [if_neg hs]
    unfold lexer_Tokens.f
    rw [Option.bind_some]
    rcases seq_last 4001 (s.data.toList.drop (blankG false s.data.toList)) (blankG false s.data.toList) with hg | ⟨x, hx, he⟩
    · rw [tokens_good (by omega) hg]
      dsimp only
      rw [if_pos rfl]
      have hb := blankG_le false s.data.toList
      rw [tl_size] at hb
      have hl := sq_len s.data.toList
      have := places_l s (by omega) ((sq s.data.toList).map tokS ++ [tokE s.size]) (by rw [List.length_append, List.length_map]; simp; omega) 600 4001 20000 (blankG false s.data.toList) 0 0 (by omega) hb (by omega) (by omega) (by omega) (by rw [List.drop_zero, Nat.sub_zero]; exact blank_take false _) hg rfl
      exact this
    · have hx2 : (sq s.data.toList).getLast? = some x := hx
      rw [tokens_bad (by omega) hx2 he]
      dsimp only
      rw [if_neg he, hA]; rfl
end Go.Proofs.YteokilkcchdeiaaGreatDoor.X
end
